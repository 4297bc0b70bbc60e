/- Laws that the statement's proof leans on (joined out of several texts). -/
import Derived.Test.YtlkgekpmileobaaGreatGd2
import Derived.LaidEqlPtr
import Derived.Lib.Overlaps
import Derived.Laws.CopyRow
set_option maxHeartbeats 4000000
set_option linter.unusedVariables false
set_option linter.unusedSimpArgs false
set_option linter.unusedSectionVars false
namespace Go.Proofs.YtlkgekpmileobaaGreat
open Tryz
open List(toArray replicate)
open Go.RowKit
variable{P:Program}{N k n j e i b f clock m T yb:Nat}{ro:Option Nat}{p G H:Prop}{v u:Value}{ty t t2 ta tb kt et tp te:TypeId}{pos:String}{E W:World}{R l' l2 A cs F B:List Ab}{g:Option (Nat×Bool)}{ops:Array Oper}{Q:Exit->Act->World->Prop}{ds:List Deferred}{x y z:Operand}{K K':Value->List Ab->Prop}{pl:List BF}{o oj:Oper}{tbl:List (List Nat)}{sp:Fj}{vs zs args:List Value}{rest os:List Oper}{α κ:Type}{q:Addr}{ca cb:Array Value}{xs:List Operand}{sw:Sw}{a ks:List (Option IntKind)}{c:Code}{fn:Func}{rs:List ResultVar}
section
variable{fr fr':Fr}{l:List Ab}{d:Nat}
theorem zq(h:p:=by first|(show OpQ _ _ _ _ _ ⟨_,.move _,_,_,_,_⟩ _;exact p8 rfl)|(show OpQ _ _ _ _ _ ⟨_,.load _ _,_,_,_,_⟩ _;first|exact DH rfl (by((repeat(first|with_reducible apply Ak|with_reducible apply An));try with_reducible assumption)) (by(first|with_reducible assumption|((with_reducible apply Kd);(repeat(first|with_reducible apply LGet.zero|with_reducible apply LGet.succ)))))|exact HQ rfl (by((repeat(first|with_reducible apply Ak|with_reducible apply An));try with_reducible assumption)) (by(repeat(first|with_reducible apply LSub.done|with_reducible apply LSub.take|with_reducible apply LSub.drop))))|(show OpQ _ _ _ _ _ ⟨_,.fieldAddr _ _ _,_,_,_,_⟩ _;exact VQ rfl (by(first|with_reducible exact BC _|with_reducible exact CH _|exact rfl)))|(show OpQ _ _ _ _ _ ⟨_,.nilCheck _,_,_,_,_⟩ _;first|exact XI rfl|exact q_nilCheck_f rfl|exact q_nilCheck_y rfl)|(show OpQ _ _ _ _ _ ⟨_,.assign _,_,_,_,_⟩ _;exact fA rfl)|(show OpQ _ _ _ _ _ ⟨_,.indexAddr _ _ _,_,_,_,_⟩ _;first|exact VR rfl rfl Af (by(first|with_reducible exact BC _|with_reducible exact CH _|exact rfl))|exact XJ rfl rfl Af (by(first|with_reducible exact BC _|with_reducible exact CH _|exact rfl))|exact Rf rfl rfl Af|exact Tv rfl rfl Af)|(show OpQ _ _ _ _ _ ⟨_,.binOp .eql _ _ _ _,_,_,_,_⟩ _;first|exact tv rfl rfl|exact lI rfl rfl|exact tA rfl rfl Tryz.underlying4|exact bP rfl rfl)|(show OpQ _ _ _ _ _ ⟨_,.binOp .add _ _ _ _,_,_,_,_⟩ _;exact tg rfl rfl (by first|exact QA Af Af|exact OX Af Af))|(show OpQ _ _ _ _ _ ⟨_,.binOp .lss _ _ _ _,_,_,_,_⟩ _;exact to rfl rfl)|(show OpQ _ _ _ _ _ ⟨_,.pick _ _ _,_,_,_,_⟩ _;first|exact fB rfl rfl|exact fC rfl rfl)|(show OpQ _ _ _ _ _ ⟨_,.extract _ _,_,_,_,_⟩ _;exact bM rfl rfl)|(show OpQ _ _ _ _ _ ⟨_,.binOp .neq _ _ _ _,_,_,_,_⟩ _;first|exact tx rfl rfl|exact lJ rfl rfl|exact tB rfl rfl Tryz.underlying4|exact q_nenilsl rfl rfl)|(show OpQ _ _ _ _ _ ⟨_,.binOp .geq _ _ _ _,_,_,_,_⟩ _;exact tu rfl rfl)|(show OpQ _ _ _ _ _ ⟨_,.binOp .gtr _ _ _ _,_,_,_,_⟩ _;exact tt rfl rfl)|(show OpQ _ _ _ _ _ ⟨_,.binOp .leq _ _ _ _,_,_,_,_⟩ _;exact ts rfl rfl)|(show OpQ _ _ _ _ _ ⟨_,.unOp .not _ _,_,_,_,_⟩ _;exact tz rfl)|(show OpQ _ _ _ _ _ ⟨_,.binOp .sub _ _ _ _,_,_,_,_⟩ _;exact oV rfl rfl (by first|exact QA Af Af|exact OX Af Af))|(show OpQ _ _ _ _ _ ⟨_,.call {callee:= .builtin .len,args:=_,argTypes:=_},_,_,_,_⟩ _;first|exact fH rfl|exact q_len_map rfl (by((repeat(first|with_reducible apply Ak|with_reducible apply An));try with_reducible assumption)))|(show OpQ _ _ _ _ _ ⟨_,.field _ _ _,_,_,_,_⟩ _;first|exact q_field rfl (by(first|with_reducible assumption|((with_reducible apply Kd);(repeat(first|with_reducible apply LGet.zero|with_reducible apply LGet.succ)))))|exact q_fieldL rfl (by(repeat(first|with_reducible apply LSub.done|with_reducible apply LSub.take|with_reducible apply LSub.drop))))|(show OpQ _ _ _ _ _ ⟨_,.build _ _,_,_,_,_⟩ _;exact ZG rfl (by(repeat(first|apply BuildS.nil|(apply BuildS.one;(·infer_instance);(·infer_instance);(·rfl);(·(repeat(first|with_reducible apply LSet.zero|with_reducible apply LSet.succ))))|(apply BuildS.agg;(·infer_instance);(·infer_instance);(·rfl);(·(repeat(first|with_reducible apply LSetA.done|with_reducible apply LSetA.put|with_reducible apply LSetA.skip))))))))|(show OpQ _ _ _ _ _ ⟨_,.makeFunc _ _ _,_,_,_,_⟩ _;first|exact XM rfl|exact q_makeFunc0)|(show OpQ _ _ _ _ _ ⟨_,.convert _ _ _,_,_,_,_⟩ _;exact qb rfl (by exact⟨Af,Af⟩))|(show OpQ _ _ _ _ _ ⟨_,.binOp .mul _ _ _ _,_,_,_,_⟩ _;exact ti rfl rfl (by first|exact QA Af Af|exact OX Af Af))|(show OpQ _ _ _ _ _ ⟨_,.binOp .quo _ _ _ _,_,_,_,_⟩ _;exact tj rfl rfl Af Af (by first|exact QA Af Af|exact OX Af Af))|(show OpQ _ _ _ _ _ ⟨_,.binOp .rem _ _ _ _,_,_,_,_⟩ _;exact tk rfl rfl Af Af)|(show OpQ _ _ _ _ _ ⟨_,.lookup _ _ _ _,_,_,_,_⟩ _;first|exact fR rfl rfl (by((repeat(first|with_reducible apply Ak|with_reducible apply An));try with_reducible assumption))|exact bO rfl rfl (by((repeat(first|with_reducible apply Ak|with_reducible apply An));try with_reducible assumption)))|fail):p:=h
theorem wq(h:p:=by first|(apply F0;(·rfl);(·rfl);(·first|rfl|assumption);(·((repeat(first|with_reducible apply Ak|with_reducible apply An));try with_reducible assumption));(·(repeat(first|with_reducible apply LSet.zero|with_reducible apply LSet.succ)));(·(repeat(first|apply Upd.here|apply Upd.there))))|(apply Tw;(·rfl);(·rfl);(·rfl);(·simp[Value.oneCell']);(·((repeat(first|with_reducible apply Ak|with_reducible apply An));try with_reducible assumption));(·(repeat(first|with_reducible apply LSetA.done|with_reducible apply LSetA.put|with_reducible apply LSetA.skip)));(·(repeat(first|apply Upd.here|apply Upd.there))))|fail):p:=h
theorem wt{l:List Ab}(h:l.Sublist l':=by(repeat(first|with_reducible apply Em|with_reducible apply Hh|with_reducible apply List.Sublist.cons_cons|with_reducible apply List.Sublist.cons))): ∀c,c∈l->c∈l':=λ_ hc=>h.subset hc
theorem vL(hk:Dk P ro N E ops Q rest ((d,v)::fr) ds l)(h:OpQ P ro N fr l o v:=by exact zq)(hw:P6 ops fr o.guard=some true:=by rfl)(hd:o.dst=some d:=by rfl)(hb:Nat.blt d N=true:=by rfl):Dk P ro N E ops Q (o::rest) fr ds l:=Mv h hw hd hb hk
theorem vM(hk:Dk P ro N E ops Q rest ((d,undef)::fr) ds l)(hw:P6 ops fr o.guard=some false:=by rfl)(hd:o.dst=some d:=by rfl)(hb:Nat.blt d N=true:=by rfl):Dk P ro N E ops Q (o::rest) fr ds l:=wn hw hd hb hk
theorem vO{t:Nat}{w:Bool}{ip:Decidable p}(h:Dk P ro N E ops Q (o::rest) ((t,.bool true)::fr) ds l)(hw:o.guard=some (j,w):=by rfl)(hj:ops[j]?=some oj:=by rfl)(hjd:oj.dst=some t:=by rfl)(hc:BU fr t=some (.bool (@decide p ip)):=by rfl)(hp:p:=by omega):Dk P ro N E ops Q (o::rest) fr ds l:=ZC hw hj hjd hc hp h
theorem vP{t:Nat}{w:Bool}{ip:Decidable p}(h:Dk P ro N E ops Q (o::rest) ((t,.bool false)::fr) ds l)(hw:o.guard=some (j,w):=by rfl)(hj:ops[j]?=some oj:=by rfl)(hjd:oj.dst=some t:=by rfl)(hc:BU fr t=some (.bool (@decide p ip)):=by rfl)(hp:¬p:=by omega):Dk P ro N E ops Q (o::rest) fr ds l:=ZD hw hj hjd hc hp h
theorem wv(hk:Dk P ro N E ops Q rest fr ds l2)(h:OpE P ro N fr l o (λv' l'=>v'=undef/\l'=l2):=by exact wq)(hw:o.guard=none:=by rfl)(hd:o.dst=none:=by rfl):Dk P ro N E ops Q (o::rest) fr ds l:=Mu h hw hd λv l' h=>by rw[h.2];exact hk
variable{k:Bool}
theorem kP(hk:PlanS P ro N E ops Q R tbl sw sp pl ((d,v)::fr) ds l)(h:OpQ P ro N fr R o v:=by exact zq)(hw:P6 ops fr o.guard=some true:=by rfl)(hd:o.dst=some d:=by rfl)(hb:Nat.blt d N=true:=by rfl):PlanS P ro N E ops Q R tbl sw sp ((i,true,o)::pl) fr ds l:=XQ h hw hd hb hk
theorem ww(hk:PlanS P ro N E ops Q R tbl none [] pl ((d,undef)::fr) ds l)(hR: ∀c,c∈R->c∈l:=by exact wt)(hw:P6 ops fr o.guard=some false:=by rfl)(hd:o.dst=some d:=by rfl)(hb:Nat.blt d N=true:=by rfl):PlanS P ro N E ops Q R tbl none [] ((i,k,o)::pl) fr ds l:=tI hR hw hd hb hk
theorem sL{t:Nat}{w:Bool}{ip:Decidable p}(h:PlanS P ro N E ops Q R tbl sw sp ((i,k,o)::pl) ((t,.bool true)::fr) ds l)(hw:o.guard=some (j,w):=by rfl)(hj:ops[j]?=some oj:=by rfl)(hjd:oj.dst=some t:=by rfl)(hc:BU fr t=some (.bool (@decide p ip)):=by rfl)(hp:p:=by omega):PlanS P ro N E ops Q R tbl sw sp ((i,k,o)::pl) fr ds l:=fL hw hj hjd hc hp h
theorem sM{t:Nat}{w:Bool}{ip:Decidable p}(h:PlanS P ro N E ops Q R tbl sw sp ((i,k,o)::pl) ((t,.bool false)::fr) ds l)(hw:o.guard=some (j,w):=by rfl)(hj:ops[j]?=some oj:=by rfl)(hjd:oj.dst=some t:=by rfl)(hc:BU fr t=some (.bool (@decide p ip)):=by rfl)(hp:¬p:=by omega):PlanS P ro N E ops Q R tbl sw sp ((i,k,o)::pl) fr ds l:=fM hw hj hjd hc hp h
theorem o5(hk:PlanS P ro N E ops Q R tbl none [] pl fr ds l2)(h:OpE P ro N fr l o (λv' l'=>v'=undef/\l'=l2):=by exact wq)(hw:o.guard=none:=by rfl)(hd:o.dst=none:=by rfl)(hR: ∀c,c∈R->c∈l2:=by exact wt):PlanS P ro N E ops Q R tbl none [] ((i,false,o)::pl) fr ds l:=M2 h hw hd (λv l' h=>by rw[h.2];exact hR) λv l' h=>by rw[h.2];exact hk
theorem wx(hk:PlanS P ro N E ops Q R tbl none [] pl ((d,v)::fr) ds l)(h:OpQ P ro N fr l o v:=by first|(show OpQ _ _ _ _ _ ⟨_,.load _ _,_,_,_,_⟩ _;first|exact DH rfl (by((repeat(first|with_reducible apply Ak|with_reducible apply An));try with_reducible assumption)) (by(first|with_reducible assumption|((with_reducible apply Kd);(repeat(first|with_reducible apply LGet.zero|with_reducible apply LGet.succ)))))|exact HQ rfl (by((repeat(first|with_reducible apply Ak|with_reducible apply An));try with_reducible assumption)) (by(repeat(first|with_reducible apply LSub.done|with_reducible apply LSub.take|with_reducible apply LSub.drop))))|fail)(hw:o.guard=none:=by rfl)(hd:o.dst=some d:=by rfl)(hb:Nat.blt d N=true:=by rfl)(hR: ∀c,c∈R->c∈l:=by exact wt):PlanS P ro N E ops Q R tbl none [] ((i,false,o)::pl) fr ds l:=tH h hw hd hb hR hk
end
theorem OpE.re{fr:Fr}{l:List Ab}(k:Keep l l2)(h:OpE P ro N fr l2 o K)(hk: ∀v l',K v l'-> ∃l3,Keep l' l3/\K' v l3):OpE P ro N fr l o K':=
 ⟨h.nodef,λE a W hf hs=>(h.val E a W hf (k.sat hs)).mono λv W' ⟨l',h1,h2⟩=>by obtain⟨l3,h3,h4⟩:=hk v l' h1;exact⟨l3,h4,h3.sat h2⟩⟩
theorem Fn.re{f:FuncId}{l:List Ab}(k:Keep l l2)(h:Fn P f args l2 K)(hk: ∀v l',K v l'-> ∃l3,Keep l' l3/\K' v l3):Fn P f args l K':=
 ⟨λE W hs=>(h.run E W (k.sat hs)).mono λe W' he=>by obtain⟨v,l',h1,h2,h3⟩:=he;obtain⟨l3,h4,h5⟩:=hk v l' h2;exact⟨v,l3,h1,h5,h4.sat h3⟩⟩
theorem ZM{l l':List Ab}{b:Nat}{o o':Obj}(h:Upd l b o o' l'): ∀(c:List Ab),Upd (c++l) b o o' (c++l')
 |[]=>h
 |x::c=> .there (ZM h c)
section
variable{fr:Fr}{l:List Ab}{d:Option Nat}{aft:Array Edge}{s:Operand}{w:Value}
theorem GX{bl:Nat}{xs ws:List Value}{X:List Ab}(hx:ev fr s=some v)(hy:ev fr x=some (.slice (some ⟨bl,0,none⟩) 1 1))[c:ST P T e k yb][cz:ZV P e zs](hzs:zs.length=k)(hown:OwnSl e k v n xs cs)(hw:ws.length=k)(h1: ∀u∈ws,u.oneCell'=true)(hn:n<=1000000)(hby:yb<=1000):
 OpE P ro N fr ((bl,.cells (toArray ws) e (0,0))::(X++(cs++F))) ⟨d,.call {callee:= .builtin .append,args:=#[s,x],argTypes:=#[T,T]},ty,pos,aft,g⟩ (λv' l'=> ∃c2,OwnSl e k v' (n+1) (xs++ws) c2/\l'=X++(c2++F)):=by
 have hpm:((bl,Obj.cells (toArray ws) e (0,0))::(X++(cs++F))).Perm (cs++(((bl,Obj.cells (toArray ws) e (0,0))::X)++F)):=
  AA ((bl,Obj.cells (toArray ws) e (0,0))::X) cs F
 have hb:(n+1)*yb<=140737488355328:=by have:=IB (show n+1<=1000001 by omega) hby;omega
 refine OpE.re (Keep.of_perm hpm) (F4 (m:=1) (xs:=xs) (news:=ws) (zs:=zs) hx hy hzs hown (Aa _ Ak) (λj u hj=>by simpa using hj) (by rw[hw,Nat.one_mul]) h1 (by unfold maxLen;omega) hb) ?_;rintro v' _ ⟨c2,ho,rfl⟩;exact⟨_,Keep.trans (Keep.of_perm (AA c2 ((bl,Obj.cells (toArray ws) e (0,0))::X) F)) (.drop .refl),c2,ho,rfl⟩
theorem XX{a:Act}{d:Nat}(hf:FSat N fr a)(hj:ops[j]?=some oj)(hd:oj.dst=some d)(hb:BU fr d=some undef):yielded ops a.tmps j=none:=by have:=hf.at_ d _ hb;simp[yielded,hj,hd,this,undef]
theorem qh{d dj:Nat}{bw:Bool}(hw:o.guard=some (j,bw))(hj:ops[j]?=some oj)(hjd:oj.dst=some dj)(hb:BU fr dj=some undef)(hd:o.dst=some d)(hbl:Nat.blt d N=true)(hk:Dk P ro N E ops Q rest ((d,undef)::fr) ds l):Dk P ro N E ops Q (o::rest) fr ds l:=
 ⟨λa W hf hds hs=>by have hy:=XX hf hj hjd hb;refine wpListIn_step λK' hK'=>?_;rw[Ac (by simp[Region.wanted,hw,hy])];refine⟨λ_ _=>trivial,hK' _ _ (hk.run _ _ ?_ ((Es _ _ _).trans hds) hs)⟩;have:=hf.put (d:=o.dst) undef (by rw[hd];exact hbl);rw[hd] at this⊢;exact this⟩
end
structure Bx(H:Prop):Prop where
 h:H
theorem tL(k:H)(h:Bx H->G:=by(intro k;((first|(show Dk _ _ _ _ _ _ (_::_) _ _ _;first|refine vL ?_|refine vM ?_|refine ozs0 ?_|refine vO ?_|refine vP ?_|refine wv ?_)|refine Zx ?_|refine MY ?_|refine OT ?_|refine Tu ?_|refine Lt rfl ?_|refine Lu rfl ?_|refine OS ?_|refine UD ?_|refine Rb ?_|refine OV ?_|refine KM ?_|refine IH ?_|refine LT rfl ?_|refine Zy ?_|refine LS ?_|refine KO ?_|refine UE ?_|refine Qy ?_|refine Qz ?_|refine KP ?_|refine p_scope_exit ?_|refine ZA ?_|refine Rg rfl Af ?_|refine Rh rfl Af ?_));exact k.h)):G:=h ⟨k⟩
theorem XY(k:H)(h:Bx H->G:=by(intro k;((first|(show Dk _ _ _ _ _ _ (_::_) _ _ _;first|refine vL ?_|refine vM ?_|refine ozs0 ?_|refine vO ?_|refine vP ?_|refine qh rfl rfl rfl rfl rfl rfl ?_|refine wv ?_)|refine Zx ?_|refine MY ?_|refine OT ?_|refine Tu ?_|refine Lt rfl ?_|refine Lu rfl ?_|refine OS ?_|refine UD ?_|refine Rb ?_|refine OV ?_|refine KM ?_|refine IH ?_|refine LT rfl ?_|refine Zy ?_|refine LS ?_|refine KO ?_|refine UE ?_|refine Qy ?_|refine Qz ?_|refine KP ?_|refine p_scope_exit ?_|refine ZA ?_|refine Rg rfl Af ?_|refine Rh rfl Af ?_));exact k.h)):G:=h ⟨k⟩
theorem gz(k:H)(h:Bx H->G:=by(intro k;(repeat refine tL ?_);exact k.h)):G:=h ⟨k⟩
theorem Aj(k:H)(h:Bx H->G:=by(intro k;(repeat refine XY ?_);exact k.h)):G:=h ⟨k⟩
theorem tN(k:H)(h:Bx H->G:=by(intro k;(repeat(first|(show Dk _ _ _ _ _ _ (_::_) _ _ _;first|refine vL ?_|refine vM ?_|refine ozs0 ?_|refine vO ?_|refine vP ?_|refine qh rfl rfl rfl rfl rfl rfl ?_)|refine Zx ?_|refine MY ?_|refine OT ?_|refine Tu ?_|refine Lt rfl ?_|refine Lu rfl ?_|refine OS ?_|refine UD ?_|refine Rb ?_|refine OV ?_|refine KM ?_|refine IH ?_|refine LT rfl ?_|refine Zy ?_|refine LS ?_|refine KO ?_|refine UE ?_|refine Qy ?_|refine Qz ?_|refine KP ?_|refine p_scope_exit ?_|refine ZA ?_|refine Rg rfl Af ?_|refine Rh rfl Af ?_));exact k.h)):G:=h ⟨k⟩
theorem HC{H:Nat->Prop}(k: ∀b,H b)(h:Bx (∀b,H b)->G:=by(intro k;(repeat refine tL ?_);(first|refine fe (Eb rfl rfl) rfl rfl rfl ?_|refine fe (CK rfl) rfl rfl rfl ?_|refine fe e_alloc rfl rfl rfl ?_);rintro _ _ ⟨b,_,rfl,rfl⟩;(repeat refine tL ?_);exact k.h b)):G:=h ⟨k⟩
theorem AO{H:Nat->Prop}(k: ∀b,H b)(h:Bx (∀b,H b)->G:=by(intro k;(repeat refine XY ?_);(first|refine fe (Eb rfl rfl) rfl rfl rfl ?_|refine fe (CK rfl) rfl rfl rfl ?_|refine fe e_alloc rfl rfl rfl ?_);rintro _ _ ⟨b,_,rfl,rfl⟩;(repeat refine XY ?_);exact k.h b)):G:=h ⟨k⟩
theorem pz(k:H)(h:Bx H->G:=by(intro k;(repeat(first|refine XP ?_|(show PlanS _ _ _ _ _ _ _ _ _ _ ((_,true,_)::_) _ _ _;first|refine kP ?_|refine sL ?_|refine sM ?_)|(show PlanS _ _ _ _ _ _ _ _ none [] ((_,_,_)::_) _ _ _;first|refine ww ?_|refine pzs0 ?_)|(show PlanS _ _ _ _ _ _ _ _ _ _ ((_,_,_)::_) _ _ _;first|refine sL ?_|refine sM ?_)|(show PlanS _ _ _ _ _ _ _ _ none [] ((_,false,_)::_) _ _ _;first|refine o5 ?_|refine wx ?_)));exact k.h)):G:=h ⟨k⟩
theorem BM(k:H)(h:Bx H->G:=by(intro k;(repeat(first|refine XP ?_|(show PlanS _ _ _ _ _ _ _ _ _ _ ((_,true,_)::_) _ _ _;first|refine kP ?_|refine sL ?_|refine sM ?_)|(show PlanS _ _ _ _ _ _ _ _ none [] ((_,_,_)::_) _ _ _;first|refine ww ?_|refine pzs0 ?_|refine pl_hu (BZ (by(repeat(first|with_reducible apply Em|with_reducible apply Hh|with_reducible apply List.Sublist.cons_cons|with_reducible apply List.Sublist.cons)))) rfl rfl rfl rfl rfl rfl ?_)|(show PlanS _ _ _ _ _ _ _ _ _ _ ((_,_,_)::_) _ _ _;first|refine sL ?_|refine sM ?_)|(show PlanS _ _ _ _ _ _ _ _ none [] ((_,false,_)::_) _ _ _;first|refine o5 ?_|refine wx ?_)));exact k.h)):G:=h ⟨k⟩
theorem V4(k:H)(h:Bx H->G:=by(intro k;((first|refine XP ?_|(show PlanS _ _ _ _ _ _ _ _ _ _ ((_,true,_)::_) _ _ _;first|refine kP ?_|refine sL ?_|refine sM ?_)|(show PlanS _ _ _ _ _ _ _ _ none [] ((_,_,_)::_) _ _ _;first|refine ww ?_|refine pzs0 ?_|refine pl_hu (BZ (by(repeat(first|with_reducible apply Em|with_reducible apply Hh|with_reducible apply List.Sublist.cons_cons|with_reducible apply List.Sublist.cons)))) rfl rfl rfl rfl rfl rfl ?_)|(show PlanS _ _ _ _ _ _ _ _ _ _ ((_,_,_)::_) _ _ _;first|refine sL ?_|refine sM ?_)|(show PlanS _ _ _ _ _ _ _ _ none [] ((_,false,_)::_) _ _ _;first|refine o5 ?_|refine wx ?_)));exact k.h)):G:=h ⟨k⟩
theorem BS(h:p:=by(((repeat(first|with_reducible apply Ak|with_reducible apply An));try with_reducible assumption))):p:=h
theorem DI(h:p:=by((repeat(first|apply Upd.here|apply Upd.there)))):p:=h
theorem Ly(h:p:=by((repeat(first|with_reducible apply Em|with_reducible apply Hh|with_reducible apply List.Sublist.cons_cons|with_reducible apply List.Sublist.cons)))):p:=h
theorem A8(h:p:=by((repeat(first|apply ResS.nil|(apply qe;(·rfl))|(apply fO;(·rfl);(·((repeat(first|with_reducible apply Ak|with_reducible apply An));try with_reducible assumption));(·rfl))|(apply Cz;(·rfl);(·((repeat(first|with_reducible apply Ak|with_reducible apply An));try with_reducible assumption));(·(repeat(first|with_reducible apply LSub.done|with_reducible apply LSub.take|with_reducible apply LSub.drop)))))))):p:=h
theorem AS(h:p:=by(((try simp only[Ae,Ag,AI,CI]);repeat(first|with_reducible apply Keep.refl|(apply Keep.pick;·(repeat(first|apply Pick.here|apply Pick.there)))|apply Keep.drop)))):p:=h
theorem Tf(h:p:=by(first|exact DH rfl (.head _) (by(first|with_reducible assumption|((with_reducible apply Kd);(repeat(first|with_reducible apply LGet.zero|with_reducible apply LGet.succ)))))|exact HQ rfl (.head _) (by(repeat(first|with_reducible apply LSub.done|with_reducible apply LSub.take|with_reducible apply LSub.drop))))):p:=h
theorem Gt(h:p:=by((repeat(first|apply Attach.nil|(apply Attach.cons;·rfl))))):p:=h
theorem SY{l:List Ab}(h:l.Sublist l':=by((repeat(first|with_reducible apply Em|with_reducible apply Hh|with_reducible apply List.Sublist.cons_cons|with_reducible apply List.Sublist.cons)))): ∀c,c∈l->c∈l':=λ_ hc=>h.subset hc
def tP:Option IntKind->Value->Prop
 |some k,v=> ∃a:Int,v= .int k a
 |none,v=> ∃b:Bool,v= .bool b
def AllK:List (Option IntKind)->List Value->Prop
 |[],cs=>cs=[]
 |k::ks,cs=> ∃c r,cs=c::r/\tP k c/\AllK ks r
theorem AllK.len{x:List Value}(h:AllK a x):x.length=a.length:=by
 induction a generalizing x with
 |nil=>cases h;rfl
 |cons q a ih=>obtain⟨c,r,rfl,h1,h2⟩:=h;simp[ih h2]
def KD(P:Program)(t:TypeId):Bool:=match P.underlying t with
 |some (.struct _)|some (.array _ _)=>true
 |_=>false
def bQ(P:Program):Nat->TypeId->Option (List (Option IntKind))
 |0,_=>none
 |n+1,t=>match P.underlying t with
  |some (.int k)=>some [some k]
  |some .bool=>some [none]
  |some (.struct fs)=>if P.stoodInHeld t then none else
   fs.toList.foldl (λacc f=>acc.bind λl=>(bQ P n f.type).bind λks=>if f.offset=l.length/\f.name≠ "_" /\(P.info? f.type).map (·.size)=some ks.length then some (l++ks) else none) (some [])
  |some (.array len e)=>(bQ P n e).bind λks=>if(P.info? e).map (·.size)=some ks.length then some (replicate len ks).flatten else none
  |_=>none
def Il(P:Program)(t:TypeId)(xs:List Value):Value:=if KD P t then .agg xs.toArray else xs.headD undef
section
variable{f:Value->Sem α}{l:List Ab}{Q:α->List Ab->Prop}
theorem TF{d:TypeDesc}{inf:TypeInfo}(hu:P.underlying t=some d)(ha:MZ d=true)(hi:P.info? t=some inf)(cs:List Value)(off:Nat):
 sl P (part t cs.toArray off>>=f) l Q<->sl P (f (.agg ((cs.drop off).take inf.size).toArray)) l Q:=by
 unfold part;rw[AB,M0 hu,ha];simp only[CT];rw[EP hi];have e:cs.toArray.extract off (off+inf.size)=((cs.drop off).take inf.size).toArray:=by apply BO.1;rw[GM,Cj];simp
 rw[e];exact Do
theorem TG{d:TypeDesc}(hu:P.underlying t=some d)(ha:MZ d=false)(cs:List Value)(off:Nat)(hv:cs[off]?=some v):
 sl P (part t cs.toArray off>>=f) l Q<->sl P (f v) l Q:=by
 unfold part;rw[AB,M0 hu,ha];simp only[Bi,CR,AC,hv];exact Do
def M6:Value->Value->Bool
 | .int _ a,.int _ b=>a==b
 | .bool a,.bool b=>a==b
 |_,_=>false
def BX:List Value->List Value->Bool
 |x::xs,y::ys=>M6 x y&&BX xs ys
 |_,_=>true
theorem M7: ∀(a b c d:List Value),a.length=b.length->BX (a++c) (b++d)=(BX a b&&BX c d)
 |[],[],c,d,_=>by simp[BX]
 |x::a,y::b,c,d,h=>by simp only[Ae,BX,M7 a b c d (by simpa using h),Bool.and_assoc]
theorem Ge: ∀{ks:List (Option IntKind)} {a:List Value},AllK ks a->BX a a=true
 |[],a,h=>by cases h;rfl
 |none::ks,a,h=>by obtain⟨c,r,rfl,⟨b,rfl⟩,h2⟩:=h;simp[BX,M6,Ge h2]
 |some k::ks,a,h=>by obtain⟨c,r,rfl,⟨b,rfl⟩,h2⟩:=h;simp[BX,M6,Ge h2]
theorem XZ{β:Type}(r:β->Bool)(body:β->Option Bool×Unit->Sem (ForInStep (Option Bool×Unit)))(k:Option Bool×Unit->Sem Bool)(k1:k (none,())=pure true)(k2:k (some false,())=pure false){Q:Bool->List Ab->Prop}{l:List Ab}: ∀(xs:List β),(∀x∈xs,∀(Q:ForInStep (Option Bool×Unit)->List Ab->Prop) l,sl P (body x (none,())) l Q<->Q (if r x then .yield (none,()) else .done (some false,())) l)->
 (sl P (forIn xs ((none:Option Bool),()) body>>=k) l Q<->Q (xs.all r) l)
 |[],_=>by simp only[List.forIn_nil,AB,Bj,List.all_nil,k1]
 |x::xs,h=>by
  rw[AB,List.forIn_cons,AB,h x Ak,HE];cases hr:r x with
  |true=>simp only[CT,Bp];rw[<-AB];exact XZ r body k k1 k2 xs λy hy=>h y (An _ hy)
  |false=>simp only[Bi,CR,Be,Bj,k2]
theorem AllK.take_left{b:List (Option IntKind)}{x:List Value}(h:AllK (a++b) x):AllK a (x.take a.length):=by
 induction a generalizing x with
 |nil=>simp[AllK]
 |cons k a ih=>obtain⟨c,r,rfl,h1,h2⟩:=h;exact⟨c,r.take a.length,by simp,h1,ih h2⟩
theorem AllK.drop_left{b:List (Option IntKind)}{x:List Value}(h:AllK (a++b) x):AllK b (x.drop a.length):=by
 induction a generalizing x with
 |nil=>simpa using h
 |cons k a ih=>obtain⟨c,r,rfl,h1,h2⟩:=h;simpa using ih h2
theorem Of(xs ys:List Value)(m:Nat)(h:xs.length=ys.length):BX xs ys=(BX (xs.take m) (ys.take m)&&BX (xs.drop m) (ys.drop m)):=by rw[<-M7 _ _ _ _ (by simp[h]),Cd,Cd]
def ZN(P:Program)(t:TypeId):Nat:=((P.info? t).map (·.size)).getD 0
def QD(P:Program)(xs ys:List Value)(f:Field):Bool:=BX ((xs.drop f.offset).take (ZN P f.type)) ((ys.drop f.offset).take (ZN P f.type))
structure lP(P:Program)(n:Nat)(xs ys:List Value)(f:Field)(kf:List (Option IntKind)):Prop where
 kinds:bQ P n f.type=some kf
 named:f.name≠ "_"
 size:(P.info? f.type).map (·.size)=some kf.length
 x:AllK kf ((xs.drop f.offset).take kf.length)
 y:AllK kf ((ys.drop f.offset).take kf.length)
theorem Rq(n:Nat)(xs ys:List Value): ∀(fs:List Field) (l ks:List (Option IntKind)),
 fs.foldl (λacc f=>acc.bind λl=>(bQ P n f.type).bind λks=>if f.offset=l.length/\f.name≠ "_" /\(P.info? f.type).map (·.size)=some ks.length then some (l++ks) else none) (some l)=some ks->
 ∃rest,ks=l++rest/\(AllK ks xs->AllK ks ys->(∀f∈fs,∃kf,lP P n xs ys f kf)/\BX (xs.drop l.length) (ys.drop l.length)=fs.all (QD P xs ys)):=by
 intro fs
 induction fs with
 |nil=>intro l ks h;simp only[FY,IA] at h;subst h;refine⟨[],by simp,λhx hy=>⟨by simp,?_⟩⟩;rw[Dp (by rw[hx.len];exact A7 _),Dp (by rw[hy.len];exact A7 _)];rfl
 |cons f fs ih=>
  intro l ks h;simp only[D5,He] at h;cases hk:bQ P n f.type with
  |none=>rw[hk] at h;simp only[Option.bind_none] at h;rw[LQ] at h;cases h
  |some kf=>
   rw[hk] at h;simp only[He] at h;by_cases hc:f.offset=l.length/\f.name≠ "_" /\(P.info? f.type).map (·.size)=some kf.length
   ·rw[Ad hc] at h;obtain⟨rest,hr,hrest⟩:=ih _ _ h;refine⟨kf++rest,by rw[hr,Am],λhx hy=>?_⟩;obtain⟨g1,g2⟩:=hrest hx hy;have hx1:AllK kf ((xs.drop f.offset).take kf.length):=by rw[hc.1];rw[hr,Am] at hx;exact hx.drop_left.take_left
    have hy1:AllK kf ((ys.drop f.offset).take kf.length):=by rw[hc.1];rw[hr,Am] at hy;exact hy.drop_left.take_left
    refine⟨λg hg=>?_,?_⟩
    ·rcases Ap.1 hg with rfl|hg
     ·exact⟨kf,hk,hc.2.1,hc.2.2,hx1,hy1⟩
     ·exact g1 g hg
    ·rw[HE,<-g2,Of _ _ kf.length (by simp[hx.len,hy.len])];simp only[QD,ZN,hc.2.2,Di,hc.1,Kb,Ai]
   ·rw[Ac hc,LQ] at h;cases h
theorem Lz{f:Value->Sem α}{l:List Ab}{Q:α->List Ab->Prop}{kf:List (Option IntKind)}(h:bQ P n t=some kf)(hs:(P.info? t).map (·.size)=some kf.length)(cs:List Value)(off:Nat)(hx:AllK kf ((cs.drop off).take kf.length)):
 sl P (part t cs.toArray off>>=f) l Q<->sl P (f (Il P t ((cs.drop off).take kf.length))) l Q:=by
 have hi: ∃inf,P.info? t=some inf/\inf.size=kf.length:=by
  cases hh:P.info? t with
  |none=>rw[hh] at hs;cases hs
  |some inf=>rw[hh] at hs;exact⟨inf,rfl,by simpa using hs⟩
 obtain⟨inf,hi1,hi2⟩:=hi;have scal: ∀{d:TypeDesc} {k:Option IntKind},P.underlying t=some d->MZ d=false->KD P t=false->kf=[k]->(sl P (part t cs.toArray off>>=f) l Q<->sl P (f (Il P t ((cs.drop off).take kf.length))) l Q):=by
  intro d k hu ha hb hkf;subst hkf;obtain⟨c,r,e1,_,e2⟩:=hx;have hg:cs[off]?=some c:=by have:=BN (λz=>z[0]?) e1;simpa using this
  rw[TG hu ha cs off hg];unfold Il;rw[hb,e1];exact Do
 have agg: ∀{d:TypeDesc},P.underlying t=some d->MZ d=true->KD P t=true->(sl P (part t cs.toArray off>>=f) l Q<->sl P (f (Il P t ((cs.drop off).take kf.length))) l Q):=by intro d hu ha hb;rw[TF hu ha hi1 cs off,hi2];unfold Il;rw[hb];exact Do
 cases n with
 |zero=>cases h
 |succ n=>
  unfold bQ at h
  split at h
  ·rename_i k hu;cases h;exact scal hu rfl (by unfold KD;rw[hu]) rfl
  ·rename_i hu;cases h;exact scal hu rfl (by unfold KD;rw[hu]) rfl
  ·rename_i fs hu;exact agg hu rfl (by unfold KD;rw[hu])
  ·rename_i len e hu;exact agg hu rfl (by unfold KD;rw[hu])
  ·cases h
theorem V5(kf:List (Option IntKind)): ∀(len:Nat) (xs ys:List Value),AllK (replicate len kf).flatten xs->AllK (replicate len kf).flatten ys->
 (∀i,i<len->AllK kf ((xs.drop (i*kf.length)).take kf.length)/\AllK kf ((ys.drop (i*kf.length)).take kf.length))/\
   BX xs ys=(List.range' 0 len).all λi=>BX ((xs.drop (i*kf.length)).take kf.length) ((ys.drop (i*kf.length)).take kf.length):=by
 intro len
 induction len with
 |zero=>intro xs ys hx hy;cases hx;cases hy;exact⟨λi hi=>by omega,rfl⟩
 |succ len ih=>
  intro xs ys hx hy;rw[BG,Cq] at hx hy;obtain⟨h1,h2⟩:=ih _ _ hx.drop_left hy.drop_left;have sh: ∀i (z:List Value),(z.drop kf.length).drop (i*kf.length)=z.drop ((i+1)*kf.length):=λi z=>by rw[Kb];congr 1;rw[FA];omega
  refine⟨λi hi=>?_,?_⟩
  ·cases i with
   |zero=>simpa using And.intro hx.take_left hy.take_left
   |succ i=>have:=h1 i Af;rw[sh,sh] at this;exact this
  ·rw[Of _ _ kf.length (by rw[hx.len,hy.len]),h2,List.range'_succ,HE];congr 1
   ·simp
   ·have e:List.range' (0+1) len=(List.range' 0 len).map (· +1):=by simp[List.range'_eq_map_range,Function.comp_def,JP]
    rw[e,List.all_map];congr 1;funext i;simp only[Function.comp,sh]
theorem UM: ∀(n d:Nat) (t:TypeId) (ks:List (Option IntKind)),bQ P n t=some ks->n<=d-> ∀(xs ys:List Value),AllK ks xs->AllK ks ys-> ∀(Q:Bool->List Ab->Prop) (l:List Ab),
 (sl P (Op.equalIn d t (Il P t xs) (Il P t ys)) l Q<->Q (BX xs ys) l):=by
 intro n
 induction n with
 |zero=>intro d t ks h;cases h
 |succ n ih=>
  intro d t ks h hd xs ys hx hy Q l;obtain⟨d,rfl⟩: ∃e,d=e+1:=⟨d-1,Af⟩
  unfold bQ at h
  split at h
  ·rename_i k hu;cases h;obtain⟨_,_,rfl,⟨a,rfl⟩,rfl⟩:=hx;obtain⟨_,_,rfl,⟨b,rfl⟩,rfl⟩:=hy;simp only[Il,KD,hu,Bi,CR,HO];unfold Op.equalIn;rw[B9 hu];simp[BX,M6,Bj]
  ·rename_i hu;cases h;obtain⟨_,_,rfl,⟨a,rfl⟩,rfl⟩:=hx;obtain⟨_,_,rfl,⟨b,rfl⟩,rfl⟩:=hy;simp only[Il,KD,hu,Bi,CR,HO];unfold Op.equalIn;rw[B9 hu];simp[BX,M6,Bj]
  ·rename_i fs hu;by_cases hst:P.stoodInHeld t=true
   ·rw[Ad hst] at h;cases h
   rw[Ac hst] at h;obtain⟨rest,hr,hrest⟩:=Rq n xs ys fs.toList [] ks h;obtain⟨g1,g2⟩:=hrest hx hy;simp only[ER,List.drop_zero] at g2;have hag:KD P t=true:=by unfold KD;rw[hu]
   simp only[Il,hag,CT];unfold Op.equalIn;rw[B9 hu];simp only;rw[Ov,Bool.eq_false_iff.2 hst];simp only[Bi,CR];rw[g2,<-Array.forIn_toList];refine XZ (QD P xs ys) _ _ rfl rfl fs.toList λf hf Q l=>?_;obtain⟨kf,ok⟩:=g1 f hf;rw[Ad ok.named,Lz ok.kinds ok.size xs f.offset ok.x,Lz ok.kinds ok.size ys f.offset ok.y,AB,ih d f.type kf ok.kinds Af _ _ ok.x ok.y];simp only[QD,ZN,ok.size,Di];cases BX (List.take kf.length (List.drop f.offset xs)) (List.take kf.length (List.drop f.offset ys))<;>simp[Bj]
  ·rename_i len e hu;obtain⟨kf,hk,hk2⟩:=Ig.1 h;by_cases hs:(P.info? e).map (·.size)=some kf.length
   ·rw[Ad hs] at hk2;cases hk2;obtain⟨g1,g2⟩:=V5 kf len xs ys hx hy;have hag:KD P t=true:=by unfold KD;rw[hu]
    have hi: ∃inf,P.info? e=some inf/\inf.size=kf.length:=by
     cases hh:P.info? e with
     |none=>rw[hh] at hs;cases hs
     |some inf=>rw[hh] at hs;exact⟨inf,rfl,by simpa using hs⟩
    obtain⟨inf,hi1,hi2⟩:=hi;simp only[Il,hag,CT];unfold Op.equalIn;rw[B9 hu];simp only;rw[EP hi1,hi2,g2];rw[GP];have hsz:Std.Legacy.Range.size [:len]=len:=by simp[Std.Legacy.Range.size]
    rw[hsz];refine XZ (λi=>BX ((xs.drop (i*kf.length)).take kf.length) ((ys.drop (i*kf.length)).take kf.length)) _ _ rfl rfl (List.range' 0 len) λi hf Q l=>?_;have hil:i<len:=by have:=KI.1 hf;omega
    obtain⟨o1,o2⟩:=g1 i hil;rw[Lz hk hs xs _ o1,Lz hk hs ys _ o2,AB,ih d e kf hk Af _ _ o1 o2];cases BX (List.take kf.length (List.drop (i*kf.length) xs)) (List.take kf.length (List.drop (i*kf.length) ys))<;>simp[Bj]
   ·rw[Ac hs] at hk2;cases hk2
  ·cases h
def qi(P:Program)(t:TypeId):Option (List (Option IntKind)):=if KD P t=true/\P.eqGuardType P.depth t=false then bQ P 20 t else none
class EQ(P:Program)(t:Nat)(ks:outParam (List (Option IntKind))):Prop where out:qi P t=some ks
theorem M8(h:qi P t=some ks):KD P t=true/\P.eqGuardType P.depth t=false/\bQ P 20 t=some ks:=by
 unfold qi at h
 split at h
 ·rename_i hc;exact⟨hc.1,hc.2,h⟩
 ·cases h
variable{fr:Fr}{d:Option Nat}{aft:Array Edge}{xs ys:List Value}
theorem Rr{op:BinOp}{xa ya:Array Value}{f:Unit->Sem α}{l:List Ab}{Q:α->List Ab->Prop}(hg:P.eqGuardType P.depth t=false):sl P (eqGuard op t x y (.agg xa) (.agg ya)>>=f) l Q<->sl P (f ()) l Q:=by
 have key: ∀bb:Bool,sl P ((if(!bb)=true then(pure ():Sem Unit) else do
  let p<-program
  let q<-program
  if(!p.eqGuardType q.depth t)=true then pure () else do
   let r<-Op.eqGuardIn Op.maxDepth t (.agg xa) (.agg ya)
   if r=true then unsupported (Unsupported.noEntry "binop/eql: two nil values of an interface type with methods, in a part of a struct or an array") else pure ())>>=f) l Q<->sl P (f ()) l Q:=by
  intro bb;cases bb with
  |false=>exact Do
  |true=>rw[AB];simp only[Bool.not_true,Bi,CR];rw[Ov,Ov,hg];exact Do
 unfold eqGuard
 split
 ·exact key true
 ·exact key true
 ·exact key false
theorem FU[c:EQ P t ks](hx:ev fr x=some (.agg (toArray xs)))(hy:ev fr y=some (.agg (toArray ys)))(kx:AllK ks xs)(ky:AllK ks ys):OpQ P ro N fr R ⟨d,.binOp .eql t x y t2,ty,pos,aft,g⟩ (.bool (BX xs ys)):=BK rfl λρ l hρ _=>by obtain⟨e1,e2,e3⟩:=M8 c.out;simp only[execOp,hρ x _ hx,hρ y _ hy];rw[AB,Rr e2];have h:=UM 20 Op.maxDepth t ks e3 AX xs ys kx ky;unfold Il at h;rw[e1] at h;simp only[CT] at h;simp only[binOp,Op.equal,AB,h,Bj];exact⟨trivial,trivial⟩
theorem QE[c:EQ P t ks](hx:ev fr x=some (.agg (toArray xs)))(hy:ev fr y=some (.agg (toArray ys)))(kx:AllK ks xs)(ky:AllK ks ys):OpQ P ro N fr R ⟨d,.binOp .neq t x y t2,ty,pos,aft,g⟩ (.bool (!BX xs ys)):=BK rfl λρ l hρ _=>by obtain⟨e1,e2,e3⟩:=M8 c.out;simp only[execOp,hρ x _ hx,hρ y _ hy];rw[AB,Rr e2];have h:=UM 20 Op.maxDepth t ks e3 AX xs ys kx ky;unfold Il at h;rw[e1] at h;simp only[CT] at h;simp only[binOp,Op.equal,AB,h,Bj];exact⟨trivial,trivial⟩
theorem V6[c:EQ P t ks](hx:ev fr x=some (.agg (toArray xs)))(hy:ev fr y=some (.agg (toArray xs)))(kx:AllK ks xs):OpQ P ro N fr R ⟨d,.binOp .eql t x y t2,ty,pos,aft,g⟩ (.bool true):=by have:=FU (P:=P) (ro:=ro) (N:=N) (R:=R) (d:=d) (ty:=ty) (pos:=pos) (aft:=aft) (g:=g) (t2:=t2) (c:=c) hx hy kx kx;rwa [Ge kx] at this
theorem fY[c:EQ P t ks](hx:ev fr x=some (.agg (toArray xs)))(hy:ev fr y=some (.agg (toArray xs)))(kx:AllK ks xs):OpQ P ro N fr R ⟨d,.binOp .neq t x y t2,ty,pos,aft,g⟩ (.bool false):=by have:=QE (P:=P) (ro:=ro) (N:=N) (R:=R) (d:=d) (ty:=ty) (pos:=pos) (aft:=aft) (g:=g) (t2:=t2) (c:=c) hx hy kx kx;rwa [Ge kx] at this
end
def ZP:List (Option IntKind)->List Value->Bool
 |[],[]=>true
 |some k::ks,.int k' _::cs=>decide (k=k')&&ZP ks cs
 |none::ks,.bool _::cs=>ZP ks cs
 |_,_=>false
theorem HT: ∀{ks:List (Option IntKind)} {cs:List Value},ZP ks cs=true->AllK ks cs
 |[],[],_=>rfl
 |some k::ks,.int k' a::cs,h=>by simp only[ZP,AR,Bg] at h;exact⟨_,_,rfl,⟨a,by rw[h.1]⟩,HT h.2⟩
 |none::ks,.bool b::cs,h=>⟨_,_,rfl,⟨b,rfl⟩,HT h⟩
def RowSl{α:Type}(l:List Ab)(v:Value)(k:Nat)(enc:α->List Value)(xs:List α):Prop:=
 ∃a cap,v= .slice a xs.length cap/\(0<xs.length-> ∃b off cs t fz,a=some ⟨b,off,none⟩/\(b,Obj.cells cs t fz)∈l/\ ∀i x,xs[i]?=some x->off+i*k+k<=cs.size/\cs.extract (off+i*k) (off+i*k+k)=toArray (enc x))
theorem Kh{α:Type}{enc:α->List Value}{k:Nat}(hk: ∀x,(enc x).length=k)(sp:List Value): ∀(xs:List α) (i:Nat) (x:α),xs[i]?=some x->((xs.flatMap enc++sp).drop (i*k)).take k=enc x/\i*k+k<=(xs.flatMap enc++sp).length
 |[],i,x,h=>by simp at h
 |y::xs,0,x,h=>by cases h;rw[Cr,Gb,List.drop_zero,Am,Gj (hk y)];refine⟨rfl,?_⟩;rw[Ai,hk];omega
 |y::xs,i+1,x,h=>by obtain⟨h1,h2⟩:=Kh hk sp xs i x (by simpa using h);rw[Cr,Am,FA];refine⟨?_,by rw[Ai,hk];omega⟩;rw[I6,Dp (by rw[hk];omega),hk,Ag,show i*k+k-k=i*k by omega];exact h1
theorem OwnSl.rowSl{enc:α->List Value}{xs:List α}{l:List Ab}(h:OwnSl e k v xs.length (xs.flatMap enc) cs)(hk: ∀x,(enc x).length=k)(hs: ∀c,c∈cs->c∈l):RowSl l v k enc xs:=by
 rcases h.2 with⟨rfl,h0,rfl⟩|⟨b,cap,sp,rfl,rfl,_⟩
 ·exact⟨none,0,by rw[h0],λh=>by omega⟩
 ·refine⟨_,cap,rfl,λh0=>⟨b,0,_,e,(0,0),rfl,hs _ Ak,λi x hx=>?_⟩⟩;obtain⟨h1,h2⟩:=Kh hk sp xs i x hx;refine⟨by rw[BC];simpa using h2,?_⟩;rw[BC,EG,Cj,Cx,h1]
section
variable{fr:Fr}{l:List Ab}{d:Option Nat}{aft:Array Edge}
end
theorem F9: ∀{ks:List (Option IntKind)} {a b:List Value},AllK ks a->AllK ks b->(BX a b=true<->a=b)
 |[],a,b,h,h'=>by cases h;cases h';simp[BX]
 |none::ks,a,b,h,h'=>by obtain⟨_,r,rfl,⟨p,rfl⟩,h2⟩:=h;obtain⟨_,r',rfl,⟨p',rfl⟩,h2'⟩:=h';simp[BX,M6,F9 h2 h2']
 |some k::ks,a,b,h,h'=>by obtain⟨_,r,rfl,⟨p,rfl⟩,h2⟩:=h;obtain⟨_,r',rfl,⟨p',rfl⟩,h2'⟩:=h';simp[BX,M6,F9 h2 h2']
abbrev GY(κ:Type):=κ×Value×Nat
def M9{κ:Type}(enc:κ->List Value)(x:GY κ):MapEntry:={key:= .agg (toArray (enc x.1)),val:=x.2.1,born:=x.2.2}
abbrev Hx{κ:Type}(enc:κ->List Value)(es:List (GY κ))(clock:Nat):Obj:= .map (toArray (es.map (M9 enc))) clock
theorem GZ{α:Type}(f:α->α)(e:α)(B:List α): ∀(A:List α),(A++e::B).modify A.length f=A++f e::B
 |[]=>rfl
 |x::A=>by rw[Ae,Br,List.modify_succ_cons,GZ f e B A];rfl
section
variable[DecidableEq κ]
def Ez(a:κ):List (GY κ)->Nat->Option (Nat×Value)
 |[],_=>none
 |e::es,i=>if a=e.1 then some (i,e.2.1) else Ez a es (i+1)
def Hl(a:κ)(es:List (GY κ)):Option Value:=(Ez a es 0).map Prod.snd
def KE(a:κ)(v:Value)(clock:Nat)(es:List (GY κ)):List (GY κ)×Nat:=match Ez a es 0 with
 |some (i,_)=>(es.modify i λx=>(x.1,v,x.2.2),clock)
 |none=>(es++[(a,v,clock)],clock+1)
def N9(a:κ)(es:List (GY κ)):List (GY κ):=match Ez a es 0 with
 |some (i,_)=>es.eraseIdx i
 |none=>es
theorem LA(a:κ): ∀(es:List (GY κ)) (i:Nat),Ez a es i=(Ez a es 0).map λp=>(p.1+i,p.2)
 |[],i=>rfl
 |e::es,i=>by
  unfold Ez
  split
  ·simp
  ·rw[LA a es (i+1),LA a es (0+1)];cases Ez a es 0 with
   |none=>rfl
   |some p=>simp;omega
theorem J4(a:κ)(e:GY κ)(es:List (GY κ)):Hl a (e::es)=if a=e.1 then some e.2.1 else Hl a es:=by
 unfold Hl;rw[Ez]
 split
 ·rfl
 ·rw[LA,Option.map_map];cases Ez a es 0<;>rfl
theorem G1{a:κ}: ∀{es:List (GY κ)} {k:Nat} {v:Value},Ez a es 0=some (k,v)-> ∃A e B,es=A++e::B/\A.length=k/\e.1=a/\e.2.1=v/\ ∀x∈A,x.1≠a
 |[],k,v,h=>by cases h
 |e::es,k,v,h=>by
  rw[Ez] at h
  split at h
  ·rename_i ha;cases h;exact⟨[],e,es,rfl,rfl,ha.symm,rfl,by simp⟩
  ·rename_i ha;rw[LA] at h;cases h2:Ez a es 0 with
   |none=>rw[h2] at h;cases h
   |some p=>
    obtain⟨k',v'⟩:=p;rw[h2] at h;cases h;obtain⟨A,e',B,h3,h4,h5,h6,h7⟩:=G1 h2;refine⟨e::A,e',B,by rw[h3];rfl,by simp[h4],h5,h6,λx hx=>?_⟩;rcases Ap.1 hx with rfl|hx
    ·exact λe'=>ha e'.symm
    ·exact h7 x hx
theorem Ib{a:κ}: ∀{es:List (GY κ)},Ez a es 0=none<-> ∀e∈es,e.1≠a
 |[]=>by simp[Ez]
 |e::es=>by
  rw[Ez]
  split
  ·rename_i h;simp[h]
  ·rename_i h;rw[LA,Option.map_eq_none_iff,Ib];simp only[Ap,forall_eq_or_imp];exact⟨λh2=>⟨λe'=>h e'.symm,h2⟩,λh2=>h2.2⟩
theorem Ju(a:κ)(A B:List (GY κ)):Hl a (A++B)=(Hl a A).or (Hl a B):=by
 induction A with
 |nil=>rfl
 |cons e A ih=>rw[Ae,J4,J4,ih];split<;>rfl
theorem Jv(a b:κ)(v:Value)(clock:Nat)(es:List (GY κ)):Hl b (KE a v clock es).1=if b=a then some v else Hl b es:=by
 unfold KE;cases h:Ez a es 0 with
 |none=>
  simp only;rw[Ju,J4]
  split
  ·rename_i e;subst e;unfold Hl;rw[h];rfl
  ·simp[Hl,Ez]
 |some p=>
  obtain⟨k,u⟩:=p;obtain⟨A,e,B,rfl,rfl,h1,h2,h3⟩:=G1 h;simp only;have hm:(A++e::B).modify A.length (λx=>(x.1,v,x.2.2))=A++(e.1,v,e.2.2)::B:=GZ _ e B A;rw[hm,Ju,Ju,J4,J4,h1];by_cases e':b=a
  ·have:Hl b A=none:=by unfold Hl;rw[e',Ib.2 h3];rfl
   rw[this,Ad e',Ad e'];rfl
  ·rw[Ac e',Ac e',Ac e']
structure KeysOk(es:List (GY κ))(clock:Nat):Prop where
 keys:(es.map (·.1)).Nodup
 stamps:(es.map (·.2.2)).Nodup
 below: ∀e∈es,e.2.2<clock
theorem KeysOk.set{es:List (GY κ)}(h:KeysOk es clock)(a:κ)(v:Value):KeysOk (KE a v clock es).1 (KE a v clock es).2:=by
 unfold KE;cases hf:Ez a es 0 with
 |none=>
  have hn:=Ib.1 hf;simp only;refine⟨?_,?_,λe he=>?_⟩
  ·rw[Aq,Bu];exact⟨h.keys,by simp,λx hx y hy e=>by
    obtain⟨z,hz,rfl⟩:=Au.1 hx;have:y=a:=by simpa using hy
    exact hn z hz (by rw[e,this])⟩
  ·rw[Aq,Bu];exact⟨h.stamps,by simp,λx hx y hy e=>by
    obtain⟨z,hz,rfl⟩:=Au.1 hx;have h1:y=clock:=by simpa using hy
    have h2:=h.below z hz;omega⟩
  ·rcases AE.1 he with he|he
   ·exact KJ (h.below e he)
   ·rw[Ax.1 he];exact Hi _
 |some p=>
  obtain⟨k,u⟩:=p;obtain⟨A,e,B,rfl,rfl,h1,h2,h3⟩:=G1 hf;have hm:(A++e::B).modify A.length (λx=>(x.1,v,x.2.2))=A++(e.1,v,e.2.2)::B:=GZ _ e B A;simp only;rw[hm];refine⟨by simpa using h.keys,by simpa using h.stamps,λx hx=>?_⟩;rcases AE.1 hx with hx|hx
  ·exact h.below x (Ah _ hx)
  ·rcases Ap.1 hx with rfl|hx
   ·exact h.below e (Aa _ Ak)
   ·exact h.below x (Aa _ (An _ hx))
theorem KeysOk.del{es:List (GY κ)}(h:KeysOk es clock)(a:κ):KeysOk (N9 a es) clock:=by
 unfold N9
 split
 ·have hs:(es.eraseIdx ‹_›).Sublist es:=List.eraseIdx_sublist ..;exact⟨h.keys.sublist (hs.map _),h.stamps.sublist (hs.map _),λe he=>h.below e (hs.subset he)⟩
 ·exact h
theorem O0{es:List (GY κ)}(h:KeysOk es clock)(a b:κ):Hl b (N9 a es)=if b=a then none else Hl b es:=by
 unfold N9;cases hf:Ez a es 0 with
 |none=>
  simp only
  split
  ·rename_i e;subst e;unfold Hl;rw[hf];rfl
  ·rfl
 |some p=>
  obtain⟨k,u⟩:=p;obtain⟨A,e,B,rfl,rfl,h1,h2,h3⟩:=G1 hf;have hk:=h.keys;rw[Aq,AI,Bu] at hk;obtain⟨_,hk2,_⟩:=hk;rw[AN] at hk2;have he:(A++e::B).eraseIdx A.length=A++B:=by rw[Is (A7 _),DD];rfl
  simp only;rw[he,Ju,Ju,J4,h1];by_cases e':b=a
  ·rw[Ad e'];have n1:Hl b A=none:=by unfold Hl;rw[e',Ib.2 h3];rfl
   have n2:Hl b B=none:=by unfold Hl;rw[e',Ib.2 λx hx hxe=>hk2.1 (Au.2 ⟨x,hx,by rw[hxe,h1]⟩)];rfl
   rw[n1,n2];rfl
  ·rw[Ac e',Ac e']
end
section
variable{fr:Fr}{l:List Ab}{d:Option Nat}{aft:Array Edge}{w:Value}{T:TypeId}
theorem lR{j:TypeInfo}{p:Addr}(hp:P.underlying tp=some (.pointer te))(hte:P.info? te=some j)(hsz:j.size≠0)(ha:W.heap[p.block]?=some (.cells ca ta (0,0)))(hb:W.heap[q.block]?=some (.cells cb tb (0,0))):
 (binOp .eql tp (.pointer (some p)) (.pointer (some q))).run P W= .ok (.bool (decide (p=q))) W:=by
 by_cases h:p=q
 ·subst h;rw[run_eql_ptr_same W p hp hte,At rfl]
 ·rw[run_eql_ptr_other W hp hte hsz h ha hb,Av h]
theorem lS{j:TypeInfo}{p:Addr}(hp:P.underlying tp=some (.pointer te))(hte:P.info? te=some j)(hsz:j.size≠0)(ha:W.heap[p.block]?=some (.cells ca ta (0,0)))(hb:W.heap[q.block]?=some (.cells cb tb (0,0))):
 (binOp .neq tp (.pointer (some p)) (.pointer (some q))).run P W= .ok (.bool (!decide (p=q))) W:=by
 have h: ∀d:Nat,(Op.equalIn (d+1) tp (.pointer (some p)) (.pointer (some q))).run P W= .ok (decide (p=q)) W:=λd=>by
  by_cases h:p=q
  ·subst h;simp[Op.equalIn,run_underlying hp,sizeOf,typeInfo,hte,run_sameAddr_same]
  ·simp[Op.equalIn,run_underlying hp,sizeOf,typeInfo,hte,hsz,run_sameAddr_other W h ha hb,h]
 simp only[binOp];simp[Op.equal,Op.maxDepth,h 9999]
theorem lU{p:Addr}(hx:ev fr x=some (.pointer (some p)))(hy:ev fr y=some (.pointer (some q)))[c:PT P t e][oc:AG P e n](hsz:n≠0)(ha:(p.block,Obj.cells ca ta (0,0))∈R)(hb:(q.block,Obj.cells cb tb (0,0))∈R):
 OpQ P ro N fr R ⟨d,.binOp .eql t x y t2,ty,pos,aft,g⟩ (.bool (decide (p=q))):=⟨λl hR=>⟨rfl,λE a W hf hs=>by
 have hρ:=hf.agrees;obtain⟨uu,inf,_,_,hi,hz⟩:=Ke oc.out;have hex:execOp a.eval ⟨d,.binOp .eql t x y t2,ty,pos,aft,g⟩=(do pure (.value (<-binOp .eql t (.pointer (some p)) (.pointer (some q)))):Sem Next):=by simp only[execOp,hρ x _ hx,hρ y _ hy,Js,pure_bind]
 unfold OpVal;rw[hex,Sem.run_bind,lR (M1 c.out) hi (by rw[hz];exact hsz) (hs.has _ (hR _ ha)) (hs.has _ (hR _ hb))];exact⟨l,⟨rfl,rfl⟩,hs⟩⟩⟩
theorem ZQ{p:Addr}(hx:ev fr x=some (.pointer (some p)))(hy:ev fr y=some (.pointer (some q)))[c:PT P t e][oc:AG P e n](hsz:n≠0)(ha:(p.block,Obj.cells ca ta (0,0))∈R)(hb:(q.block,Obj.cells cb tb (0,0))∈R):
 OpQ P ro N fr R ⟨d,.binOp .neq t x y t2,ty,pos,aft,g⟩ (.bool (!decide (p=q))):=⟨λl hR=>⟨rfl,λE a W hf hs=>by
 have hρ:=hf.agrees;obtain⟨uu,inf,_,_,hi,hz⟩:=Ke oc.out;have hex:execOp a.eval ⟨d,.binOp .neq t x y t2,ty,pos,aft,g⟩=(do pure (.value (<-binOp .neq t (.pointer (some p)) (.pointer (some q)))):Sem Next):=by simp only[execOp,hρ x _ hx,hρ y _ hy,Js,pure_bind]
 unfold OpVal;rw[hex,Sem.run_bind,lS (M1 c.out) hi (by rw[hz];exact hsz) (hs.has _ (hR _ ha)) (hs.has _ (hR _ hb))];exact⟨l,⟨rfl,rfl⟩,hs⟩⟩⟩
end
section
variable{fr:Fr}{l:List Ab}{d:Option Nat}{aft:Array Edge}{w:Value}{T:TypeId}
theorem UN{β:Type}(body:β->PUnit->Sem (ForInStep PUnit)){Q:PUnit->List Ab->Prop}{l:List Ab}: ∀(xs:List β),(∀x∈xs,∀(Q:ForInStep PUnit->List Ab->Prop) l,sl P (body x ()) l Q<->Q (.yield ()) l)->(sl P (forIn xs PUnit.unit body) l Q<->Q () l)
 |[],_=>by simp only[List.forIn_nil,Bj]
 |x::xs,h=>by rw[List.forIn_cons,AB,h x Ak];exact UN body xs λy hy=>h y (An _ hy)
theorem X5{empty:Bool}: ∀(n d:Nat) (t:TypeId) (ks:List (Option IntKind)),bQ P n t=some ks->n<=d-> ∀(xs:List Value),AllK ks xs-> ∀(Q:Unit->List Ab->Prop) (l:List Ab),(sl P (Instr.checkKey empty d t (Il P t xs)) l Q<->Q () l):=by
 intro n
 induction n with
 |zero=>intro d t ks h;cases h
 |succ n ih=>
  intro d t ks h hd xs hx Q l;obtain⟨d,rfl⟩: ∃e,d=e+1:=⟨d-1,Af⟩
  unfold bQ at h
  split at h
  ·rename_i k hu;cases h;obtain⟨_,_,rfl,⟨a,rfl⟩,rfl⟩:=hx;simp only[Il,KD,hu,Bi,CR,HO];unfold Instr.checkKey;rw[B9 hu];exact Do
  ·rename_i hu;cases h;obtain⟨_,_,rfl,⟨a,rfl⟩,rfl⟩:=hx;simp only[Il,KD,hu,Bi,CR,HO];unfold Instr.checkKey;rw[B9 hu];exact Do
  ·rename_i fs hu;by_cases hst:P.stoodInHeld t=true
   ·rw[Ad hst] at h;cases h
   rw[Ac hst] at h;obtain⟨rest,hr,hrest⟩:=Rq n xs xs fs.toList [] ks h;obtain⟨g1,g2⟩:=hrest hx hx;have hag:KD P t=true:=by unfold KD;rw[hu]
   simp only[Il,hag,CT];unfold Instr.checkKey;rw[B9 hu];simp only;rw[<-Array.forIn_toList];rw[AB];refine(UN _ fs.toList λf hf Q l=>?_).trans Do;obtain⟨kf,ok⟩:=g1 f hf;rw[Ad ok.named,Lz ok.kinds ok.size xs f.offset ok.x,AB,ih d f.type kf ok.kinds Af _ ok.x];exact Do
  ·rename_i len e hu;obtain⟨kf,hk,hk2⟩:=Ig.1 h;by_cases hs:(P.info? e).map (·.size)=some kf.length
   ·rw[Ad hs] at hk2;cases hk2;obtain⟨g1,g2⟩:=V5 kf len xs xs hx hx;have hag:KD P t=true:=by unfold KD;rw[hu]
    have hi: ∃inf,P.info? e=some inf/\inf.size=kf.length:=by
     cases hh:P.info? e with
     |none=>rw[hh] at hs;cases hs
     |some inf=>rw[hh] at hs;exact⟨inf,rfl,by simpa using hs⟩
    obtain⟨inf,hi1,hi2⟩:=hi;simp only[Il,hag,CT];unfold Instr.checkKey;rw[B9 hu];simp only;rw[GP];have hsz:Std.Legacy.Range.size [:len]=len:=by simp[Std.Legacy.Range.size]
    rw[hsz];rw[AB];refine(UN _ _ λi hf Q l=>?_).trans Do;have hf:i∈List.range' 0 len:=hf;have hil:i<len:=by have:=KI.1 hf;omega
    obtain⟨o1,_⟩:=g1 i hil;rw[EP hi1,hi2,Lz hk hs xs _ o1,AB,ih d e kf hk Af _ o1];exact Do
   ·rw[Ac hs] at hk2;cases hk2
  ·cases h
structure Og{κ:Type}(enc:κ->List Value)(ks:List (Option IntKind)):Prop where
 kinds: ∀a,AllK ks (enc a)
 inj: ∀a b,enc a=enc b->a=b
variable[DecidableEq κ]{enc:κ->List Value}{a:κ}{es:List (GY κ)}
theorem JR{Q:Unit->List Ab->Prop}{empty:Bool}(h:qi P kt=some ks)(he:Og enc ks):sl P (Instr.checkKey empty 10000 kt (.agg (toArray (enc a)))) l Q<->Q () l:=by obtain⟨h1,_,h3⟩:=M8 h;have:=X5 (empty:=empty) 20 10000 kt ks h3 AX (enc a) (he.kinds a) Q l;unfold Il at this;rw[h1] at this;exact this
theorem bR{Q:Bool->List Ab->Prop}(h:qi P kt=some ks)(he:Og enc ks)(a b:κ):sl P (Op.equal kt (.agg (toArray (enc a))) (.agg (toArray (enc b)))) l Q<->Q (decide (a=b)) l:=by
 obtain⟨h1,_,h3⟩:=M8 h;have:=UM 20 Op.maxDepth kt ks h3 AX (enc a) (enc b) (he.kinds a) (he.kinds b) Q l;unfold Il at this;rw[h1] at this;have e:BX (enc a) (enc b)=decide (a=b):=by
  by_cases hab:a=b
  ·rw[At hab];exact(F9 (he.kinds a) (he.kinds b)).2 (by rw[hab])
  ·rw[Av hab];cases hc:BX (enc a) (enc b) with
   |false=>rfl
   |true=>exact absurd (he.inj a b ((F9 (he.kinds a) (he.kinds b)).1 hc)) hab
 rw[e] at this;exact this
theorem Oh{Q:Option (Nat×Value)->List Ab->Prop}(h:qi P kt=some ks)(he:Og enc ks)(a:κ): ∀(es:List (GY κ)) (i:Nat),sl P (Instr.findAsking kt (.agg (toArray (enc a))) (es.map (M9 enc)) i) l Q<->Q (Ez a es i) l
 |[],i=>Do
 |e::es,i=>by
  rw[AI];unfold Instr.findAsking;simp only[M9];rw[AB,bR h he,Ez];by_cases hc:a=e.1
  ·rw[At hc,Ad hc];exact Do
  ·rw[Av hc,Ac hc];exact Oh h he a es (i+1)
theorem KU{Q:Option (Nat×Value)->List Ab->Prop}(h:qi P kt=some ks)(he:Og enc ks):sl P (Instr.findKey kt (.agg (toArray (enc a))) (es.map (M9 enc))) l Q<->Q (Ez a es 0) l:=by
 obtain⟨h1,_,_⟩:=M8 h;unfold Instr.findKey;unfold KD at h1;cases hu:P.underlying kt with
 |none=>rw[hu] at h1;cases h1
 |some td=>
  rw[B9 hu];cases es with
  |nil=>exact Do
  |cons e es=>
   have hn:Instr.findNow td (.agg (toArray (enc a))) ((e::es).map (M9 enc)) 0=none:=by rw[AI];unfold Instr.findNow;rw[hu] at h1;cases td<;>first|rfl|cases h1
   rw[hn];exact Oh h he a (e::es) 0
theorem bS{zv:Value}(hx:ev fr x=some (.map (some m)))(hy:ev fr y=some (.agg (toArray (enc a))))[c:MT P T kt et][ci:EQ P kt ks][cz:ZO P et zv](he:Og enc ks)(hm:(m,Hx enc es clock)∈R):OpQ P ro N fr R ⟨d,.lookup T x y false,ty,pos,aft,g⟩ ((Hl a es).getD zv):=BK rfl λρ l hρ hR=>by
 simp only[execOp,hρ x _ hx,hρ y _ hy,AB];unfold Instr.lookup;rw[B9 (II c.out)];simp only[AB];refine⟨_,hR _ hm,rfl,?_⟩;simp only[Bj,Fc,AB];rw[JR ci.out he,KU ci.out he];unfold Hl;cases h:Ez a es 0 with
 |none=>simp only[AB];rw[UL cz.out];exact⟨rfl,rfl⟩
 |some p=>exact⟨rfl,rfl⟩
theorem Oz: ∀{ks:List (Option IntKind)} {a:List Value} (n:Nat),AllK ks a->(a.zip a).all (λp=>Instr.sameBits (n+1) p.1 p.2)=true
 |[],a,n,h=>by cases h;rfl
 |none::ks,a,n,h=>by obtain⟨c,r,rfl,⟨p,rfl⟩,h2⟩:=h;rw[List.zip_cons_cons,HE,Oz n h2];simp[Instr.sameBits]
 |some k::ks,a,n,h=>by obtain⟨c,r,rfl,⟨p,rfl⟩,h2⟩:=h;rw[List.zip_cons_cons,HE,Oz n h2];simp[Instr.sameBits]
theorem O1{Q:Value->List Ab->Prop}(he:Og enc ks):sl P (Instr.keyThatStays (.agg (toArray (enc a))) (.agg (toArray (enc a)))) l Q<->Q (.agg (toArray (enc a))) l:=by
 unfold Instr.keyThatStays;have h:Instr.sameBits 10000 (.agg (toArray (enc a))) (.agg (toArray (enc a)))=true:=by unfold Instr.sameBits;simp only[beq_self_eq_true,Bp];exact Oz 9998 (he.kinds a)
 rw[Ad h];exact Do
theorem V7(A B:List (GY κ))(e:GY κ)(v:Value):(toArray ((A++e::B).map (M9 enc))).modify A.length (λx=>{key:= .agg (toArray (enc e.1)),val:=v,born:=x.born})=toArray ((A++(e.1,v,e.2.2)::B).map (M9 enc)):=by apply BO.1;rw[Hw];simp only[Aq,AI];have:=GZ (λx:MapEntry=>{key:= .agg (toArray (enc e.1)),val:=v,born:=x.born}) (M9 enc e) (B.map (M9 enc)) (A.map (M9 enc));rw[A3] at this;rw[this];rfl
theorem O2(hx:ev fr x=some (.map (some m)))(hy:ev fr y=some (.agg (toArray (enc a))))(hz:ev fr z=some v)[c:MT P T kt et][ci:EQ P kt ks](he:Og enc ks)(hu:Upd l m (Hx enc es clock) (Hx enc (KE a v clock es).1 (KE a v clock es).2) l'):
 OpE P ro N fr l ⟨d,.mapUpdate T x y z,ty,pos,aft,g⟩ (λv' l2=>v'=undef/\l2=l'):=Dy rfl λρ hρ=>by
 simp only[execOp,hρ x _ hx,hρ y _ hy,hρ z _ hz];rw[AB];unfold Instr.mapUpdate;rw[B9 (II c.out)];simp only[AB];refine⟨_,hu.mem,rfl,?_⟩;simp only[Bj,Fc,AB];rw[JR ci.out he,KU ci.out he];unfold KE at hu;cases h:Ez a es 0 with
 |none=>
  rw[h] at hu;simp only at hu⊢;refine⟨Hx enc es clock,l',?_,rfl,⟨rfl,rfl⟩⟩;have e:(toArray (es.map (M9 enc))).push {key:= .agg (toArray (enc a)),val:=v,born:=clock}=toArray ((es++[(a,v,clock)]).map (M9 enc)):=by simp[M9]
  rw[e];exact hu
 |some p=>
  obtain⟨i,u⟩:=p;rw[h] at hu;simp only at hu⊢;obtain⟨A,e,B,rfl,rfl,h1,h2,h3⟩:=G1 h;subst h1;have hk:(((toArray ((A++e::B).map (M9 enc)))[A.length]?).map (·.key)).getD (.agg (toArray (enc e.1)))= .agg (toArray (enc e.1)):=by simp[M9]
  simp only[AB];rw[hk,O1 he];refine⟨Hx enc (A++e::B) clock,l',?_,rfl,⟨rfl,rfl⟩⟩;rw[V7,<-GZ (λx=>(x.1,v,x.2.2)) e B A];exact hu
theorem TH{T2:TypeId}(hx:ev fr x=some (.map (some m)))(hy:ev fr y=some (.agg (toArray (enc a))))[c:MT P T kt et][ci:EQ P kt ks](he:Og enc ks)(hu:Upd l m (Hx enc es clock) (Hx enc (N9 a es) clock) l'):
 OpE P ro N fr l ⟨d,.call {callee:= .builtin .delete,args:=#[x,y],argTypes:=#[T,T2]},ty,pos,aft,g⟩ (λv' l2=>v'= .tuple #[]/\l2=l'):=Dy rfl λρ hρ=>by
 simp only[execOp,resolve,AB,Bj,invoke,builtin,C5,AI,CI,hρ x _ hx,hρ y _ hy];unfold Builtin.delete_;simp only[AC,CY,CX,AB];rw[EC (II c.out)];simp only[AB];refine⟨_,hu.mem,rfl,?_⟩;simp only[Bj,Fc,AB];rw[JR ci.out he,KU ci.out he];unfold N9 at hu;cases h:Ez a es 0 with
 |none=>rw[h] at hu;exact⟨Hx enc es clock,l',hu,rfl,⟨rfl,rfl⟩⟩
 |some p=>
  obtain⟨i,u⟩:=p;rw[h] at hu;refine⟨Hx enc es clock,l',?_,rfl,⟨rfl,rfl⟩⟩;have e:(toArray (es.map (M9 enc))).eraseIdxIfInBounds i=toArray ((es.eraseIdx i).map (M9 enc)):=by apply BO.1;simp only[IS];rw[Dc,Dc,Aq,Gx,List.map_drop]
  rw[e];exact hu
theorem P7{A B:List (GY κ)}{e:GY κ}{l':List Ab}(hx:ev fr x=some (.map (some m)))(hy:ev fr y=some (.agg (toArray (enc a))))[c:MT P T kt et][ci:EQ P kt ks](he:Og enc ks)(hes:es=A++e::B)(h1:e.1=a)(h3: ∀x∈A,x.1≠a)(hm:(m,Hx enc es clock)∈l):
 OpE P ro N fr l ⟨d,.mapEntry T x y,ty,pos,aft,g⟩ (λv' l2=>v'= .tuple #[e.2.1,.int .i64 e.2.2]/\l2=l):=Dy rfl λρ hρ=>by
 subst h1 hes;simp only[execOp,hρ x _ hx,hρ y _ hy,AB];unfold Instr.mapEntry;rw[B9 (II c.out)];simp only[AB];refine⟨_,hm,rfl,?_⟩;simp only[Bj,Fc,AB];have hf:Ez e.1 (A++e::B) 0=some (A.length,e.2.1):=by
  have: ∀(A:List (GY κ)) (i:Nat),(∀x∈A,x.1≠e.1)->Ez e.1 (A++e::B) i=some (i+A.length,e.2.1):=by
   intro A
   induction A with
   |nil=>intro i _;rw[Ag,Ez,Ad rfl];rfl
   |cons z A ih=>intro i hA;rw[Ae,Ez,Ac (λh=>hA z Ak h.symm),ih (i+1) λx hx=>hA x (An _ hx),Br];congr 2;omega
  rw[this A 0 h3,BC]
 rw[JR ci.out he,KU ci.out he,hf];have hk:(((toArray ((A++e::B).map (M9 enc)))[A.length]?).map (·.key)).getD (.agg (toArray (enc e.1)))= .agg (toArray (enc e.1)):=by simp[M9]
 have hb:(((toArray ((A++e::B).map (M9 enc)))[A.length]?).map (λx=>(x.born:Int))).getD 0=(e.2.2:Int):=by simp[M9]
 simp only[AB];rw[hk,O1 he];obtain⟨l2,hl2⟩: ∃l2,Upd l m (Hx enc (A++e::B) clock) (Hx enc (A++e::B) clock) l2:=by
  clear hρ
  induction l with
  |nil=>cases hm
  |cons c l ih=>
   by_cases hc:c=(m,Hx enc (A++e::B) clock)
   ·subst hc;exact⟨_,.here⟩
   ·rcases Ap.1 hm with h|h
    ·exact absurd h.symm hc
    ·obtain⟨l2,h2⟩:=ih h;exact⟨_,.there h2⟩
 refine⟨Hx enc (A++e::B) clock,l,?_,rfl,?_⟩
 ·have e2:(toArray ((A++e::B).map (M9 enc))).modify A.length (λx=>{key:= .agg (toArray (enc e.1)),val:=x.val,born:=x.born})=toArray ((A++e::B).map (M9 enc)):=by
   apply BO.1;rw[Hw];simp only[Aq,AI];have:=GZ (λx:MapEntry=>{key:= .agg (toArray (enc e.1)),val:=x.val,born:=x.born}) (M9 enc e) (B.map (M9 enc)) (A.map (M9 enc));rw[A3] at this;rw[this];rfl
  rw[e2];have:=hl2.same;subst this;exact hl2
 ·simp only[Bj,Fc];refine⟨?_,rfl⟩;show Value.tuple _=_;congr 3
  first|exact BN goInt hb|(unfold goInt;rw[<-hb])
theorem Oi{A B:List (GY κ)}{e:GY κ}(hx:ev fr x=some (.map (some m)))(hy:ev fr y=some (.int .i64 (e.2.2:Nat)))(hz:ev fr z=some v)(hes:es=A++e::B)(h3: ∀x∈A,x.2.2≠e.2.2)(hu:Upd l m (Hx enc es clock) (Hx enc (A++(e.1,v,e.2.2)::B) clock) l'):
 OpE P ro N fr l ⟨d,.entryStore T x y z,ty,pos,aft,g⟩ (λv' l2=>v'=undef/\l2=l'):=Dy rfl λρ hρ=>by
 subst hes;simp only[execOp,hρ x _ hx,hρ y _ hy,hρ z _ hz];rw[AB];unfold Instr.entryStore;simp only[AB];refine⟨_,hu.mem,rfl,?_⟩;simp only[Bj,Fc,AB,asInt,asIntOf];have hf:(toArray ((A++e::B).map (M9 enc))).findIdx? (λx=>(x.born:Int)==(e.2.2:Int))=some A.length:=by
  rw[List.findIdx?_toArray];clear hu hρ
  induction A with
  |nil=>simp[M9,Kc]
  |cons z A ih=>
   have hz:¬z.2.2=e.2.2:=h3 z Ak;rw[Ae,AI,Kc,ih λx hx=>h3 x (An _ hx)];have:(((M9 enc z).born:Int)==(e.2.2:Int))=false:=by simp[M9];omega
   rw[this];rfl
 rw[hf];refine⟨Hx enc (A++e::B) clock,l',?_,rfl,⟨rfl,rfl⟩⟩;have e2:(toArray ((A++e::B).map (M9 enc))).modify A.length (λx=>{key:=x.key,val:=v,born:=x.born})=toArray ((A++(e.1,v,e.2.2)::B).map (M9 enc)):=by apply BO.1;rw[Hw];simp only[Aq,AI];have:=GZ (λx:MapEntry=>{key:=x.key,val:=v,born:=x.born}) (M9 enc e) (B.map (M9 enc)) (A.map (M9 enc));rw[A3] at this;rw[this];rfl
 rw[e2];exact hu
end
section
variable{l:List Ab}{fr:Fr}
end
theorem CS{c:Ab}{l:List Ab}(h:c∈l): ∀x,x∈[c]->x∈l:=λx hx=>by rw[Ax.1 hx];exact h
theorem Keep.in_mid(A B C:List Ab):Keep (A++(B++C)) (B++(A++C)):=Keep.of_perm (AA A B C)
theorem IJ{α β:Type}{f:α->β}: ∀{l:List α},(l.map f).Nodup->l.Nodup
 |[],_=>List.nodup_nil
 |x::l,h=>by rw[AI,AN] at h;exact AN.2 ⟨λhx=>h.1 (Au.2 ⟨x,hx,rfl⟩),IJ h.2⟩
theorem Na{α β:Type}{f:α->β}: ∀{l:List α} {x y:α},(l.map f).Nodup->x∈l->y∈l->f x=f y->x=y
 |[],_,_,_,h,_,_=>by cases h
 |z::l,x,y,h,hx,hy,e=>by
  rw[AI,AN] at h;rcases Ap.1 hx with h1|h1<;>rcases Ap.1 hy with h2|h2
  ·rw[h1,h2]
  ·exact absurd (Au.2 ⟨y,h2,by rw[<-e,h1]⟩) h.1
  ·exact absurd (Au.2 ⟨x,h1,by rw[e,h2]⟩) h.1
  ·exact Na h.2 h1 h2 e
section
variable{fr:Fr}{l:List Ab}{d:Option Nat}{aft:Array Edge}{k k':IntKind}{i:Int}{a:Nat}
theorem o6(hx:ev fr x=some (.int k i))(hy:ev fr y=some (.int k' (n:Nat)))(hn:n<=k.bits):OpQ P ro N fr R ⟨d,.binOp .shr t x y t2,ty,pos,aft,g⟩ (.int k (i/2^n)):=
 Ik hx hy (λ_ _=>CZ _ _ _ _ _) (by
  have h1:¬((n:Nat):Int)<0:=by omega
  have h2:i.fdiv (2^n)=i/2^n:=Int.fdiv_eq_ediv_of_nonneg _ (by have:(0:Int)<=((2^n:Nat):Int):=Int.natCast_nonneg _;simpa using this);simp only[binOp,Op.shift,Ac h1,AY,Ev hn,h2])
theorem Rs(hx:ev fr x=some (.int k i))(hy:ev fr y=some (.int k' (n:Nat)))(hn:n<=k.bits):OpQ P ro N fr R ⟨d,.binOp .shl t x y t2,ty,pos,aft,g⟩ (.int k (k.wrap (i*2^n))):=
 Ik hx hy (λ_ _=>CZ _ _ _ _ _) (by
  have h1:¬((n:Nat):Int)<0:=by omega
  simp only[binOp,Op.shift,Ac h1,AY,Ev hn])
theorem TI{a:Nat}(h:a<18446744073709551616):IntKind.u64.wrap (a:Int)=(a:Int):=by simp[IntKind.wrap,IntKind.signed,IntKind.bits];omega
theorem o7(hx:ev fr x=some (.int .u64 (a:Nat)))(hy:ev fr y=some (.int .u64 (b:Nat)))(ha:a<18446744073709551616)(hb:b<18446744073709551616):OpQ P ro N fr R ⟨d,.binOp .and t x y t2,ty,pos,aft,g⟩ (.int .u64 ((a&&& b:Nat):Int)):=
 Ik hx hy (λ_ _=>CZ _ _ _ _ _) (by
  have e1:(BitVec.ofInt IntKind.u64.bits ((a:Nat):Int)).toNat=a:=by show(BitVec.ofInt 64 ((a:Nat):Int)).toNat=a;rw[DN,D9,Dj ha]
  have e2:(BitVec.ofInt IntKind.u64.bits ((b:Nat):Int)).toNat=b:=by show(BitVec.ofInt 64 ((b:Nat):Int)).toNat=b;rw[DN,D9,Dj hb]
  simp only[binOp,Op.intBits,Lq,e1,e2];rw[TI (D8 JB ha)];rfl)
theorem TJ{zv:Value}{k:Nat}(hzv:zv.cells=toArray zs)(hzs:zs.length=k)(hk:0<n*k):(Array.range (n*k)).map (λj=>zv.cells[j%zv.cells.size]!)=toArray (replicate n zs).flatten:=by
 have hk0:0<k:=J8 λe=>by subst e;simp at hk
 apply BO.1;apply C9;intro j;rw[hzv];have hl:(replicate n zs).flatten.length=n*k:=by simp[hzs]
 by_cases hj:j<n*k
 ·have:(replicate n zs).flatten[j]?=zs[j%k]?:=by
   clear hl hk hk0
   induction n generalizing j with
   |zero=>omega
   |succ n ih=>
    rw[BG,Cq];by_cases hjk:j<k
    ·rw[AF Af,Dj hjk]
    ·rw[AU Af,hzs,ih (j-k) (by have:=FA n k;simp only[JL] at this;omega),<-J9 Af]
  simp only[Lp,Ka,A0,ES hj,BL];rw[this];have hlt:j%k<zs.length:=by rw[hzs];exact GN _ hk0
  simp[hzs,Al hlt,FX]
 ·rw[Bc (by simp;omega),Bc (by rw[hl];omega)]
theorem FG{kk:Nat}{xs:List Value}(hx:ev fr x=some (.int .i64 (n:Nat)))[c:ST P T e kk yb][cz:ZV P e zs](hzs:zs.length=kk)(hk:0<n*kk)(hn:n<=1000000)(hby:yb<=1000)(hxs:xs=(replicate n zs).flatten):
 OpE P ro N fr l ⟨d,.makeSlice T x x,ty,pos,aft,g⟩ (λv' l'=> ∃b,(∀c,c∈l->c.1≠b)/\v'= .slice (some ⟨b,0,none⟩) n n/\l'=(b,.cells (toArray xs) e (0,0))::l):=Dy rfl λρ hρ=>by
 subst hxs;obtain⟨inf,u1,u2,u3,u4⟩:=EH c.out;obtain⟨inf',zv,z1,z2,z3⟩:=Jt cz.out;rw[u2] at z1;cases z1;simp only[execOp,hρ x _ hx];unfold Instr.makeSlice;rw[AB,B9 u1];have hw:IntKind.i64.wrap ((n:Nat):Int)=n:=p9 _ ⟨Af,Af⟩;have hb:inf.bytes*n<=1000000000:=by rw[u4];exact BP (IB hby hn) Af
 have hb2:((inf.bytes:Nat):Int)*((n:Nat):Int)<=1000000000:=by rw[<-JC];omega
 simp only[asInt,asIntOf,pure_bind,hw];rw[Jj u2];have ht:(decide (((n:Nat):Int)<0)||decide (((inf.bytes:Nat):Int)*((n:Nat):Int)>2^48))=false:=by rw[Av Af,Av Af];rfl
 simp only[ht,La];rw[show(decide (((n:Nat):Int)<0)||decide (((n:Nat):Int)>((n:Nat):Int)))=false by rw[Av Af,Av Af];rfl];simp only[Bi,CR,AY];unfold askRoom roomBytes;have hr:n*inf.bytes<=1000000000:=by rw[LP];exact hb
 rw[Ac Af,AB,Bj,EP u2,u3];have hk1:¬n*kk=0:=by omega
 simp only[hk1,CR,zeroValue,AB];rw[<-AB,Jj u2,z2];simp only[Bj];have hzv:zv.cells=toArray zs:=by rw[<-z3]
 rw[TJ hzv hzs hk];simp only[newRow,AB];intro b hb;exact⟨b,hb,rfl,rfl⟩
end
theorem Rt(vs:List Value): ∀(cs:Array Value) (off k:Nat),(CV cs off vs)[k]?=if off<=k/\k<off+vs.length/\k<cs.size then vs[k-off]? else cs[k]?:=by
 induction vs with
 |nil=>intro cs off k;rw[Ac (by simp;omega)];rfl
 |cons v r ih=>
  intro cs off k;show(CV (cs.setIfInBounds off v) (off+1) r)[k]?=_;rw[ih,Array.size_setIfInBounds];by_cases h1:off+1<=k/\k<off+1+r.length/\k<cs.size
  ·rw[Ad h1,Ad (by simp;omega),show k-off=(k-(off+1))+1 by omega];rfl
  ·rw[Ac h1,Array.getElem?_setIfInBounds];by_cases h2:off=k
   ·subst h2;rw[Ad rfl];by_cases h3:off<cs.size
    ·rw[Ad h3,Ad (by simp;omega),DD];rfl
    ·rw[Ac h3,Ac Af,EU Af]
   ·rw[Ac h2,Ac (by simp;omega)]
section
def o8(os:List Oper)(tbl:List (List Nat))(L:List (Nat×Nat))(plan1 plan2:List (Nat×Bool))(i j:Nat)(sw1 swj:Sw):Bool:=
 ((HR os plan1).tail.all λy=>!L.contains (i,y.1)||y.1==j||(HR os plan1).tail.any λz=>Fl tbl y.1 z.1)&&FT os.toArray tbl sw1 (HR os plan1).tail&&Td sw1 (HR os plan1).tail&&FT os.toArray tbl swj (HR os plan2).tail&&Td swj (HR os plan2).tail&&plan1.head?==some (i,false)&&plan2.head?==some (j,false)&&i !=j
theorem Ru{fr:Fr}{l:List Ab}{L:List (Nat×Nat)}{rest rj:List BF}(plan1 plan2:List (Nat×Bool))(i j:Nat)(sw1 swj:Sw)(h1:Attach os plan1 ((i,false,o)::rest))(h2:Attach os plan2 ((j,false,oj)::rj))(hp:((j,false,oj)::rj).Perm ((i,false,o)::rest))(hok:o8 os tbl L plan1 plan2 i j sw1 swj=true)
 (ho:OpE P ro N fr l o K)(hg:P6 os.toArray fr o.guard=some true)(hd:Jr N o.dst=true)(hR: ∀v l',K v l'->(∀c,c∈R->c∈l'))(hS: ∀v l',K v l'-> ∀x,x∈sp->Fl tbl i x.1=false-> ∀c,c∈x.2->c∈l')
 (ho':OpE P ro N fr l oj K')(hg':P6 os.toArray fr oj.guard=some true)(hd':Jr N oj.dst=true)(hR': ∀v l',K' v l'->(∀c,c∈R->c∈l'))(hS': ∀v l',K' v l'-> ∀x,x∈sp->Fl tbl j x.1=false-> ∀c,c∈x.2->c∈l')
 (hk0: ∀v l',K v l'->PlanS P ro N E os.toArray Q R tbl sw1 sp rest (HI o.dst v fr) ds l')(hk': ∀v l',K' v l'->PlanS P ro N E os.toArray Q R tbl swj sp rj (HI oj.dst v fr) ds l'):PlanS P ro N E os.toArray Q R tbl (some L) sp ((i,false,o)::rest) fr ds l:=by
 unfold o8 at hok;rw[h1.fun_eq,h2.fun_eq] at hok;simp only[AR,bne_iff_ne,ne_eq,IC,AZ,D6,DC,I5,Hf] at hok;obtain⟨⟨⟨⟨⟨⟨⟨p1,p2⟩,p3⟩,p4⟩,p5⟩,_⟩,_⟩,hij⟩:=hok;have hj: ∀k,N8 tbl (some L) i rest k->k=i\/k=j:=λk hk=>by
  rcases hk with h|⟨h,h3,y,hy,rfl⟩
  ·exact .inl h
  ·rcases p1 y hy with(h4|h4)|⟨z,hz,h4⟩
   ·simp only[N7] at h;rw[h] at h4;cases h4
   ·exact .inr h4
   ·rw[h3 z hz] at h4;cases h4
 refine .alt (λk=>if k=i then o else oj) (λk=>if k=i then K else K') (λk=>if k=i then rest else rj) (λk=>if k=i then sw1 else swj) (λk hk=>?_) (λk hk=>?_) (λk hk=>?_) λk hk=>?_;all_goals rcases hj k hk with h|h
 ·subst h;simp only[CT];exact⟨.refl _,p2,p3⟩
 ·subst h;simp only[Ac (Ff hij)];exact⟨hp,p4,p5⟩
 ·subst h;simp only[CT];exact⟨ho,hg,hd⟩
 ·subst h;simp only[Ac (Ff hij)];exact⟨ho',hg',hd'⟩
 ·subst h;simp only[CT];exact λv l' k=>⟨hR v l' k,hS v l' k⟩
 ·subst h;simp only[Ac (Ff hij)];exact λv l' k=>⟨hR' v l' k,hS' v l' k⟩
 ·subst h;simp only[CT];exact hk0
 ·subst h;simp only[Ac (Ff hij)];exact hk'
variable{fr:Fr}{aft:Array Edge}{off:Nat}
end
section
end
theorem yx{l:List Ab}(h:Keep l l':=by(repeat(first|exact .refl|apply Keep.drop))):Keep l l':=h
theorem xT{w:Value}(h:v=w:=by first|rfl|(exfalso;omega)|(simp[Iw, *];done)|(simp_all [Iw];done)|(simp_all [Iw];omega)):v=w:=h
class QF(P:Program)(f:Nat)(vs:List Value)(l:List Ab)(v:outParam Value):Prop where
 out: ∀l2,(∀c,c∈l->c∈l2)->Fn P f vs l2 (λv' l'=>v'=v/\l'=l2)
instance{P:Program}{f:Nat}{vs:List Value}{l:List Ab}{v:Value}{c:Ab}[h:QF P f vs l v]:QF P f vs (c::l) v:=⟨λl2 hl=>h.out l2 λx hx=>hl x (.tail _ hx)⟩
theorem El{fr:Fr}{l:List Ab}{d:Nat}{at_:Array TypeId}{aft:Array Edge}(hk:Dk P ro N E ops Q rest ((d,v)::fr) ds l)(hx:ev fr x=some (.func (.func f) #[] #[]):=by rfl)(hy:Qm fr xs=some vs:=by rfl)(c:EN P f:=by infer_instance)(q:QF P f vs l v:=by infer_instance)(hw:P6 ops fr g=some true:=by rfl)(hb:Nat.blt d N=true:=by rfl):Dk P ro N E ops Q (⟨some d,.call {callee:= .value x,args:=xs.toArray,argTypes:=at_},ty,pos,aft,g⟩::rest) fr ds l:=
 Mv (AJ hx hy q.out) hw rfl hb hk
def qj:Nat->Nat->List (Nat×Bool)
 |_,0=>[]
 |i,k+1=>(i,true)::qj (i+1) k
def tQ(ops:List Oper):List (List Nat):=ops.foldl (λacc o=>acc++[((o.after.toList.filter λe=>Region.binds .any e).map λe=>e.on)++(((o.after.toList.filter λe=>Region.binds .any e).map λe=>e.on).flatMap λd=>acc.getD d [])]) []
theorem HU{fr:Fr}{l:List Ab}(h:PlanS P ro N E os.toArray Q l (tQ os) none [] pl fr ds l)(ha:Attach os (qj 0 os.length) pl:=by exact Gt)(hm:P.follows .mixedOrders=true:=by kernel_rfl)(hv:UI os (qj 0 os.length) (tQ os)=true:=by kernel_rfl):BH P ro N E (.region k os.toArray true) Q fr ds l:=Ld _ _ l hm hv ha (λ_ h=>h) h
theorem TK{fr:Fr}{l:List Ab}{d:Nat}{at_:Array TypeId}{aft:Array Edge}(hk:PlanS P ro N E ops Q R tbl sw sp pl ((d,v)::fr) ds l)(hx:ev fr x=some (.func (.func f) #[] #[]):=by rfl)(hy:Qm fr xs=some vs:=by rfl)(c:EN P f:=by infer_instance)(q:QF P f vs R v:=by infer_instance)(hw:P6 ops fr g=some true:=by rfl)(hb:Nat.blt d N=true:=by rfl):PlanS P ro N E ops Q R tbl sw sp ((i,true,⟨some d,.call {callee:= .value x,args:=xs.toArray,argTypes:=at_},ty,pos,aft,g⟩)::pl) fr ds l:=
 XQ (AJ hx hy q.out) hw rfl hb hk
section
variable{fr:Fr}{l:List Ab}{d:Nat}{at_:Array TypeId}{aft:Array Edge}[c:EN P f]
theorem tq(h: ∀l2,(∀c,c∈l->c∈l2)->Fn P f vs l2 (λv' l'=>v'=v/\l'=l2))(hk:Dk P ro N E ops Q rest ((d,v)::fr) ds l)(hx:ev fr x=some (.func (.func f) #[] #[]):=by rfl)(hy:Qm fr xs=some vs:=by rfl)(hw:P6 ops fr g=some true:=by rfl)(hb:Nat.blt d N=true:=by rfl):Dk P ro N E ops Q (⟨some d,.call {callee:= .value x,args:=xs.toArray,argTypes:=at_},ty,pos,aft,g⟩::rest) fr ds l:=
 Mv (AJ hx hy h) hw rfl hb hk
theorem pq(h: ∀l2,(∀c,c∈R->c∈l2)->Fn P f vs l2 (λv' l'=>v'=v/\l'=l2))(hk:PlanS P ro N E ops Q R tbl sw sp pl ((d,v)::fr) ds l)(hx:ev fr x=some (.func (.func f) #[] #[]):=by rfl)(hy:Qm fr xs=some vs:=by rfl)(hw:P6 ops fr g=some true:=by rfl)(hb:Nat.blt d N=true:=by rfl):PlanS P ro N E ops Q R tbl sw sp ((i,true,⟨some d,.call {callee:= .value x,args:=xs.toArray,argTypes:=at_},ty,pos,aft,g⟩)::pl) fr ds l:=
 XQ (AJ hx hy h) hw rfl hb hk
end
def wz(ops:List Oper):List Nat:=ops.foldl (λacc o=>acc++[o.after.toList.foldl (λm e=>bif Region.binds .any e then Nat.lor m (Nat.lor (Nat.shiftLeft 1 e.on) (acc.getD e.on 0)) else m) 0]) []
def lV(ops:List Oper):List (List Nat):=(wz ops).map λm=>(List.range ops.length).filter λi=>Nat.testBit m i
def Ck(ef:List Nat):Nat->Nat->List (Nat×Bool)
 |_,0=>[]
 |i,k+1=>(i,!ef.contains i)::Ck ef (i+1) k
def yy(ef is:List Nat):List (Nat×Bool):=is.map λi=>(i,!ef.contains i)
section
variable{fr:Fr}{l:List Ab}
structure MP(P:Program)(ro:Option Nat)(N:Nat)(E:World)(ops:Array Oper)(Q:Exit->Act->World->Prop)(tbl:List (List Nat))(g:Bool)(sp:Fj)(pl:List BF)(fr:Fr)(ds:List Deferred)(l:List Ab):Prop where
 h:(g=true-> ∀x,x∈sp-> ∀c,c∈x.2->c∈l)->PlanS P ro N E ops Q [] tbl none sp pl fr ds l
theorem Cn(plan:List (Nat×Bool))(h:MP P ro N E os.toArray Q (lV os) true [] pl fr ds l)(ha:Attach os plan pl:=by exact Gt)(hm:P.follows .mixedOrders=true:=by kernel_rfl)(hv:UI os plan (lV os)=true:=by kernel_rfl):BH P ro N E (.region k os.toArray true) Q fr ds l:=
 Ld plan _ [] hm hv ha (λ_ h=>nomatch h) (h.h λ_ _ h=>nomatch h)
variable{g:Bool}{d:Nat}
theorem PF(h:CO N E Q .normal fr ds l):MP P ro N E ops Q tbl g sp [] fr ds l:=⟨λ_=> .nil h⟩
theorem V8(hk:MP P ro N E ops Q tbl g sp pl ((d,v)::fr) ds l)(h:OpQ P ro N fr [] o v:=by exact zq)(hw:P6 ops fr o.guard=some true:=by rfl)(hd:o.dst=some d:=by rfl)(hb:Nat.blt d N=true:=by rfl):MP P ro N E ops Q tbl g sp ((i,true,o)::pl) fr ds l:=⟨λhs=>XQ h hw hd hb (hk.h hs)⟩
theorem ZR(hk:MP P ro N E ops Q tbl g ((i,l)::sp) pl ((d,v)::fr) ds l)(h:OpQ P ro N fr l o v:=by exact zq)(hw:o.guard=none:=by rfl)(hd:o.dst=some d:=by rfl)(hb:Nat.blt d N=true:=by rfl):MP P ro N E ops Q tbl g sp ((i,true,o)::pl) fr ds l:=
 ⟨λhs=>FM h (λ_ h=>h) hw hd hb (hk.h λhg x hx=>by rcases Ap.1 hx with rfl|hx;exact λ_ h=>h;exact hs hg x hx)⟩
theorem xU{at_:Array TypeId}{aft:Array Edge}(hk:MP P ro N E ops Q tbl g ((i,l)::sp) pl ((d,v)::fr) ds l)(hx:ev fr x=some (.func (.func f) #[] #[]):=by rfl)(hy:Qm fr xs=some vs:=by rfl)(c:EN P f:=by infer_instance)(q:QF P f vs l v:=by infer_instance)(hb:Nat.blt d N=true:=by rfl):MP P ro N E ops Q tbl g sp ((i,true,⟨some d,.call {callee:= .value x,args:=xs.toArray,argTypes:=at_},ty,pos,aft,none⟩)::pl) fr ds l:=
 ZR hk (AJ hx hy q.out) rfl rfl hb
theorem JS(h:OpE P ro N fr l o K)(hk: ∀v l',K v l'->MP P ro N E ops Q tbl false sp pl ((d,v)::fr) ds l')(hw:o.guard=none:=by rfl)(hd:o.dst=some d:=by rfl)(hb:Nat.blt d N=true:=by rfl)(ha:(sp.map Prod.fst).all (λq=>Fl tbl i q)=true:=by kernel_rfl):MP P ro N E ops Q tbl g sp ((i,false,o)::pl) fr ds l:=
 ⟨λhs=>GC h hw hd hb (λ_ _ _ _ h=>nomatch h) (λ_ _ _ x hx hn=>C3 ha hx hn) λv l' k=>(hk v l' k).h λh=>by cases h⟩
theorem fZ(hk:MP P ro N E ops Q tbl false sp pl fr ds l2)(h:OpE P ro N fr l o (λv' l'=>v'=undef/\l'=l2):=by exact wq)(hw:o.guard=none:=by rfl)(hd:o.dst=none:=by rfl)(ha:(sp.map Prod.fst).all (λq=>Fl tbl i q)=true:=by kernel_rfl):MP P ro N E ops Q tbl g sp ((i,false,o)::pl) fr ds l:=
 ⟨λhs=>GW h hw hd (λ_ _ _ _ h=>nomatch h) (λ_ _ _ x hx hn=>C3 ha hx hn) λv l' k=>by rw[k.2];exact hk.h λh=>by cases h⟩
theorem Hm(h:OpE P ro N fr l o K)(hl: ∀v l',K v l'-> ∀c,c∈l->c∈l')(hk: ∀v l',K v l'->MP P ro N E ops Q tbl g sp pl ((d,v)::fr) ds l')(hw:o.guard=none:=by rfl)(hd:o.dst=some d:=by rfl)(hb:Nat.blt d N=true:=by rfl)(hg:g=true:=by rfl):MP P ro N E ops Q tbl g sp ((i,false,o)::pl) fr ds l:=
 ⟨λhs=>GC h hw hd hb (λ_ _ _ _ h=>nomatch h) (λv l' k x hx _ c hc=>hl v l' k c (hs hg x hx c hc)) λv l' k=>(hk v l' k).h λh x hx c hc=>hl v l' k c (hs h x hx c hc)⟩
theorem qr{fr:Fr}{l l0:List Ab}{y:Value}(hr:fn.results=rs.toArray:=by rfl)(h:ResS P fr l rs vs:=by exact A8)(hk:Keep l l0:=by exact yx)(hx:Iw vs=y:=by exact xT):CO N E (bodyPostM Fence.wide 0 P fn (RK E λv l'=>v=y/\l'=l0)) .ret fr [] l:=AW [] l hr .refl h hk ⟨hx,rfl⟩
theorem Cs(k:H)(h:Bx H->G:=by(intro k;(repeat(first|refine PF ?_|(show MP _ _ _ _ _ _ _ _ _ ((_,true,⟨_,.load _ _,_,_,_,_⟩)::_) _ _ _;refine ZR ?_)|(show MP _ _ _ _ _ _ _ _ _ ((_,true,⟨_,.call _,_,_,_,_⟩)::_) _ _ _;first|refine xU ?_|refine V8 ?_|refine ZR ?_)|(show MP _ _ _ _ _ _ _ _ _ ((_,true,_)::_) _ _ _;first|refine V8 ?_|refine ZR ?_)|(show MP _ _ _ _ _ _ _ _ _ ((_,false,_)::_) _ _ _;refine fZ ?_)));exact k.h)):G:=h ⟨k⟩
def qk(P:Program)(ro:Option Nat)(c:Code)(Q:Exit->Act->World->Prop)(m:Nat):Act->World->Prop:=λa W=>Code.roundsIn (Fw ro) 0 P c Q m a W
theorem Hu(m:Nat)(h:BH P ro N E c (Exit.then (qk P ro c Q m) Q) fr ds l):BH P ro N E (.loop c) Q fr ds l:=⟨λa W hf hds hs=>wpIn_loop_rounds (m+1) (h.run a W hf hds hs)⟩
theorem EI(h:BH P ro N E c (Exit.then (qk P ro c Q m) Q) fr ds l):CO N E (Exit.then (qk P ro c Q (m+1)) Q) .normal fr ds l:=⟨λa W hf hds hs=>h.run a W hf hds hs⟩
end
section
variable{fr:Fr}{l:List Ab}{d:Nat}
theorem AP(h:OpE P ro N fr l o K)(hk: ∀v l',K v l'->Dk P ro N E ops Q rest ((d,v)::fr) ds l')(hw:o.guard=none:=by rfl)(hd:o.dst=some d:=by rfl)(hb:Nat.blt d N=true:=by rfl):Dk P ro N E ops Q (o::rest) fr ds l:=fe h hw hd hb hk
theorem Bb(h:OpQ P ro N fr l o v)(hk:Dk P ro N E ops Q rest ((d,v)::fr) ds l)(hw:o.guard=none:=by rfl)(hd:o.dst=some d:=by rfl)(hb:Nat.blt d N=true:=by rfl):Dk P ro N E ops Q (o::rest) fr ds l:=oX h hw hd hb hk
theorem A9(hp:Keep l l')(hk:K (Iw vs) l')(hr:fn.results=rs.toArray:=by rfl)(h:ResS P fr l' rs vs:=by exact A8):CO N E (bodyPostM Fence.wide 0 P fn (RK E K)) .ret fr [] l:=BA [] hr hp h hk
theorem CF(l2:List Ab)(hp:Keep l l2)(p2:Keep l2 l')(hk:K (Iw vs) l')(hr:fn.results=rs.toArray:=by rfl)(h:ResS P fr l2 rs vs:=by exact A8):CO N E (bodyPostM Fence.wide 0 P fn (RK E K)) .ret fr [] l:=AW [] l2 hr hp h p2 hk
theorem EA(h:p:=by(refine Aj ?_;first|exact A9 .refl ⟨rfl,rfl⟩|exact A9 (.drop .refl) ⟨rfl,rfl⟩|exact A9 (.drop (.drop .refl)) ⟨rfl,rfl⟩)):p:=h
theorem AM{f:FuncId}(hf:P.funcs[f]?=some fn)(hn:fn.ntmps=N)(h: ∀E,BH P none N E c (bodyPostM Fence.wide 0 P fn (RK E K)) fr [] l)(hb:fn.body=some c:=by rfl)(ha:UC 0 args=fr:=by(simp only[UC];rfl))(hl:Nat.ble args.length fn.ntmps=true:=by rfl):Fn P f args l K:=Rd hf hb hl λE=>by rw[ha,hn];exact h E
theorem yz{a b:List (Nat×Bool)}(h:a=b:=by(simp only[Ck,List.contains_cons,List.contains_nil,Nat.reduceBEq,Nat.reduceAdd,Bool.or_false,Bool.or_true,La,Bool.true_or,Bool.not_true,GO];rfl)):a=b:=h
theorem Ch{plan:List (Nat×Bool)}(ef:List Nat)(n:Nat)(R:List Ab)(h:PlanS P ro N E os.toArray Q R (lV os) none [] pl fr ds l)(hR: ∀c,c∈R->c∈l:=by exact SY)(hp:Ck ef 0 n=plan:=by exact yz)(ha:Attach os plan pl:=by exact Gt)(hm:P.follows .mixedOrders=true:=by kernel_rfl)(hv:UI os plan (lV os)=true:=by kernel_rfl):BH P ro N E (.region k os.toArray true) Q fr ds l:=Ld plan _ R hm hv ha hR h
end
set_option maxRecDepth 20000
theorem Gf{fr:Fr}{d:Option Nat}{aft:Array Edge}{t:Nat}{cs:List Value}{xs:List (Nat×Operand)}{ps:List (Nat×Value)}(hx:XR fr xs=some ps)[c:ZV P t zs][ca:AT P t n e k](hfill:Instr.fill (λi=>some (i*k,k)) (toArray zs) ps=some (toArray cs)):OpQ P ro N fr R ⟨d,.build t (toArray xs),ty,pos,aft,g⟩ (.agg (toArray cs)):=BK rfl λρ l hρ _=>by
 obtain⟨i,zv,h1,h2,h3⟩:=Jt c.out;obtain⟨inf,k1,k2,k3⟩:=Lv ca.out;simp only[execOp,AB,Instr.build,zeroValue,C5,hρ.parts hx];rw[<-AB,Jj h1,h2];simp only[Bj];rw[EC k1];show sl P (sizeOf e>>=_) l _;rw[AB,GV k2];have hz:zv.cells=toArray zs:=by rw[<-h3]
 simp only[k3];rw[hz,hfill];exact⟨rfl,rfl⟩
abbrev z8:List Value:=[.int .u64 0,.int .u64 0,.int .u64 0,.int .u64 0,.int .u64 0,.int .u64 0,.int .u64 0,.int .u64 0]
def ZS(n:Nat):List Value:=replicate (n*8) (.int .u64 0)
theorem f6(n:Nat):ZS n=(replicate n z8).flatten:=by
 unfold ZS
 induction n with
 |zero=>rfl
 |succ n ih=>rw[BG,Cq,<-ih,show(n+1)*8=8+n*8 by omega,<-IU];rfl
theorem lW(h:k<n):CV (toArray (ZS n)) (k*8) z8=toArray (ZS n):=by
 apply Dq;intro j;have hsz:(toArray (ZS n)).size=n*8:=by simp[ZS]
 rw[Rt,hsz];by_cases hj:k*8<=j/\j<k*8+8
 ·rw[Ad ⟨hj.1,by simp;omega,Af⟩];obtain⟨i,hi,rfl⟩: ∃i,i<8/\j=k*8+i:=⟨j-k*8,Af,Af⟩
  rw[Cx];have h1:(toArray (ZS n))[k*8+i]?=some (.int .u64 0):=by unfold ZS;rw[AC,Ee,Ad Af]
  rw[h1];rcases i with _|_|_|_|_|_|_|_|i<;>first|rfl|omega
 ·rw[Ac λh=>hj ⟨h.1,by have:=h.2.1;simp at this;omega⟩]
abbrev Oj(b gb n:Nat):Ab:=(b,.cells (toArray [.slice (some ⟨gb,0,none⟩) n n]) 254 (0,0))
abbrev sN(gb n:Nat):Ab:=(gb,.cells (toArray (ZS n)) 255 (0,0))
def wA(b n:Nat)(lq:List Ab):Prop:=1<=n/\n<=64/\ ∃gb,lq=[Oj b gb n,sN gb n]
theorem f9(n:Nat)(h1:1<=n)(h2:n<=64)(l:List Ab):Fn prog 127 [.int .i64 (n:Nat)] l λv l'=> ∃b,v= .tuple #[.pointer (some ⟨b,0,none⟩),.int .i64 0]/\ ∃lq,wA b n lq/\l'=lq++l:=by refine AM func127 ntmps127 λE=>?_;refine Aj ?_;refine AP (FG (n:=n) (kk:=8) (xs:=ZS n) rfl rfl Af Af AX (f6 n)) ?_;rintro _ _ ⟨gb,hgb,rfl,rfl⟩;refine AO λb=>?_;exact A9 .refl ⟨_,rfl,_,⟨h1,h2,gb,rfl⟩,rfl⟩
abbrev BJ(B:Nat)(x:Int):Ab:=(B,.cells (toArray [.int .i64 x]) 3 (0,0))
abbrev VG(B b:Nat):Ab:=(B,.cells (toArray [.pointer (some ⟨b,0,none⟩)]) 154 (0,0))
theorem V9(b f:Nat)(l:List Ab):Fn prog 184 [.pointer (some ⟨b,0,none⟩),.int .i64 (f:Nat)] l λv l'=> ∃B1 B2,v= .func (.func 243) #[] #[.pointer (some ⟨B1,0,none⟩),.pointer (some ⟨B2,0,none⟩)]/\l'=BJ B1 f::VG B2 b::l:=by refine AM func184 ntmps184 λE=>?_;refine Aj ?_;refine AP (Eb rfl rfl) ?_;rintro _ _ ⟨B2,_,rfl,rfl⟩;refine AP (Eb rfl rfl) ?_;rintro _ _ ⟨B1,_,rfl,rfl⟩;refine Aj ?_;exact A9 .refl ⟨_,_,rfl,rfl⟩
theorem OA(h:f<=k)(hk:k<n):(List.range' f (n-f)).take (k+1-f)=(List.range' f (n-f)).take (k-f)++[k]:=by rw[show k+1-f=(k-f)+1 by omega,Cg,List.getElem?_range' Af];simp;omega
theorem TM(B1 B2 b gb n f:Nat)(hf:f<n)(hn:n<=64):Fa prog 243 [.pointer (some ⟨B1,0,none⟩),.pointer (some ⟨B2,0,none⟩)] (λx:Nat=>[.int .i64 (x:Nat),.pointer (some ⟨gb,x*8,none⟩)]) (λxs=>xs=List.range' f (n-f)) (λpre=>pre<+:List.range' f (n-f))
 (λ_ l=>BJ B1 f∈l/\VG B2 b∈l/\Oj b gb n∈l):=by
 refine⟨λr I Ix G0 hneed hY l G hG h0=>?_⟩;obtain⟨n1,n2,n3⟩:=hneed _ _ G hG h0;refine AM func243 ntmps243 λE=>?_;refine Aj ?_;refine CE (α:=Nat×List Ab) (λx=>[(0,.func (.yield r) #[] #[]),(2,.pointer (some ⟨B2,0,none⟩)),(4,.int .i64 x.1)]) (λx=>x.2++G) (λx=>f<=x.1/\x.1<=n/\I ((List.range' f (n-f)).take (x.1-f)) x.2) (λx=>n-x.1) (f,l) ⟨A7 _,by simp only;omega,by simp only;rw[DD];exact h0⟩ ⟨rfl,rfl,rfl,trivial⟩ .refl ?_;clear n1 n2 n3;rintro⟨k,l⟩ ⟨hk1,hk2,hI⟩;simp only at hk1 hk2 hI⊢;obtain⟨n1,n2,n3⟩:=hneed _ _ G hG hI;by_cases hlt:k<n
 ·refine Aj ?_;have hy:=hY ((List.range' f (n-f)).take (k-f)) k l G hG hI (by rw[<-OA hk1 hlt];exact BE _ _);refine AP (CQ rfl rfl hy) ?_;rintro v l' ⟨l1,rfl,⟨rfl,hI'⟩|⟨rfl,hx⟩⟩
  ·refine Aj ?_;exact BV (k+1,l1) ⟨by simp only;omega,by simp only;omega,by simp only;rw[OA hk1 hlt];exact hI'⟩ (by simp only;omega) ⟨rfl,rfl,rfl,trivial⟩ .refl
  ·refine Aj ?_;exact BA [] rfl .refl (by exact A8) ⟨l1,rfl,.inr ⟨_,by rw[<-OA hk1 hlt];exact BE _ _,hx⟩⟩
 ·obtain rfl:k=n:=by omega
  rw[Bv (by simp)] at hI;refine Aj ?_;exact A9 .refl ⟨l,rfl,.inl ⟨_,rfl,hI⟩⟩
theorem bT(b n f k:Nat)(lq:List Ab)(hq:wA b n lq)(hf:f<n)(hk:k<=n-f)(G:List Ab):Fn prog 139 [.pointer (some ⟨b,0,none⟩),.int .i64 (f:Nat),.int .i64 (k:Nat)] (lq++G) λv l'=>v= .int .i64 0/\ ∃X,l'=lq++(X++G):=by
 obtain⟨h1,h2,gb,rfl⟩:=hq;simp only[Ae,Ag];refine AM func139 ntmps139 λE=>?_;refine Aj ?_;refine AP (Eb rfl rfl) ?_;rintro _ _ ⟨b4,_,rfl,rfl⟩;refine AP (Eb rfl rfl) ?_;rintro _ _ ⟨b5,_,rfl,rfl⟩;refine Aj ?_;refine Ch [] 27 _ ?_ (hR:=(λ_ h=>h));refine BM ?_;refine Aj ?_;refine AP (Az rfl rfl (V9 b f _)) ?_;rintro _ _ ⟨B1,B2,rfl,rfl⟩;refine Aj ?_;refine C0 (α:=Nat) (ps:=[42,43]) (lb:=[.pointer (some ⟨B1,0,none⟩),.pointer (some ⟨B2,0,none⟩)]) rfl (TM B1 B2 b gb n f hf h2) (λ_=>rfl) rfl
  (λpre l=>l=[BJ B1 f,VG B2 b,BJ b5 k,BJ b4 f,Oj b gb n,sN gb n])
  (λc pre l=>c= .exit 1/\l=[BJ B1 f,VG B2 b,BJ b5 k,BJ b4 f,Oj b gb n,sN gb n])
  _ G (λpre l2 X2 hX h=>by rw[h];exact⟨Ah _ (by exact BS),Ah _ (by exact BS),Ah _ (by exact BS)⟩) (by exact AS) rfl ?_ ?_ ?_
 ·rintro E r0 rec pre x l' T ⟨fn,tmps,D,rfl⟩ hT rfl hsp;have hx:f<=x/\x<n:=by
   have h3:x∈List.range' f (n-f):=hsp.subset (by simp);rw[KI] at h3;omega
  simp only[DG,Ae,Ag];refine Aj ?_;refine Cy (by exact DI) ?_;refine Aj ?_;by_cases hb:(x:Int)-f>=k
  ·refine Aj ?_;refine EE [BJ B1 f,VG B2 b,BJ b5 k,BJ b4 f,Oj b gb n,sN gb n] (by exact AS) ⟨rfl,rfl⟩
  ·refine Aj ?_;refine Bb (Gf (zs:=z8) (cs:=z8) rfl rfl) ?_;refine tN ?_;apply Mu
   ·exact Et (cs:=toArray (ZS n)) (n:=8) rfl rfl rfl (by simp[Value.oneCell']) (by exact DI) (by simp[ZS];omega)
   ·rfl
   ·rfl
   rintro _ _ ⟨rfl,rfl⟩;rw[show(toArray z8).toList=z8 from rfl,lW hx.2];refine Aj ?_;exact B0 _ .refl rfl
 ·rintro D xs l' rfl rfl;simp only[Ae,Ag];refine Aj ?_;exact AW [D] _ rfl (l':=Oj b gb n::sN gb n::G) (by exact AS) (by exact A8) (by exact AS) ⟨rfl,[],rfl⟩
 ·rintro D c pre l' hsp ⟨rfl,rfl⟩;simp only[Ae,Ag];refine Aj ?_;exact AW [D] _ rfl (l':=Oj b gb n::sN gb n::G) (by exact AS) (by exact A8) (by exact AS) ⟨rfl,[],rfl⟩
theorem BR(h: ∀(f:List Ab->Nat) (g:Ab->Nat),f []=0->(∀x l,f (x::l)=g x+f l)->(∀x y,f (x++y)=f x+f y)->f A=f B:=by intro f g h0 h1 h2;simp only[CI,AI,h0,h1,h2];try omega):A.Perm B:=by
 classical
 refine List.perm_iff_count.2 λa=>h (λl=>List.count a l) (λx=>List.count a [x]) rfl (λx l=>?_) (λx y=>List.count_append);rw[show x::l=[x]++l from rfl,List.count_append]
theorem A4(X:List Ab)(h: ∀(f:List Ab->Nat) (g:Ab->Nat),f []=0->(∀x l,f (x::l)=g x+f l)->(∀x y,f (x++y)=f x+f y)->f A=f (X++B):=by intro f g h0 h1 h2;simp only[CI,AI,h0,h1,h2];try omega):Keep A B:=⟨X,BR h⟩
theorem Fn.mvP{f:FuncId}{Kv:Value->Prop}{I:List Ab->Prop}(Γ:List Ab->List Ab)(h:Fn P f args (A++F) λv l'=>Kv v/\ ∃A',I A'/\l'=A'++F)
 (hΓ: ∀A,(Γ A).Perm (A++F):=by intro A;exact BR):Fn P f args (Γ A) λv l'=>Kv v/\ ∃A',I A'/\l'=Γ A':=
 Fn.re (.of_perm (hΓ A)) h λv l' ⟨h1,A',h2,h3⟩=>⟨_,by rw[h3];exact .of_perm (hΓ A').symm,h1,A',h2,rfl⟩
abbrev pV(b:Nat):Value:= .pointer (some ⟨b,0,none⟩)
abbrev Rv(b:Nat)(v:Value):Ab:=(b,.cells (toArray [v]) 283 (0,0))
structure Lm where
 sp:Int
 pg:Int
 fr:Int
 rd:Bool
 wr:Bool
deriving DecidableEq
abbrev PG(t:Lm):List Value:=[.int .i64 t.sp,.int .i64 t.pg,.int .i64 t.fr,.bool t.rd,.bool t.wr]
abbrev Pz:Lm:=⟨0,0,0,false,false⟩
structure KA where
 w:Nat->Lm
 d:Nat->Int
def bU(T:KA)(s:Nat):List Value:=PG (T.w (2*s))++(PG (T.w (2*s+1))++[.int .i64 (T.d s)])
def QG(T:KA):List Value:=bU T 0++(bU T 1++(bU T 2++bU T 3))
abbrev MU(b:Nat)(T:KA):Ab:=(b,.cells (toArray (QG T)) 400 (0,0))
structure Ic where
 ro:Int
 sp:Int
 tb:KA
abbrev O3(c:Ic×Nat):List Value:=[.int .i64 c.1.ro,.int .i64 c.1.sp,pV c.2]
def F5(ks:List (Ic×Nat)):List Ab:=ks.map λc=>MU c.2 c.1.tb
def IsCos(b:Nat)(K:List Ic)(lq:List Ab):Prop:= ∃v cs ks,ks.map Prod.fst=K/\OwnSl 310 3 v ks.length (ks.flatMap O3) cs/\(∀c,c∈ks-> ∀s,s<4->c.1.tb.d s=0\/c.1.tb.d s=1)/\lq=Rv b v::(cs++F5 ks)
abbrev wB:KA:=⟨λ_=>Pz,λ_=>0⟩
abbrev XA:Ic:=⟨-1,0,wB⟩
theorem ga(l:List Ab):Fn prog 178 [] l λv l'=> ∃b,v= .pointer (some ⟨b,0,none⟩)/\l'=MU b wB::l:=by refine AM func178 ntmps178 λE=>?_;refine AO λb=>?_;exact A9 .refl ⟨_,rfl,rfl⟩
def tS(b n:Nat)(lq:List Ab):Prop:=IsCos b (replicate n XA) lq
theorem gc(n:Nat)(h1:1<=n)(h2:n<=3)(l:List Ab):Fn prog 128 [.int .i64 (n:Nat)] l λv l'=> ∃b,v= .tuple #[.pointer (some ⟨b,0,none⟩),.int .i64 0]/\ ∃lq X,tS b n lq/\l'=lq++(X++l):=by
 refine AM func128 ntmps128 λE=>?_;refine AO λb=>?_;refine CE (α:=Nat×Value×List Nat×List Ab) (λx=>[(4,.pointer (some ⟨b,0,none⟩)),(13,.int .i64 n),(14,.int .i64 x.1)]) (λx=>Rv b x.2.1::(x.2.2.2++(F5 (x.2.2.1.map λc=>(XA,c))++l)))
  (λx=>x.1<=n/\x.2.2.1.length=x.1/\OwnSl 310 3 x.2.1 x.1 ((x.2.2.1.map λc=>(XA,c)).flatMap O3) x.2.2.2) (λx=>n-x.1) (0,.slice none 0 0,[],[]) ⟨Bl _,rfl,OwnSl.nil _ _⟩ ⟨rfl,rfl,rfl,trivial⟩ .refl ?_
 rintro⟨i,v,bs,cs⟩ ⟨hi,hbs,ho⟩;simp only at hi hbs ho⊢;have hv1:v.oneCell'=true:=ho.one;by_cases hlt:i<n
 ·refine Aj ?_;refine Ch [5,7,8,11] 12 ([]) ?_;refine BM ?_;apply FM (S:=[Rv b v]);(·exact Tf);(·exact CS (.head _));(·rfl);(·rfl);(·rfl);refine BM ?_;apply GC
  ·exact Az rfl rfl (ga _)
  ·rfl
  ·rfl
  ·rfl
  ·intro _ _ _ c hc;cases hc
  ·rintro _ _ ⟨_,_,rfl⟩ x hx _ c hc;rw[Ax.1 hx] at hc;rw[Ax.1 hc];exact .tail _ (.head _)
  rintro _ _ ⟨bt,rfl,rfl⟩;refine BM ?_;apply GC
  ·exact Fb (k:=3) (zs:=[.int .i64 0,.int .i64 0,.pointer none]) rfl rfl rfl AX AX
  ·rfl
  ·rfl
  ·rfl
  ·intro _ _ _ c hc;cases hc
  ·rintro _ _ ⟨_,_,_,rfl⟩ x hx _ c hc;rw[Ax.1 hx] at hc;rw[Ax.1 hc];exact .tail _ (.tail _ (.head _))
  rintro _ _ ⟨bl,_,rfl,rfl⟩;refine BM ?_;apply GC
  ·exact GX (k:=3) (X:=[_,_]) (cs:=cs) (F:=F5 (bs.map λc=>(XA,c))++l) (n:=i) (xs:=(bs.map λc=>(XA,c)).flatMap O3) (zs:=[.int .i64 0,.int .i64 0,.pointer none]) rfl rfl rfl ho rfl (by simp[Value.oneCell']) Af AX
  (·rfl);(·rfl);(·rfl);(·intro _ _ _ c hc;cases hc);(·exact λ_ _ _ x hx ha=>C3 Bs hx ha)
  rintro v2 _ ⟨c2,ho2,rfl⟩;simp only[Ae,Ag];have hv2:v2.oneCell'=true:=ho2.one;refine BM ?_;apply GW
  ·exact F0 rfl rfl hv2 (by exact BS) .zero (by exact DI)
  (·rfl);(·rfl);(·intro _ _ _ c hc;cases hc);(·exact λ_ _ _ x hx ha=>C3 Bs hx ha)
  rintro _ _ ⟨rfl,rfl⟩;refine BM ?_;refine Aj ?_;have e1:F5 ((bs++[bt]).map λc=>(XA,c))=F5 (bs.map λc=>(XA,c))++[MU bt wB]:=by unfold F5;rw[Aq,Aq];rfl
  have e2:((bs++[bt]).map λc=>(XA,c)).flatMap O3=(bs.map λc=>(XA,c)).flatMap O3++O3 (XA,bt):=by rw[Aq,DV];rfl
  exact BV (i+1,v2,bs++[bt],c2) ⟨by simp only;omega,by rw[Ai,hbs];rfl,by simp only;rw[e2];exact ho2⟩ (by simp only;omega) ⟨rfl,rfl,rfl,trivial⟩ (by
   simp only;rw[e1,Am];exact .of_perm ((List.Perm.swap _ _ _).trans (List.Perm.cons _ (by refine AH.symm.trans (Ex _ ?_);exact AH.symm))))
 ·obtain rfl:i=n:=by omega
  refine Aj ?_;refine BA [] rfl .refl (by exact A8) ⟨_,rfl,_,[],⟨v,cs,bs.map λc=>(XA,c),?_,by rw[A3,hbs];exact ho,?_,rfl⟩,by simp⟩
  ·rw[CJ];exact List.eq_replicate_iff.2 ⟨by rw[A3,hbs],λx hx=>by obtain⟨_,_,rfl⟩:=Au.1 hx;rfl⟩
  ·intro c hc s _;obtain⟨_,_,rfl⟩:=Au.1 hc;exact .inl rfl
namespace Ar
variable{e yb T k n cap N gb m:Nat}{P:Program}{ro:Option Nat}{R F:List Ab}{ty:TypeId}{pos:String}{g:Option (Nat×Bool)}{x:Operand}{p:Option Addr}
theorem X6(w:World)(dT sT ty elem:TypeId)(i:TypeInfo)(g o dLen dCap:Nat)(a:Addr)(sLen sCap:Nat)(cur:Array Value)(t:TypeId)(cs:List Value)
 (hu:P.underlying dT=some (.slice elem))(hi:P.info? elem=some i)
 (hg:w.heap[g]?=some (.cells cur t (0,0)))(hn:cs.length=Nat.min sLen dLen*i.size)
 (hsrc: ∀j v,cs[j]?=some v->w.cell? (a.add j)=some v)(hfit:o+cs.length<=cur.size)(h1: ∀v∈cs,v.oneCell'=true):
 (Builtin.copy_ #[dT,sT] ty #[.slice (some ⟨g,o,none⟩) dLen dCap,.slice (some a) sLen sCap]).run P w=
   .ok (goInt (Nat.min sLen dLen)) (w.setRow g (cur.toList.take o++cs++cur.toList.drop (o+cs.length)).toArray):=by
 have hl:=run_firstCells_some (P:=P) (w:=w) i.size (Nat.min sLen dLen) a sLen sCap cs hn hsrc;have hst:=run_storeCells_at P g o t cs 0 cur w hg (by simpa using hfit) h1;simp only[CH] at hst;have e1:(Builtin.lenOf (.slice (some a) sLen sCap)).run P w= .ok sLen w:=rfl;have e2:(sizeOf elem).run P w= .ok i.size w:=by simp[sizeOf,typeInfo,hi]
 unfold Builtin.copy_;simp only[AC,CY,CX,Sem.run_bind,run_underlying hu,Result.andThen_ok,e1,e2,hl,hst];rfl
theorem PH(w:World)(t tn ty e:TypeId)(i:TypeInfo)(z:Value)(k kn:IntKind)(ht:P.underlying t=some (.slice e))(htn:P.underlying tn=some (.int kn))(hi:P.info? e=some i)(hz:i.zero=some z)
 (b:Addr)(sLen sCap:Nat)(olds:List Value)(hlo:olds.length=sLen*i.size)(holds: ∀j v,olds[j]?=some v->w.cell? (b.add j)=some v)
 (n:Nat)(h0:0<n)(hs:0<i.size)(hg:sCap<sLen+n)(h63:sLen+n<=1000000)(hby:i.bytes<=1000)(hfit:Builtin.nextslicecap (sLen+n) sCap*i.bytes<=281474976710656):
 (Builtin.append_ #[t,tn] ty #[.slice (some b) sLen sCap,.int k n]).run P w=
   .ok (.slice (some ⟨w.heap.size,0,none⟩) (sLen+n) (grownCap w (sLen+n) sCap e)) (w.drew.alloc (.cells (olds.toArray++Builtin.zeroCells z.cells n++Builtin.zeroCells z.cells (grownCap w (sLen+n) sCap e-(sLen+n))) e)):=by
 have hw:IntKind.i64.wrap (n:Int)=n:=by rw[IntKind.wrap_i64];omega
 have h48:(n:Int)*(i.bytes:Int)<=1000000000:=by have:n*i.bytes<=1000000*1000:=IB Af hby;rw[<-JC];omega
 have h48i:¬(281474976710656<(n:Int)*(i.bytes:Int)):=by omega
 have hneg:¬((n:Int)<0):=by omega
 have hns:¬(n*i.size=0):=Nat.mul_ne_zero Af Af;have hn:¬(sLen+n<=sCap):=by omega
 have h63':¬(9223372036854775807<((sLen:Int)+(n:Int))):=by omega
 have h48':¬(281474976710656<Builtin.nextslicecap (sLen+n) sCap*i.bytes):=by omega
 have hfo:=run_firstCells_some (P:=P) (w:=w.drew) i.size sLen b sLen sCap olds hlo (by simpa using holds);simp[Builtin.append_,run_underlying ht,run_underlying htn,sizeOf,typeInfo,zeroValue,hi,hz,asInt,asIntOf,hw,hn,hneg,hns,h63',h48',h48i,Question.forced,hfo,newRow,grownCap]
section
variable{fr:Fr}{l:List Ab}{d:Option Nat}{t:TypeId}{aft:Array Edge}{y s:Operand}{off b:Nat}
theorem tT{kk:Nat}(hx:ev fr x=some (.slice p n cap))[c:ST P t e kk yb]:OpQ P ro N fr R ⟨d,.call {callee:= .builtin .cap,args:=#[x],argTypes:=#[t]},ty,pos,aft,g⟩ (.int .i64 (cap:Nat)):=BK rfl λρ l hρ _=>by obtain⟨inf,h1,_⟩:=EH c.out;simp only[execOp,resolve,AB,Bj,invoke,builtin,C5,AI,CI,hρ x _ hx,Builtin.cap_];show sl P (underlying t>>=_) l _;rw[B9 h1];exact⟨rfl,rfl⟩
theorem QI{T2 o sb so dLen dCap sLen sCap:Nat}{cur cs:List Value}{cl:Array Value}{ct:TypeId}{fz:Nat×Nat}(hx:ev fr x=some (.slice (some ⟨gb,o,none⟩) dLen dCap))(hy:ev fr y=some (.slice (some ⟨sb,so,none⟩) sLen sCap))[c:ST P T e k yb]
 (hm:Nat.min sLen dLen=m)(hl:cs.length=m*k)(hs:(sb,Obj.cells cl ct fz)∈(gb,.cells (toArray cur) e (0,0))::F)(hsrc: ∀j u,cs[j]?=some u->cl[so+j]?=some u)(hfit:o+cs.length<=cur.length)(h1: ∀u∈cs,u.oneCell'=true):
 OpE P ro N fr ((gb,.cells (toArray cur) e (0,0))::F) ⟨d,.call {callee:= .builtin .copy,args:=#[x,y],argTypes:=#[T,T2]},ty,pos,aft,g⟩ (λv' l'=>v'= .int .i64 (m:Nat)/\l'=(gb,.cells (toArray (cur.take o++cs++cur.drop (o+cs.length))) e (0,0))::F):=by
 subst hm;refine⟨rfl,λE a W hf hs'=>?_⟩;have hρ:=hf.agrees;obtain⟨inf,u1,u2,u3,u4⟩:=EH c.out;have hex:execOp a.eval ⟨d,.call {callee:= .builtin .copy,args:=#[x,y],argTypes:=#[T,T2]},ty,pos,aft,g⟩=(do pure (.value (<-Builtin.copy_ #[T,T2] ty #[.slice (some ⟨gb,o,none⟩) dLen dCap,.slice (some ⟨sb,so,none⟩) sLen sCap])):Sem Next):=by simp[execOp,resolve,hρ x _ hx,hρ y _ hy,invoke,builtin]
 unfold OpVal;rw[hex,Sem.run_bind];have hr:=X6 (P:=P) W T T2 ty e inf gb o dLen dCap ⟨sb,so,none⟩ sLen sCap (toArray cur) e cs u1 u2 (hs'.has (gb,_) Ak) (by rw[u3];exact hl) (λj u hj=>by rw[FZ,hs'.cell hs];exact hsrc j u hj) (by simpa using hfit) h1;rw[hr];exact⟨_,⟨rfl,rfl⟩,hs'.row⟩
theorem bV{tn:Nat}{xs sp zs:List Value}(hx:ev fr s=some (.slice (some ⟨gb,0,none⟩) n cap))(hy:ev fr x=some (.int .i64 (m:Nat)))[c:ST P T e k yb][cz:ZV P e zs][ci:IT P tn .i64](hzs:zs.length=k)(hk:0<k)
 (hxs:xs.length=n*k)(hm0:0<m)(hroom:cap<n+m)(hn:n+m<=1000000)(hby:yb<=1000):
 OpE P ro N fr ((gb,.cells (toArray (xs++sp)) e (0,0))::F) ⟨d,.call {callee:= .builtin .append,args:=#[s,x],argTypes:=#[T,tn]},ty,pos,aft,g⟩ (λv' l'=> ∃nb cap' sp',(∀c,c∈(gb,Obj.cells (toArray (xs++sp)) e (0,0))::F->c.1≠nb)/\v'= .slice (some ⟨nb,0,none⟩) (n+m) cap'/\l'=(nb,.cells (toArray (xs++(replicate m zs).flatten++sp')) e (0,0))::(gb,.cells (toArray (xs++sp)) e (0,0))::F/\n+m<=cap'/\cap'<=maxLen/\(xs++(replicate m zs).flatten++sp').length=cap'*k):=by
 refine⟨rfl,λE a W hf hs=>?_⟩;have hρ:=hf.agrees;obtain⟨inf,u1,u2,u3,u4⟩:=EH c.out;obtain⟨inf',zv,z1,z2,z3⟩:=Jt cz.out;rw[u2] at z1;cases z1;have hu:=Ro ci.out;have hex:execOp a.eval ⟨d,.call {callee:= .builtin .append,args:=#[s,x],argTypes:=#[T,tn]},ty,pos,aft,g⟩=(do pure (.value (<-Builtin.append_ #[T,tn] ty #[.slice (some ⟨gb,0,none⟩) n cap,.int .i64 (m:Nat)])):Sem Next):=by simp[execOp,resolve,hρ s _ hx,hρ x _ hy,invoke,builtin]
 unfold OpVal;rw[hex,Sem.run_bind];have hzc:zv.cells=toArray zs:=by rw[<-z3]
 have hold: ∀j u,xs[j]?=some u->W.cell? ((⟨gb,0,none⟩:Addr).add j)=some u:=λj u hj=>by rw[FZ,hs.cell Ak,BC];have hlt:=(Ay.1 hj).1;simp only[AC];rw[AF hlt];exact hj
 have hb2:(n+m)*yb<=140737488355328:=by have:=IB hn hby;omega
 have hr:=PH (P:=P) W T tn ty e inf zv .i64 .i64 u1 hu u2 z2 ⟨gb,0,none⟩ n cap xs (by rw[u3];exact hxs) hold m hm0 (by rw[u3];exact hk) hroom hn (by rw[u4];exact hby) (growslice_fits Af (by rw[u4];exact hb2));rw[hr];have hsz:=size_zeroCells zv.cells (grownCap W (n+m) cap e-(n+m));have hzm:Builtin.zeroCells zv.cells m=toArray (replicate m zs).flatten:=by unfold Builtin.zeroCells;have hk2:0<m*k:=Nat.mul_pos hm0 hk;have:=TJ hzc hzs hk2;rw[show zv.cells.size=k by rw[hzc];simpa using hzs];rw[<-this,show zv.cells.size=k by rw[hzc];simpa using hzs]
 refine⟨_,⟨W.heap.size,grownCap W (n+m) cap e,(Builtin.zeroCells zv.cells (grownCap W (n+m) cap e-(n+m))).toList,λc hc=>?_,rfl,rfl,grownCap_ge _ _ _ _,grownCap_le_maxLen _ _ _ _ (by unfold maxLen;omega),?_⟩,?_⟩
 ·intro e1;have:=hs.has c hc;rw[e1] at this;simp at this
 ·have hge:=grownCap_ge W (n+m) cap e;have h1:(Builtin.zeroCells zv.cells (grownCap W (n+m) cap e-(n+m))).toList.length=(grownCap W (n+m) cap e-(n+m))*k:=by
   rw[Array.length_toList,hsz,show zv.cells.size=k by rw[hzc];simpa using hzs]
  have:(replicate m zs).flatten.length=m*k:=by simp[hzs]
  rw[Ai,Ai,hxs,h1,this,<-E0,<-E0];congr 1;omega
 ·have h2:=hs.drew.alloc (.cells (xs.toArray++Builtin.zeroCells zv.cells m++Builtin.zeroCells zv.cells (grownCap W (n+m) cap e-(n+m))) e);have e1:W.drew.heap.size=W.heap.size:=rfl;rw[e1] at h2;have e2:toArray (xs++(replicate m zs).flatten++(Builtin.zeroCells zv.cells (grownCap W (n+m) cap e-(n+m))).toList)=xs.toArray++Builtin.zeroCells zv.cells m++Builtin.zeroCells zv.cells (grownCap W (n+m) cap e-(n+m)):=by
   rw[hzm];apply BO.1;simp
  rw[e2];exact h2
theorem X9{f:Nat}{fn:Func}{at_:Array TypeId}{a1 o1 a2 o2 n1 c1 n2 c2:Nat}{cl1 cl2:Array Value}{t1 t2:TypeId}(hfx:ev fr s=some (.func (.func f) #[] #[]))(hx:ev fr x=some (.slice (some ⟨a1,o1,none⟩) n1 c1))(hy:ev fr y=some (.slice (some ⟨a2,o2,none⟩) n2 c2))[c:ST P T e k yb]
 (hf:P.funcs[f]?=some fn)(hfn:(fn.name== "runtime.NumGoroutine")=false)(hb:fn.body.isNone=true)(hnx:Extern.findNext fn=none)(tR:TypeId)(hext:Extern.find fn=some (Extern.SlicesOverlaps.overlaps #[T,T] #[tR]))
 (h1:(a1,Obj.cells cl1 t1 (0,0))∈R)(h2:(a2,Obj.cells cl2 t2 (0,0))∈R)(hne:a1≠a2)(h0:0<cl2.size):
 OpQ P ro N fr R ⟨d,.call {callee:= .value s,args:=#[x,y],argTypes:=at_},ty,pos,aft,g⟩ (.bool false):=by
 refine⟨λl hl=>⟨rfl,λE a W hfs hs=>?_⟩⟩;have hρ:=hfs.agrees;obtain⟨inf,u1,u2,u3,u4⟩:=EH c.out;have k1:=hs.has _ (hl _ h1);have k2:=hs.has _ (hl _ h2);simp only at k1 k2;have hr:=Lib.run_overlaps_apart (P:=P) W T tR e u1 inf.size (λw=>by simp[sizeOf,typeInfo,u2]) ⟨a1,o1,none⟩ ⟨a2,o2,none⟩ n1 c1 n2 c2 hne t1 t2 cl1.size cl2.size (by simp[World.shape?,k1]) (by simp[World.shape?,k2]) Af (by simp[World.frozen?,k1]) (by simp[World.frozen?,k1]);have hc:=run_callFunc_extern (P:=P) hf hfn hb hnx hext #[.slice (some ⟨a1,o1,none⟩) n1 c1,.slice (some ⟨a2,o2,none⟩) n2 c2] W;unfold OpVal;have hex:(execOp a.eval ⟨d,.call {callee:= .value s,args:=#[x,y],argTypes:=at_},ty,pos,aft,g⟩).run P W= .ok (.value (.bool false)) W:=by simp only[execOp,resolve,C5,AI,CI,hρ s _ hfx,hρ x _ hx,hρ y _ hy,Deferred.ofValue,Sem.run_bind];simp only[Sem.run_pure,Result.andThen,invoke];simp only[J5,J6];rw[hc,hr];rfl
 rw[hex];exact⟨_,⟨rfl,rfl⟩,hs⟩
end
section
variable{fr:Fr}{l:List Ab}{d:Option Nat}{aft:Array Edge}
theorem gd{lo hi mx:Option Operand}{l0 h0 m0 n' c':Nat}(hx:ev fr x=some (.slice p n cap))[c:ST P T e k yb](hl:fP fr lo 0 l0)(hh:fP fr hi n h0)(hm:fP fr mx cap m0)(hno:mx.isSome=true->hi.isSome=true)(h1:l0<=h0)(h2:h0<=m0)(h3:m0<=cap)
 (hn:h0-l0=n')(hc:m0-l0=c'):OpQ P ro N fr R ⟨d,.slice T x lo hi mx,ty,pos,aft,g⟩ (.slice (if m0=l0 then p else p.map (·.add (l0*k))) n' c'):=BK rfl λρ l hρ _=>by
 obtain⟨inf,u1,u2,u3,_⟩:=EH c.out;subst hn hc;simp only[execOp,hρ x _ hx];rw[AB];unfold Instr.sliceAt;rw[B9 u1];show sl P (Instr.slice T _ _ _ _) l _;unfold Instr.slice;rw[B9 u1];simp only[AB];rw[M4 hρ hl hh hm hno h1 h2 h3];simp only;rw[GV u2];simp only[Bj,u3];simp
end
theorem wC:prog.funcs[241]?=some Tryz.f241:=func241
theorem wD:(Tryz.f241.name== "runtime.NumGoroutine")=false:=Bs
theorem wE:Tryz.f241.body.isNone=true:=Bs
theorem wF:Extern.findNext Tryz.f241=none:=Bs
theorem wG:Extern.find Tryz.f241=some (Extern.SlicesOverlaps.overlaps #[43,43] #[4]):=Bs
theorem qm(A X Y cs:List Value)(h:cs.length=X.length):(A++X++Y).take A.length++cs++(A++X++Y).drop (A.length+cs.length)=A++cs++Y:=by
 rw[h];have e1:(A++X++Y).take A.length=A:=by rw[Am,Gj rfl]
 have e2:(A++X++Y).drop (A.length+X.length)=Y:=by rw[<-Ai,HP rfl]
 rw[e1,e2]
abbrev kQ:List Value:=[.int .i64 0,.int .i64 0,.int .i64 0,.int .i64 0,.int .i64 0,.int .i64 0,.int .i64 0,.int .i64 0,.int .i64 0]
theorem Ya(v:Value)(n i bl:Nat)(xs ws:List Value)(cs F:List Ab)(ho:OwnSl 100 9 v n xs cs)(hi:i<=n)(hw:ws.length=9)(h1: ∀u∈ws,u.oneCell'=true)(hx1: ∀u∈xs,u.oneCell'=true)(hne: ∀c,c∈cs->c.1≠bl)(hn:n<=90000):
 Fn prog 183 [v,.int .i64 (i:Nat),.slice (some ⟨bl,0,none⟩) 1 1] ((bl,.cells (toArray ws) 100 (0,0))::(cs++F)) λv' l'=> ∃c2,OwnSl 100 9 v' (n+1) (xs.take (i*9)++ws++xs.drop (i*9)) c2/\l'=c2++F:=by
 obtain⟨p,cap,hv,hnc⟩: ∃p cap,v= .slice p n cap/\n<=cap:=by
  rcases ho.2 with⟨h,h0,_⟩|⟨b,cap,sp,h,_,h2,_⟩
  ·exact⟨none,0,by rw[h,h0],Af⟩
  ·exact⟨_,cap,h,h2⟩
 subst hv;refine AM func183 ntmps183 λE=>?_;refine gz ?_;refine Bb (gd (l0:=i) (h0:=n) (m0:=cap) rfl (.some rfl Af rfl) .none .none (by simp) hi hnc Af rfl rfl) ?_;refine gz ?_;by_cases hin:i=n
 ·subst hin;refine gz ?_;refine AP (GX (k:=9) (X:=[]) (cs:=cs) (F:=F) (xs:=xs) (n:=i) (ws:=ws) (zs:=kQ) rfl rfl rfl ho hw h1 Af AX) ?_;rintro v' _ ⟨c2,ho2,rfl⟩;have hv1:v'.oneCell'=true:=ho2.one;refine gz ?_;refine A9 (l':=c2++F) .refl ⟨c2,?_,rfl⟩;rw[Bv (by rw[ho.1];omega),Dp (by rw[ho.1];omega),Bf];exact ho2
 refine gz ?_;rcases ho.2 with⟨h,h0,_⟩|⟨gb,cap',sp,h,rfl,h2,hcm,hcl⟩
 ·omega
 cases h;have hxl:xs.length=n*9:=ho.1;obtain⟨A,hA⟩: ∃A,xs.take (i*9)=A:=⟨_,rfl⟩
 obtain⟨B,hB⟩: ∃B,xs.drop (i*9)=B:=⟨_,rfl⟩
 have hAB:xs=A++B:=by rw[<-hA,<-hB,Cd]
 have hAl:A.length=i*9:=by rw[<-hA,C6];omega
 have hBl:B.length=(n-i)*9:=by rw[<-hB,Dx];omega
 have hB1: ∀u∈B,u.oneCell'=true:=λu hu=>hx1 u (by rw[hAB];exact Aa _ hu);rw[hA,hB];have hgb:gb≠bl:=hne _ (.head _);rw[show xs++sp=A++(B++sp) by rw[hAB,Am]] at hcl⊢;rw[Ai,Ai] at hcl;simp only[Ae,Ag];refine Bb (tT rfl) ?_;refine gz ?_;by_cases hroom:cap<n+1
 ·refine gz ?_;refine Bb (FF (l0:=0) (h0:=i) (m0:=cap) (off':=0) (n':=i) (c':=cap) rfl .none (.some rfl Af rfl) .none (by simp) Af Af Af (by simp) Af Af) ?_;refine gz ?_;refine Bk (Keep.of_perm (l':=(gb,.cells (toArray (A++(B++sp))) 100 (0,0))::((bl,.cells (toArray ws) 100 (0,0))::F)) (List.Perm.swap ..)) ?_;refine AP (bV (k:=9) (n:=i) (m:=n+1-i) (gb:=gb) (cap:=cap) (xs:=A) (sp:=B++sp) (zs:=kQ) (F:=(bl,.cells (toArray ws) 100 (0,0))::F) rfl ?_ rfl Af hAl Af Af Af AX) ?_
  ·show some (Value.int .i64 _)=_;congr 2;omega
  rintro _ _ ⟨nb,cap2,sp2,hnb,rfl,rfl,hc1,hc2,hc3⟩;rw[show i+(n+1-i)=n+1 by omega] at hc1⊢;obtain⟨Z,hZ⟩: ∃Z,(replicate (n+1-i) kQ).flatten=Z:=⟨_,rfl⟩
  have hZl:Z.length=9+B.length:=by rw[<-hZ,hBl];simp;omega
  rw[hZ] at hc3⊢;have e0:A++Z++sp2=A++Z.take 9++(Z.drop 9++sp2):=by rw[Am,Am,<-Am (Z.take 9),Cd]
  have hZ9:(Z.take 9).length=9:=by rw[C6];omega
  have hZd:(Z.drop 9).length=B.length:=by rw[Dx];omega
  rw[Ai,Ai] at hc3;refine gz ?_;refine Bb (FF (l0:=i) (h0:=n+1) (m0:=cap2) (off':=A.length) (n':=n+1-i) (c':=cap2-i) rfl (.some rfl Af rfl) .none .none (by simp) Af Af Af (by rw[Ac Af];omega) rfl rfl) ?_;refine gz ?_;have hl1:(bl,Obj.cells (toArray ws) 100 (0,0))∈(nb,Obj.cells (toArray (A++Z++sp2)) 100 (0,0))::(gb,.cells (toArray (A++(B++sp))) 100 (0,0))::(bl,.cells (toArray ws) 100 (0,0))::F:= .tail _ (.tail _ (.head _));refine AP (QI (k:=9) (m:=1) (cs:=ws) rfl rfl (by show min 1 (n+1-i)=1;omega) hw hl1 (λj u hj=>by simpa using hj) (by simp only[Ai];omega) h1) ?_;rintro _ _ ⟨rfl,rfl⟩;rw[e0,qm A _ _ ws (by rw[hw,hZ9])];refine gz ?_;have hAw:(A++ws).length=i*9+9:=by rw[Ai];omega
  have hl2:(gb,Obj.cells (toArray (A++(B++sp))) 100 (0,0))∈(nb,Obj.cells (toArray (A++ws++(Z.drop 9++sp2))) 100 (0,0))::(gb,.cells (toArray (A++(B++sp))) 100 (0,0))::(bl,.cells (toArray ws) 100 (0,0))::F:= .tail _ (.head _);refine Ch [8] 9 ([]) ?_;refine pz ?_;apply Ej
  ·exact FF (l0:=i+1) (h0:=n+1) (m0:=cap2) (off':=i*9+9) (n':=n-i) (c':=cap2-(i+1)) rfl (.some rfl Af rfl) .none .none (by simp) Af Af Af (by rw[Ac Af];omega) Af rfl
  ·rfl
  ·rfl
  ·rfl
  refine pz ?_;apply Ej
  ·exact FF (l0:=i) (h0:=n) (m0:=cap) (off':=i*9) (n':=n-i) (c':=cap-i) rfl (.some rfl Af rfl) .none .none (by simp) Af Af Af (by rw[Ac Af];omega) rfl rfl
  ·rfl
  ·rfl
  ·rfl
  refine pz ?_;apply CM
  ·apply QI (k:=9) (m:=n-i) (cs:=B) (cur:=A++ws++(Z.drop 9++sp2))
   ·rfl
   ·rfl
   ·exact Nat.min_self _
   ·omega
   ·exact hl2
   ·intro j u hj;have hjl:=(Ay.1 hj).1;rw[AC,AU Af,hAl,show i*9+j-i*9=j by omega,AF hjl];exact hj
   ·rw[Ai,Ai,Ai,hw,hAl,hZd];omega
   ·exact hB1
  ·rfl
  ·rfl
  ·rfl
  ·intro _ _ _ c hc;cases hc
  rintro _ _ ⟨rfl,rfl⟩;have e3:List.take (i*9+9) (A++ws++(List.drop 9 Z++sp2))++B++List.drop (i*9+9+B.length) (A++ws++(List.drop 9 Z++sp2))=A++ws++B++sp2:=by have:=qm (A++ws) (Z.drop 9) sp2 B hZd.symm;rw[hAw,Am (A++ws) (Z.drop 9) sp2] at this;exact this
  rw[e3];refine pz ?_;refine gz ?_;refine A9 (l':=(nb,.cells (toArray (A++ws++B++sp2)) 100 (0,0))::F) (by exact AS) ⟨[(nb,_)],⟨?_,.inr ⟨nb,cap2,sp2,rfl,rfl,hc1,hc2,?_⟩⟩,rfl⟩
  ·rw[Ai,hAw];omega
  ·rw[Ai,Ai,hAw];omega
 ·obtain⟨s1,s2,hs12,hs1⟩: ∃s1 s2,sp=s1++s2/\s1.length=9:=⟨sp.take 9,sp.drop 9,(Cd ..).symm,by rw[C6];omega⟩
  refine gz ?_;refine Bb (FF (l0:=0) (h0:=n+1) (m0:=cap) (off':=0) (n':=n+1) (c':=cap) rfl .none (.some rfl Af Af) .none (by simp) Af Af Af (by simp) Af Af) ?_;refine gz ?_;refine Bb (FF (l0:=i+1) (h0:=n+1) (m0:=cap) (off':=i*9+9) (n':=n-i) (c':=cap-(i+1)) rfl (.some rfl Af rfl) .none .none (by simp) Af Af Af (by rw[Ac Af];omega) Af rfl) ?_;refine gz ?_;have hl2:(gb,Obj.cells (toArray (A++(B++sp))) 100 (0,0))∈(bl,.cells (toArray ws) 100 (0,0))::(gb,Obj.cells (toArray (A++(B++sp))) 100 (0,0))::F:= .tail _ (.head _);refine Bb (X9 (cl1:=toArray ws) (cl2:=toArray (A++(B++sp))) rfl rfl rfl wC wD wE wF 4 wG (.head _) hl2 (λh=>hgb h.symm) (by simp;omega)) ?_;refine Bk (Keep.of_perm (l':=(gb,.cells (toArray (A++(B++sp))) 100 (0,0))::((bl,.cells (toArray ws) 100 (0,0))::F)) (List.Perm.swap ..)) ?_;refine gz ?_;refine Ch [8] 9 ([]) ?_;refine pz ?_;apply Ej
  ·exact FF (l0:=i+1) (h0:=n+1) (m0:=cap) (off':=i*9+9) (n':=n-i) (c':=cap-(i+1)) rfl (.some rfl Af rfl) .none .none (by simp) Af Af Af (by rw[Ac Af];omega) Af rfl
  ·rfl
  ·rfl
  ·rfl
  refine pz ?_;apply Ej
  ·exact FF (l0:=i) (h0:=n+1) (m0:=cap) (off':=i*9) (n':=n+1-i) (c':=cap-i) rfl (.some rfl Af rfl) .none .none (by simp) Af Af Af (by rw[Ac Af];omega) rfl rfl
  ·rfl
  ·rfl
  ·rfl
  refine pz ?_;apply CM
  ·apply QI (k:=9) (m:=n-i) (cs:=B) (cur:=A++(B++sp))
   ·rfl
   ·rfl
   ·show min (n+1-i) (n-i)=n-i;omega
   ·omega
   ·exact .head _
   ·intro j u hj;have hjl:=(Ay.1 hj).1;rw[AC,AU Af,hAl,show i*9+j-i*9=j by omega,AF hjl];exact hj
   ·rw[Ai,Ai,hAl];omega
   ·exact hB1
  ·rfl
  ·rfl
  ·rfl
  ·intro _ _ _ c hc;cases hc
  rintro _ _ ⟨rfl,rfl⟩;obtain⟨Y,hY⟩: ∃Y,(B++sp).take 9=Y:=⟨_,rfl⟩
  have hYl:Y.length=9:=by rw[<-hY,C6,Ai];omega
  have hD:(B++sp).drop (9+B.length)=s2:=by rw[JP,<-Kb,HP rfl,hs12,HP hs1]
  have e3:List.take (i*9+9) (A++(B++sp))++B++List.drop (i*9+9+B.length) (A++(B++sp))=A++Y++(B++s2):=by rw[<-hAl,Ji,I6,List.take_append,Dp Af,Bv Af,Cx,Cx,hD,hY];simp
  rw[e3];refine pz ?_;refine gz ?_;refine Bb (FF (l0:=i) (h0:=n+1) (m0:=cap) (off':=A.length) (n':=n+1-i) (c':=cap-i) rfl (.some rfl Af rfl) .none .none (by simp) Af Af Af (by rw[Ac Af];omega) rfl rfl) ?_;refine gz ?_;have hl3:(bl,Obj.cells (toArray ws) 100 (0,0))∈(gb,Obj.cells (toArray (A++Y++(B++s2))) 100 (0,0))::(bl,.cells (toArray ws) 100 (0,0))::F:= .tail _ (.head _);refine AP (QI (k:=9) (m:=1) (cs:=ws) rfl rfl (by show min 1 (n+1-i)=1;omega) hw hl3 (λj u hj=>by simpa using hj) (by simp only[Ai];omega) h1) ?_;rintro _ _ ⟨rfl,rfl⟩;rw[qm A _ _ ws (by rw[hw,hYl])];refine gz ?_;rw[hs12,Ai] at hcl;refine BA [] rfl (l':=(gb,.cells (toArray (A++ws++(B++s2))) 100 (0,0))::F) (by exact AS) (by exact A8) ⟨[(gb,_)],⟨?_,.inr ⟨gb,cap,s2,rfl,?_,Af,hcm,?_⟩⟩,rfl⟩
  ·rw[Ai,Ai];omega
  ·rw[Am (A++ws)]
  ·rw[Ai,Ai,Ai];omega
theorem setFrom_mid(ys':List Value): ∀(X Y Z:List Value),ys'.length=Y.length->CV (toArray (X++Y++Z)) X.length ys'=toArray (X++ys'++Z):=by
 induction ys' with
 |nil=>intro X Y Z h;cases Y with
  |nil=>rfl
  |cons a b=>simp at h
 |cons y r ih=>intro X Y Z h;cases Y with
  |nil=>simp at h
  |cons a b=>
   show CV ((toArray (X++(a::b)++Z)).setIfInBounds X.length y) (X.length+1) r=_;have e1:(toArray (X++(a::b)++Z)).setIfInBounds X.length y=toArray ((X++[y])++b++Z):=by rw[Bt];congr 1;rw[Am,Cm _ _ (A7 _),DD];simp
   rw[e1,show X.length+1=(X++[y]).length by simp,ih (X++[y]) b Z (by simpa using h)];simp
end Ar
end Go.Proofs.YtlkgekpmileobaaGreat
