/- Laws that the statement's proof leans on (joined out of several texts). -/
import Derived.Test.YtlifcingifodfaaGreatGc7
set_option maxHeartbeats 4000000
set_option linter.unusedVariables false
set_option linter.unusedSimpArgs false
namespace Go.Proofs.YtlifcingifodfaaGreat
open List(toArray)
open Go.RowKit
variable{p G H:Prop}{l l2 l' R:Ad}{j N t n:Nat}{oj o:Oper}{P:Program}{ro:Option Nat}{ops:Array Oper}{K K':Value->Ad->Prop}{v:Value}{a b ks:List (Option IntKind)}{x xs:Ap}{α:Type}{E:World}{A0:List Oper}{ds:List Deferred}{ty:TypeId}{pos:String}{g:Option (Nat×Bool)}{y:Operand}
section
variable{Q:Exit->Act->World->Prop}{fr fr':Fr}{d:Nat}
theorem zq(h:p:=by first|(show OpQ _ _ _ _ _ ⟨_,.move _,_,_,_,_⟩ _;exact vP rfl)|(show OpQ _ _ _ _ _ ⟨_,.load _ _,_,_,_,_⟩ _;first|exact DP rfl (by((repeat(first|with_reducible apply Ak|with_reducible apply An));try with_reducible assumption)) (by(first|with_reducible assumption|((with_reducible apply NX);(repeat(first|with_reducible apply LGet.zero|with_reducible apply LGet.succ)))))|exact Jb rfl (by((repeat(first|with_reducible apply Ak|with_reducible apply An));try with_reducible assumption)) (by(repeat(first|with_reducible apply LSub.done|with_reducible apply LSub.take|with_reducible apply LSub.drop))))|(show OpQ _ _ _ _ _ ⟨_,.fieldAddr _ _ _,_,_,_,_⟩ _;exact XN rfl (by(first|with_reducible exact BE _|with_reducible exact CP _|exact rfl)))|(show OpQ _ _ _ _ _ ⟨_,.nilCheck _,_,_,_,_⟩ _;first|exact ZU rfl|exact q_nilCheck_f rfl|exact q_nilCheck_y rfl)|(show OpQ _ _ _ _ _ ⟨_,.assign _,_,_,_,_⟩ _;exact jU rfl)|(show OpQ _ _ _ _ _ ⟨_,.indexAddr _ _ _,_,_,_,_⟩ _;first|exact XO rfl rfl Af (by(first|with_reducible exact BE _|with_reducible exact CP _|exact rfl))|exact ZW rfl rfl Af (by(first|with_reducible exact BE _|with_reducible exact CP _|exact rfl))|exact SY rfl rfl Af|exact Vd rfl rfl Af)|(show OpQ _ _ _ _ _ ⟨_,.binOp .eql _ _ _ _,_,_,_,_⟩ _;first|exact zY rfl rfl|exact qf rfl rfl|exact Aab rfl rfl Tryz.underlying4|exact fZ rfl rfl)|(show OpQ _ _ _ _ _ ⟨_,.binOp .add _ _ _ _,_,_,_,_⟩ _;exact zQ rfl rfl (by first|exact Sd Af Af|exact P2 Af Af))|(show OpQ _ _ _ _ _ ⟨_,.binOp .lss _ _ _ _,_,_,_,_⟩ _;exact zU rfl rfl)|(show OpQ _ _ _ _ _ ⟨_,.pick _ _ _,_,_,_,_⟩ _;first|exact jV rfl rfl|exact jW rfl rfl)|(show OpQ _ _ _ _ _ ⟨_,.extract _ _,_,_,_,_⟩ _;exact fV rfl rfl)|(show OpQ _ _ _ _ _ ⟨_,.binOp .neq _ _ _ _,_,_,_,_⟩ _;first|exact zZ rfl rfl|exact qh rfl rfl|exact Aac rfl rfl Tryz.underlying4|exact q_nenilsl rfl rfl)|(show OpQ _ _ _ _ _ ⟨_,.binOp .geq _ _ _ _,_,_,_,_⟩ _;exact zX rfl rfl)|(show OpQ _ _ _ _ _ ⟨_,.binOp .gtr _ _ _ _,_,_,_,_⟩ _;exact zW rfl rfl)|(show OpQ _ _ _ _ _ ⟨_,.binOp .leq _ _ _ _,_,_,_,_⟩ _;exact zV rfl rfl)|(show OpQ _ _ _ _ _ ⟨_,.unOp .not _ _,_,_,_,_⟩ _;exact Aaa rfl)|(show OpQ _ _ _ _ _ ⟨_,.binOp .sub _ _ _ _,_,_,_,_⟩ _;exact tH rfl rfl (by first|exact Sd Af Af|exact P2 Af Af))|(show OpQ _ _ _ _ _ ⟨_,.call {callee:= .builtin .len,args:=_,argTypes:=_},_,_,_,_⟩ _;first|exact jZ rfl|exact q_len_map rfl (by((repeat(first|with_reducible apply Ak|with_reducible apply An));try with_reducible assumption)))|(show OpQ _ _ _ _ _ ⟨_,.field _ _ _,_,_,_,_⟩ _;first|exact qi rfl (by(first|with_reducible assumption|((with_reducible apply NX);(repeat(first|with_reducible apply LGet.zero|with_reducible apply LGet.succ)))))|exact q_fieldL rfl (by(repeat(first|with_reducible apply LSub.done|with_reducible apply LSub.take|with_reducible apply LSub.drop))))|(show OpQ _ _ _ _ _ ⟨_,.build _ _,_,_,_,_⟩ _;exact cZ rfl (by(repeat(first|apply BuildS.nil|(apply BuildS.one;(·infer_instance);(·infer_instance);(·rfl);(·(repeat(first|with_reducible apply LSet.zero|with_reducible apply LSet.succ))))|(apply BuildS.agg;(·infer_instance);(·infer_instance);(·rfl);(·(repeat(first|with_reducible apply LSetA.done|with_reducible apply LSetA.put|with_reducible apply LSetA.skip))))))))|(show OpQ _ _ _ _ _ ⟨_,.makeFunc _ _ _,_,_,_,_⟩ _;first|exact ZZ rfl|exact q_makeFunc0)|(show OpQ _ _ _ _ _ ⟨_,.convert _ _ _,_,_,_,_⟩ _;exact vR rfl (by exact⟨Af,Af⟩))|(show OpQ _ _ _ _ _ ⟨_,.binOp .mul _ _ _ _,_,_,_,_⟩ _;exact zR rfl rfl (by first|exact Sd Af Af|exact P2 Af Af))|(show OpQ _ _ _ _ _ ⟨_,.binOp .quo _ _ _ _,_,_,_,_⟩ _;exact zS rfl rfl Af Af (by first|exact Sd Af Af|exact P2 Af Af))|(show OpQ _ _ _ _ _ ⟨_,.binOp .rem _ _ _ _,_,_,_,_⟩ _;exact zT rfl rfl Af Af)|(show OpQ _ _ _ _ _ ⟨_,.lookup _ _ _ _,_,_,_,_⟩ _;first|exact km rfl rfl (by((repeat(first|with_reducible apply Ak|with_reducible apply An));try with_reducible assumption))|exact fY rfl rfl (by((repeat(first|with_reducible apply Ak|with_reducible apply An));try with_reducible assumption)))|fail):p:=h
theorem zst(h:p:=by first|(apply Gx;(·rfl);(·rfl);(·first|rfl|assumption);(·((repeat(first|with_reducible apply Ak|with_reducible apply An));try with_reducible assumption));(·(repeat(first|with_reducible apply LSet.zero|with_reducible apply LSet.succ)));(·(repeat(first|apply Upd.here|apply Upd.there))))|(apply Ve;(·rfl);(·rfl);(·rfl);(·simp[Value.oneCell']);(·((repeat(first|with_reducible apply Ak|with_reducible apply An));try with_reducible assumption));(·(repeat(first|with_reducible apply LSetA.done|with_reducible apply LSetA.put|with_reducible apply LSetA.skip)));(·(repeat(first|apply Upd.here|apply Upd.there))))|fail):p:=h
theorem zH0(h:l.Sublist l':=by(repeat(first|with_reducible apply EJ|with_reducible apply HL|with_reducible apply List.Sublist.cons_cons|with_reducible apply List.Sublist.cons))): ∀c,c∈l->c∈l':=λ_ hc=>h.subset hc
theorem ozq(hk:Dz P ro N E ops Q A0 ((d,v)::fr) ds l)(h:OpQ P ro N fr l o v:=by exact zq)(hw:Rr ops fr o.guard=some true:=by rfl)(hd:o.dst=some d:=by rfl)(hb:Nat.blt d N=true:=by rfl):Dz P ro N E ops Q (o::A0) fr ds l:=QO h hw hd hb hk
theorem ozs(hk:Dz P ro N E ops Q A0 ((d,undef)::fr) ds l)(hw:Rr ops fr o.guard=some false:=by rfl)(hd:o.dst=some d:=by rfl)(hb:Nat.blt d N=true:=by rfl):Dz P ro N E ops Q (o::A0) fr ds l:=Ads hw hd hb hk
theorem ozt{w:Bool}{ip:Decidable p}(h:Dz P ro N E ops Q (o::A0) ((t,.bool true)::fr) ds l)(hw:o.guard=some (j,w):=by rfl)(hj:ops[j]?=some oj:=by rfl)(KO:oj.dst=some t:=by rfl)(hc:BX fr t=some (.bool (@decide p ip)):=by rfl)(hp:p:=by omega):Dz P ro N E ops Q (o::A0) fr ds l:=cV hw hj KO hc hp h
theorem ozf{w:Bool}{ip:Decidable p}(h:Dz P ro N E ops Q (o::A0) ((t,.bool false)::fr) ds l)(hw:o.guard=some (j,w):=by rfl)(hj:ops[j]?=some oj:=by rfl)(KO:oj.dst=some t:=by rfl)(hc:BX fr t=some (.bool (@decide p ip)):=by rfl)(hp:¬p:=by omega):Dz P ro N E ops Q (o::A0) fr ds l:=cW hw hj KO hc hp h
theorem ozn(hk:Dz P ro N E ops Q A0 fr ds l2)(h:OpE P ro N fr l o (λv' l'=>v'=undef/\l'=l2):=by exact zst)(hw:o.guard=none:=by rfl)(hd:o.dst=none:=by rfl):Dz P ro N E ops Q (o::A0) fr ds l:=ME h hw hd λv l' h=>by rw[h.2];exact hk
variable{tbl:List (List Nat)}{sw:Sw}{sp:FM}{pl:List BH}{i:Nat}{k:Bool}
theorem pc(hk:PlanS P ro N E ops Q R tbl sw sp pl ((d,v)::fr) ds l)(h:OpQ P ro N fr R o v:=by exact zq)(hw:Rr ops fr o.guard=some true:=by rfl)(hd:o.dst=some d:=by rfl)(hb:Nat.blt d N=true:=by rfl):PlanS P ro N E ops Q R tbl sw sp ((i,true,o)::pl) fr ds l:=Z3 h hw hd hb hk
theorem pzs(hk:PlanS P ro N E ops Q R tbl none [] pl ((d,undef)::fr) ds l)(hR: ∀c,c∈R->c∈l:=by exact zH0)(hw:Rr ops fr o.guard=some false:=by rfl)(hd:o.dst=some d:=by rfl)(hb:Nat.blt d N=true:=by rfl):PlanS P ro N E ops Q R tbl none [] ((i,k,o)::pl) fr ds l:=Aai hR hw hd hb hk
theorem yJ{w:Bool}{ip:Decidable p}(h:PlanS P ro N E ops Q R tbl sw sp ((i,k,o)::pl) ((t,.bool true)::fr) ds l)(hw:o.guard=some (j,w):=by rfl)(hj:ops[j]?=some oj:=by rfl)(KO:oj.dst=some t:=by rfl)(hc:BX fr t=some (.bool (@decide p ip)):=by rfl)(hp:p:=by omega):PlanS P ro N E ops Q R tbl sw sp ((i,k,o)::pl) fr ds l:=ka hw hj KO hc hp h
theorem yK{w:Bool}{ip:Decidable p}(h:PlanS P ro N E ops Q R tbl sw sp ((i,k,o)::pl) ((t,.bool false)::fr) ds l)(hw:o.guard=some (j,w):=by rfl)(hj:ops[j]?=some oj:=by rfl)(KO:oj.dst=some t:=by rfl)(hc:BX fr t=some (.bool (@decide p ip)):=by rfl)(hp:¬p:=by omega):PlanS P ro N E ops Q R tbl sw sp ((i,k,o)::pl) fr ds l:=kc hw hj KO hc hp h
theorem tP(hk:PlanS P ro N E ops Q R tbl none [] pl fr ds l2)(h:OpE P ro N fr l o (λv' l'=>v'=undef/\l'=l2):=by exact zst)(hw:o.guard=none:=by rfl)(hd:o.dst=none:=by rfl)(hR: ∀c,c∈R->c∈l2:=by exact zH0):PlanS P ro N E ops Q R tbl none [] ((i,false,o)::pl) fr ds l:=NZ h hw hd (λv l' h=>by rw[h.2];exact hR) λv l' h=>by rw[h.2];exact hk
theorem pze(hk:PlanS P ro N E ops Q R tbl none [] pl ((d,v)::fr) ds l)(h:OpQ P ro N fr l o v:=by first|(show OpQ _ _ _ _ _ ⟨_,.load _ _,_,_,_,_⟩ _;first|exact DP rfl (by((repeat(first|with_reducible apply Ak|with_reducible apply An));try with_reducible assumption)) (by(first|with_reducible assumption|((with_reducible apply NX);(repeat(first|with_reducible apply LGet.zero|with_reducible apply LGet.succ)))))|exact Jb rfl (by((repeat(first|with_reducible apply Ak|with_reducible apply An));try with_reducible assumption)) (by(repeat(first|with_reducible apply LSub.done|with_reducible apply LSub.take|with_reducible apply LSub.drop))))|fail)(hw:o.guard=none:=by rfl)(hd:o.dst=some d:=by rfl)(hb:Nat.blt d N=true:=by rfl)(hR: ∀c,c∈R->c∈l:=by exact zH0):PlanS P ro N E ops Q R tbl none [] ((i,false,o)::pl) fr ds l:=Aah h hw hd hb hR hk
end
theorem OpE.re{fr:Fr}(k:Keep l l2)(h:OpE P ro N fr l2 o K)(hk: ∀v l',K v l'-> ∃l3,Keep l' l3/\K' v l3):OpE P ro N fr l o K':=
 ⟨h.nodef,λE a W hf hs=>(h.val E a W hf (k.sat hs)).mono λv W' ⟨l',h1,h2⟩=>by obtain⟨l3,h3,h4⟩:=hk v l' h1;exact⟨l3,h4,h3.sat h2⟩⟩
theorem Fn.re{f:FuncId}{args:Ap}(k:Keep l l2)(h:Fn P f args l2 K)(hk: ∀v l',K v l'-> ∃l3,Keep l' l3/\K' v l3):Fn P f args l K':=
 ⟨λE W hs=>(h.run E W (k.sat hs)).mono λe W' he=>by obtain⟨v,l',h1,h2,h3⟩:=he;obtain⟨l3,h4,h5⟩:=hk v l' h2;exact⟨v,l3,h1,h5,h4.sat h3⟩⟩
theorem dg{l l':Ad}{b:Nat}{o o':Obj}(h:Upd l b o o' l'): ∀(c:Ad),Upd (c++l) b o o' (c++l')
 |[]=>h
 |x::c=> .there (dg h c)
section
variable{fr:Fr}{d:Option Nat}{aft:Array Edge}{x z s:Operand}{u w:Value}{b:Nat}
theorem Ht{T e k yb bl:Nat}{ws zs:Ap}{X cs F:Ad}(hx:ev fr s=some v)(hy:ev fr x=some (.slice (some ⟨bl,0,none⟩) 1 1))[c:ST P T e k yb][cz:ZV P e zs](RN:zs.length=k)(ET:OwnSl e k v n xs cs)(hw:ws.length=k)(h1: ∀u∈ws,u.oneCell'=true)(hn:n<=1000000)(cI:yb<=1000):
 OpE P ro N fr ((bl,.cells (toArray ws) e (0,0))::(X++(cs++F))) ⟨d,.call {callee:= .builtin .append,args:=#[s,x],argTypes:=#[T,T]},ty,pos,aft,g⟩ (λv' l'=> ∃c2,OwnSl e k v' (n+1) (xs++ws) c2/\l'=X++(c2++F)):=by
 have o5:((bl,Obj.cells (toArray ws) e (0,0))::(X++(cs++F))).Perm (cs++(((bl,Obj.cells (toArray ws) e (0,0))::X)++F)):=
  Az ((bl,Obj.cells (toArray ws) e (0,0))::X) cs F
 have hb:(n+1)*yb<=140737488355328:=by have:=I4 (show n+1<=1000001 by omega) cI;omega
 refine OpE.re (Keep.of_perm o5) (Gy (m:=1) (xs:=xs) (news:=ws) (zs:=zs) hx hy RN ET (Aa _ Ak) (λj u hj=>by simpa using hj) (by rw[hw,Nat.one_mul]) h1 (by unfold maxLen;omega) hb) ?_;rintro v' _ ⟨c2,ho,rfl⟩;exact⟨_,Keep.trans (Keep.of_perm (Az c2 ((bl,Obj.cells (toArray ws) e (0,0))::X) F)) (.drop .refl),c2,ho,rfl⟩
theorem aa{a:Act}{d:Nat}(hf:FSat N fr a)(hj:ops[j]?=some oj)(hd:oj.dst=some d)(hb:BX fr d=some undef):yielded ops a.tmps j=none:=by have:=hf.at_ d _ hb;simp[yielded,hj,hd,this,undef]
theorem vW{Q:Exit->Act->World->Prop}{d dj:Nat}{bw:Bool}(hw:o.guard=some (j,bw))(hj:ops[j]?=some oj)(KO:oj.dst=some dj)(hb:BX fr dj=some undef)(hd:o.dst=some d)(R9:Nat.blt d N=true)(hk:Dz P ro N E ops Q A0 ((d,undef)::fr) ds l):Dz P ro N E ops Q (o::A0) fr ds l:=
 ⟨λa W hf hds hs=>by have hy:=aa hf hj KO hb;refine wpListIn_step λK' hK'=>?_;rw[Ab (by simp[Region.wanted,hw,hy])];refine⟨λ_ _=>trivial,hK' _ _ (hk.run _ _ ?_ ((EO _ _ _).trans hds) hs)⟩;have:=hf.put (d:=o.dst) undef (by rw[hd];exact R9);rw[hd] at this⊢;exact this⟩
end
structure Bx(H:Prop):Prop where
 h:H
theorem gzS(k:H)(h:Bx H->G:=by(intro k;((first|(show Dz _ _ _ _ _ _ (_::_) _ _ _;first|refine ozq ?_|refine ozs ?_|refine ozs0 ?_|refine ozt ?_|refine ozf ?_|refine ozn ?_)|refine cP ?_|refine NU ?_|refine PY ?_|refine Vc ?_|refine Ml rfl ?_|refine Mm rfl ?_|refine PX ?_|refine Wm ?_|refine SS ?_|refine P0 ?_|refine Lt ?_|refine Ja ?_|refine MN rfl ?_|refine cQ ?_|refine MM ?_|refine Lu ?_|refine Wn ?_|refine Sb ?_|refine Sc ?_|refine Lv ?_|refine p_scope_exit ?_|refine cT ?_|refine S6 rfl Af ?_|refine S7 rfl Af ?_));exact k.h)):G:=h ⟨k⟩
theorem ac(k:H)(h:Bx H->G:=by(intro k;((first|(show Dz _ _ _ _ _ _ (_::_) _ _ _;first|refine ozq ?_|refine ozs ?_|refine ozs0 ?_|refine ozt ?_|refine ozf ?_|refine vW rfl rfl rfl rfl rfl rfl ?_|refine ozn ?_)|refine cP ?_|refine NU ?_|refine PY ?_|refine Vc ?_|refine Ml rfl ?_|refine Mm rfl ?_|refine PX ?_|refine Wm ?_|refine SS ?_|refine P0 ?_|refine Lt ?_|refine Ja ?_|refine MN rfl ?_|refine cQ ?_|refine MM ?_|refine Lu ?_|refine Wn ?_|refine Sb ?_|refine Sc ?_|refine Lv ?_|refine p_scope_exit ?_|refine cT ?_|refine S6 rfl Af ?_|refine S7 rfl Af ?_));exact k.h)):G:=h ⟨k⟩
theorem gz(k:H)(h:Bx H->G:=by(intro k;(repeat refine gzS ?_);exact k.h)):G:=h ⟨k⟩
theorem Aj(k:H)(h:Bx H->G:=by(intro k;(repeat refine ac ?_);exact k.h)):G:=h ⟨k⟩
theorem Aam(k:H)(h:Bx H->G:=by(intro k;(repeat(first|(show Dz _ _ _ _ _ _ (_::_) _ _ _;first|refine ozq ?_|refine ozs ?_|refine ozs0 ?_|refine ozt ?_|refine ozf ?_|refine vW rfl rfl rfl rfl rfl rfl ?_)|refine cP ?_|refine NU ?_|refine PY ?_|refine Vc ?_|refine Ml rfl ?_|refine Mm rfl ?_|refine PX ?_|refine Wm ?_|refine SS ?_|refine P0 ?_|refine Lt ?_|refine Ja ?_|refine MN rfl ?_|refine cQ ?_|refine MM ?_|refine Lu ?_|refine Wn ?_|refine Sb ?_|refine Sc ?_|refine Lv ?_|refine p_scope_exit ?_|refine cT ?_|refine S6 rfl Af ?_|refine S7 rfl Af ?_));exact k.h)):G:=h ⟨k⟩
theorem Ih{H:Nat->Prop}(k: ∀b,H b)(h:Bx (∀b,H b)->G:=by(intro k;(repeat refine gzS ?_);(first|refine jp (Ex rfl rfl) rfl rfl rfl ?_|refine jp (C4 rfl) rfl rfl rfl ?_|refine jp e_alloc rfl rfl rfl ?_);rintro _ _ ⟨b,_,rfl,rfl⟩;(repeat refine gzS ?_);exact k.h b)):G:=h ⟨k⟩
theorem AQ{H:Nat->Prop}(k: ∀b,H b)(h:Bx (∀b,H b)->G:=by(intro k;(repeat refine ac ?_);(first|refine jp (Ex rfl rfl) rfl rfl rfl ?_|refine jp (C4 rfl) rfl rfl rfl ?_|refine jp e_alloc rfl rfl rfl ?_);rintro _ _ ⟨b,_,rfl,rfl⟩;(repeat refine ac ?_);exact k.h b)):G:=h ⟨k⟩
theorem pz(k:H)(h:Bx H->G:=by(intro k;(repeat(first|refine Z2 ?_|(show PlanS _ _ _ _ _ _ _ _ _ _ ((_,true,_)::_) _ _ _;first|refine pc ?_|refine yJ ?_|refine yK ?_)|(show PlanS _ _ _ _ _ _ _ _ none [] ((_,_,_)::_) _ _ _;first|refine pzs ?_|refine pzs0 ?_)|(show PlanS _ _ _ _ _ _ _ _ _ _ ((_,_,_)::_) _ _ _;first|refine yJ ?_|refine yK ?_)|(show PlanS _ _ _ _ _ _ _ _ none [] ((_,false,_)::_) _ _ _;first|refine tP ?_|refine pze ?_)));exact k.h)):G:=h ⟨k⟩
theorem BS(k:H)(h:Bx H->G:=by(intro k;(repeat(first|refine Z2 ?_|(show PlanS _ _ _ _ _ _ _ _ _ _ ((_,true,_)::_) _ _ _;first|refine pc ?_|refine yJ ?_|refine yK ?_)|(show PlanS _ _ _ _ _ _ _ _ none [] ((_,_,_)::_) _ _ _;first|refine pzs ?_|refine pzs0 ?_|refine pl_hu (Ce (by(repeat(first|with_reducible apply EJ|with_reducible apply HL|with_reducible apply List.Sublist.cons_cons|with_reducible apply List.Sublist.cons)))) rfl rfl rfl rfl rfl rfl ?_)|(show PlanS _ _ _ _ _ _ _ _ _ _ ((_,_,_)::_) _ _ _;first|refine yJ ?_|refine yK ?_)|(show PlanS _ _ _ _ _ _ _ _ none [] ((_,false,_)::_) _ _ _;first|refine tP ?_|refine pze ?_)));exact k.h)):G:=h ⟨k⟩
theorem X6(k:H)(h:Bx H->G:=by(intro k;((first|refine Z2 ?_|(show PlanS _ _ _ _ _ _ _ _ _ _ ((_,true,_)::_) _ _ _;first|refine pc ?_|refine yJ ?_|refine yK ?_)|(show PlanS _ _ _ _ _ _ _ _ none [] ((_,_,_)::_) _ _ _;first|refine pzs ?_|refine pzs0 ?_|refine pl_hu (Ce (by(repeat(first|with_reducible apply EJ|with_reducible apply HL|with_reducible apply List.Sublist.cons_cons|with_reducible apply List.Sublist.cons)))) rfl rfl rfl rfl rfl rfl ?_)|(show PlanS _ _ _ _ _ _ _ _ _ _ ((_,_,_)::_) _ _ _;first|refine yJ ?_|refine yK ?_)|(show PlanS _ _ _ _ _ _ _ _ none [] ((_,false,_)::_) _ _ _;first|refine tP ?_|refine pze ?_)));exact k.h)):G:=h ⟨k⟩
theorem BW(h:p:=by(((repeat(first|with_reducible apply Ak|with_reducible apply An));try with_reducible assumption))):p:=h
theorem DX(h:p:=by((repeat(first|apply Upd.here|apply Upd.there)))):p:=h
theorem Mq(h:p:=by((repeat(first|with_reducible apply EJ|with_reducible apply HL|with_reducible apply List.Sublist.cons_cons|with_reducible apply List.Sublist.cons)))):p:=h
theorem Ba(h:p:=by((repeat(first|apply ResS.nil|(apply vU;(·rfl))|(apply kh;(·rfl);(·((repeat(first|with_reducible apply Ak|with_reducible apply An));try with_reducible assumption));(·rfl))|(apply Cz;(·rfl);(·((repeat(first|with_reducible apply Ak|with_reducible apply An));try with_reducible assumption));(·(repeat(first|with_reducible apply LSub.done|with_reducible apply LSub.take|with_reducible apply LSub.drop)))))))):p:=h
theorem AU(h:p:=by(((try simp only[Ae,Ag,AJ,CQ]);repeat(first|with_reducible apply Keep.refl|(apply Keep.pick;·(repeat(first|apply Pick.here|apply Pick.there)))|apply Keep.drop)))):p:=h
theorem UV(h:p:=by(first|exact DP rfl (.head _) (by(first|with_reducible assumption|((with_reducible apply NX);(repeat(first|with_reducible apply LGet.zero|with_reducible apply LGet.succ)))))|exact Jb rfl (.head _) (by(repeat(first|with_reducible apply LSub.done|with_reducible apply LSub.take|with_reducible apply LSub.drop))))):p:=h
theorem GZ(h:p:=by((repeat(first|apply Attach.nil|(apply Attach.cons;·rfl))))):p:=h
theorem UM(h:l.Sublist l':=by((repeat(first|with_reducible apply EJ|with_reducible apply HL|with_reducible apply List.Sublist.cons_cons|with_reducible apply List.Sublist.cons)))): ∀c,c∈l->c∈l':=λ_ hc=>h.subset hc
def Aan:Option IntKind->Value->Prop
 |some k,v=> ∃a:Int,v= .int k a
 |none,v=> ∃b:Bool,v= .bool b
def AllK:List (Option IntKind)->Ap->Prop
 |[],cs=>cs=[]
 |k::ks,cs=> ∃c r,cs=c::r/\Aan k c/\AllK ks r
theorem AllK.len(h:AllK a x):x.length=a.length:=by
 induction a generalizing x with
 |nil=>cases h;rfl
 |cons q a ih=>obtain⟨c,r,rfl,h1,h2⟩:=h;simp[ih h2]
def Lj(P:Program)(t:TypeId):Bool:=match P.underlying t with
 |some (.struct _)|some (.array _ _)=>true
 |_=>false
def f6(P:Program):Nat->TypeId->Option (List (Option IntKind))
 |0,_=>none
 |n+1,t=>match P.underlying t with
  |some (.int k)=>some [some k]
  |some .bool=>some [none]
  |some (.struct fs)=>if P.stoodInHeld t then none else
   fs.toList.foldl (λacc f=>acc.bind λl=>(f6 P n f.type).bind λks=>if f.offset=l.length/\f.name≠ "_" /\(P.info? f.type).map (·.size)=some ks.length then some (l++ks) else none) (some [])
  |some (.array len e)=>(f6 P n e).bind λks=>if(P.info? e).map (·.size)=some ks.length then some (List.replicate len ks).flatten else none
  |_=>none
def IL(P:Program)(t:TypeId)(xs:Ap):Value:=if Lj P t then .agg xs.toArray else xs.headD undef
section
variable{t:TypeId}{f:Value->Sem α}{Q:α->Ad->Prop}
theorem Vn{d:TypeDesc}{Hp:TypeInfo}(hu:P.underlying t=some d)(ha:NV d=true)(hi:P.info? t=some Hp)(cs:Ap)(off:Nat):
 sl P (part t cs.toArray off>>=f) l Q<->sl P (f (.agg ((cs.drop off).take Hp.size).toArray)) l Q:=by
 unfold part;rw[AC,NW hu,ha];simp only[C6];rw[Fe hi];have e:cs.toArray.extract off (off+Hp.size)=((cs.drop off).take Hp.size).toArray:=by apply BU.1;rw[Hh,Cp];simp
 rw[e];exact DF
theorem Vo{d:TypeDesc}(hu:P.underlying t=some d)(ha:NV d=false)(cs:Ap)(off:Nat)(hv:cs[off]?=some v):
 sl P (part t cs.toArray off>>=f) l Q<->sl P (f v) l Q:=by
 unfold part;rw[AC,NW hu,ha];simp only[Bl,C3,AF,hv];exact DF
def N3:Value->Value->Bool
 | .int _ a,.int _ b=>a==b
 | .bool a,.bool b=>a==b
 |_,_=>false
def BZ:Ap->Ap->Bool
 |x::xs,y::ys=>N3 x y&&BZ xs ys
 |_,_=>true
theorem N4: ∀(a b c d:Ap),a.length=b.length->BZ (a++c) (b++d)=(BZ a b&&BZ c d)
 |[],[],c,d,_=>by simp[BZ]
 |x::a,y::b,c,d,h=>by simp only[Ae,BZ,N4 a b c d (by simpa using h),Bool.and_assoc]
theorem GK: ∀{ks:List (Option IntKind)} {a:Ap},AllK ks a->BZ a a=true
 |[],a,h=>by cases h;rfl
 |none::ks,a,h=>by obtain⟨c,r,rfl,⟨b,rfl⟩,h2⟩:=h;simp[BZ,N3,GK h2]
 |some k::ks,a,h=>by obtain⟨c,r,rfl,⟨b,rfl⟩,h2⟩:=h;simp[BZ,N3,GK h2]
theorem ad{β:Type}(r:β->Bool)(body:β->Option Bool×Unit->Sem (ForInStep (Option Bool×Unit)))(k:Option Bool×Unit->Sem Bool)(k1:k (none,())=pure true)(k2:k (some false,())=pure false){Q:Bool->Ad->Prop}{l:Ad}: ∀(xs:List β),(∀x∈xs,∀(Q:ForInStep (Option Bool×Unit)->Ad->Prop) l,sl P (body x (none,())) l Q<->Q (if r x then .yield (none,()) else .done (some false,())) l)->
 (sl P (forIn xs ((none:Option Bool),()) body>>=k) l Q<->Q (xs.all r) l)
 |[],_=>by simp only[List.forIn_nil,AC,Bn,List.all_nil,k1]
 |x::xs,h=>by
  rw[AC,List.forIn_cons,AC,h x Ak,Ij];cases hr:r x with
  |true=>simp only[C6,Bu];rw[<-AC];exact ad r body k k1 k2 xs λy hy=>h y (An _ hy)
  |false=>simp only[Bl,C3,Bh,Bn,k2]
theorem AllK.take_left(h:AllK (a++b) x):AllK a (x.take a.length):=by
 induction a generalizing x with
 |nil=>simp[AllK]
 |cons k a ih=>obtain⟨c,r,rfl,h1,h2⟩:=h;exact⟨c,r.take a.length,by simp,h1,ih h2⟩
theorem AllK.drop_left(h:AllK (a++b) x):AllK b (x.drop a.length):=by
 induction a generalizing x with
 |nil=>simpa using h
 |cons k a ih=>obtain⟨c,r,rfl,h1,h2⟩:=h;simpa using ih h2
theorem Pi(xs ys:Ap)(m:Nat)(h:xs.length=ys.length):BZ xs ys=(BZ (xs.take m) (ys.take m)&&BZ (xs.drop m) (ys.drop m)):=by rw[<-N4 _ _ _ _ (by simp[h]),Cj,Cj]
def dh(P:Program)(t:TypeId):Nat:=((P.info? t).map (·.size)).getD 0
def Sg(P:Program)(xs ys:Ap)(f:Field):Bool:=BZ ((xs.drop f.offset).take (dh P f.type)) ((ys.drop f.offset).take (dh P f.type))
structure qp(P:Program)(n:Nat)(xs ys:Ap)(f:Field)(kf:List (Option IntKind)):Prop where
 kinds:f6 P n f.type=some kf
 named:f.name≠ "_"
 size:(P.info? f.type).map (·.size)=some kf.length
 x:AllK kf ((xs.drop f.offset).take kf.length)
 y:AllK kf ((ys.drop f.offset).take kf.length)
theorem Tg(n:Nat)(xs ys:Ap): ∀(fs:List Field) (l ks:List (Option IntKind)),
 fs.foldl (λacc f=>acc.bind λl=>(f6 P n f.type).bind λks=>if f.offset=l.length/\f.name≠ "_" /\(P.info? f.type).map (·.size)=some ks.length then some (l++ks) else none) (some l)=some ks->
 ∃A0,ks=l++A0/\(AllK ks xs->AllK ks ys->(∀f∈fs,∃kf,qp P n xs ys f kf)/\BZ (xs.drop l.length) (ys.drop l.length)=fs.all (Sg P xs ys)):=by
 intro fs
 induction fs with
 |nil=>intro l ks h;simp only[Gu,I3] at h;subst h;refine⟨[],by simp,λhx hy=>⟨by simp,?_⟩⟩;rw[DG (by rw[hx.len];exact Bd _),DG (by rw[hy.len];exact Bd _)];rfl
 |cons f fs ih=>
  intro l ks h;simp only[ER,HI] at h;cases hk:f6 P n f.type with
  |none=>rw[hk] at h;simp only[Option.bind_none] at h;rw[MK] at h;cases h
  |some kf=>
   rw[hk] at h;simp only[HI] at h;by_cases hc:f.offset=l.length/\f.name≠ "_" /\(P.info? f.type).map (·.size)=some kf.length
   ·rw[Ac hc] at h;obtain⟨A0,hr,hrest⟩:=ih _ _ h;refine⟨kf++A0,by rw[hr,Am],λhx hy=>?_⟩;obtain⟨g1,g2⟩:=hrest hx hy;have jh:AllK kf ((xs.drop f.offset).take kf.length):=by rw[hc.1];rw[hr,Am] at hx;exact hx.drop_left.take_left
    have o6:AllK kf ((ys.drop f.offset).take kf.length):=by rw[hc.1];rw[hr,Am] at hy;exact hy.drop_left.take_left
    refine⟨λg hg=>?_,?_⟩
    ·rcases At.1 hg with rfl|hg
     ·exact⟨kf,hk,hc.2.1,hc.2.2,jh,o6⟩
     ·exact g1 g hg
    ·rw[Ij,<-g2,Pi _ _ kf.length (by simp[hx.len,hy.len])];simp only[Sg,dh,hc.2.2,Di,hc.1,KM,Ah]
   ·rw[Ab hc,MK] at h;cases h
theorem Mr{t:TypeId}{f:Value->Sem α}{Q:α->Ad->Prop}{kf:List (Option IntKind)}(h:f6 P n t=some kf)(hs:(P.info? t).map (·.size)=some kf.length)(cs:Ap)(off:Nat)(hx:AllK kf ((cs.drop off).take kf.length)):
 sl P (part t cs.toArray off>>=f) l Q<->sl P (f (IL P t ((cs.drop off).take kf.length))) l Q:=by
 have hi: ∃Hp,P.info? t=some Hp/\Hp.size=kf.length:=by
  cases hh:P.info? t with
  |none=>rw[hh] at hs;cases hs
  |some Hp=>rw[hh] at hs;exact⟨Hp,rfl,by simpa using hs⟩
 obtain⟨Hp,uS,hi2⟩:=hi;have zb: ∀{d:TypeDesc} {k:Option IntKind},P.underlying t=some d->NV d=false->Lj P t=false->kf=[k]->(sl P (part t cs.toArray off>>=f) l Q<->sl P (f (IL P t ((cs.drop off).take kf.length))) l Q):=by
  intro d k hu ha hb hkf;subst hkf;obtain⟨c,r,e1,_,e2⟩:=hx;have hg:cs[off]?=some c:=by have:=BO (λz=>z[0]?) e1;simpa using this
  rw[Vo hu ha cs off hg];unfold IL;rw[hb,e1];exact DF
 have agg: ∀{d:TypeDesc},P.underlying t=some d->NV d=true->Lj P t=true->(sl P (part t cs.toArray off>>=f) l Q<->sl P (f (IL P t ((cs.drop off).take kf.length))) l Q):=by intro d hu ha hb;rw[Vn hu ha uS cs off,hi2];unfold IL;rw[hb];exact DF
 cases n with
 |zero=>cases h
 |succ n=>
  unfold f6 at h
  split at h
  ·rename_i k hu;cases h;exact zb hu rfl (by unfold Lj;rw[hu]) rfl
  ·rename_i hu;cases h;exact zb hu rfl (by unfold Lj;rw[hu]) rfl
  ·rename_i fs hu;exact agg hu rfl (by unfold Lj;rw[hu])
  ·rename_i len e hu;exact agg hu rfl (by unfold Lj;rw[hu])
  ·cases h
theorem X9(kf:List (Option IntKind)): ∀(len:Nat) (xs ys:Ap),AllK (List.replicate len kf).flatten xs->AllK (List.replicate len kf).flatten ys->
 (∀i,i<len->AllK kf ((xs.drop (i*kf.length)).take kf.length)/\AllK kf ((ys.drop (i*kf.length)).take kf.length))/\
   BZ xs ys=(List.range' 0 len).all λi=>BZ ((xs.drop (i*kf.length)).take kf.length) ((ys.drop (i*kf.length)).take kf.length):=by
 intro len
 induction len with
 |zero=>intro xs ys hx hy;cases hx;cases hy;exact⟨λi hi=>by omega,rfl⟩
 |succ len ih=>
  intro xs ys hx hy;rw[BJ,Cv] at hx hy;obtain⟨h1,h2⟩:=ih _ _ hx.drop_left hy.drop_left;have sh: ∀i (z:Ap),(z.drop kf.length).drop (i*kf.length)=z.drop ((i+1)*kf.length):=λi z=>by rw[KM];congr 1;rw[F5];omega
  refine⟨λi hi=>?_,?_⟩
  ·cases i with
   |zero=>simpa using And.intro hx.take_left hy.take_left
   |succ i=>have:=h1 i Af;rw[sh,sh] at this;exact this
  ·rw[Pi _ _ kf.length (by rw[hx.len,hy.len]),h2,List.range'_succ,Ij];congr 1
   ·simp
   ·have e:List.range' (0+1) len=(List.range' 0 len).map (· +1):=by simp[List.range'_eq_map_range,Function.comp_def,Kr]
    rw[e,List.all_map];congr 1;funext i;simp only[Function.comp,sh]
theorem Wv: ∀(n d:Nat) (t:TypeId) (ks:List (Option IntKind)),f6 P n t=some ks->n<=d-> ∀(xs ys:Ap),AllK ks xs->AllK ks ys-> ∀(Q:Bool->Ad->Prop) (l:Ad),
 (sl P (Op.equalIn d t (IL P t xs) (IL P t ys)) l Q<->Q (BZ xs ys) l):=by
 intro n
 induction n with
 |zero=>intro d t ks h;cases h
 |succ n ih=>
  intro d t ks h hd xs ys hx hy Q l;obtain⟨d,rfl⟩: ∃e,d=e+1:=⟨d-1,Af⟩
  unfold f6 at h
  split at h
  ·rename_i k hu;cases h;obtain⟨_,_,rfl,⟨a,rfl⟩,rfl⟩:=hx;obtain⟨_,_,rfl,⟨b,rfl⟩,rfl⟩:=hy;simp only[IL,Lj,hu,Bl,C3,Iq];unfold Op.equalIn;rw[Cc hu];simp[BZ,N3,Bn]
  ·rename_i hu;cases h;obtain⟨_,_,rfl,⟨a,rfl⟩,rfl⟩:=hx;obtain⟨_,_,rfl,⟨b,rfl⟩,rfl⟩:=hy;simp only[IL,Lj,hu,Bl,C3,Iq];unfold Op.equalIn;rw[Cc hu];simp[BZ,N3,Bn]
  ·rename_i fs hu;by_cases Mi:P.stoodInHeld t=true
   ·rw[Ac Mi] at h;cases h
   rw[Ab Mi] at h;obtain⟨A0,hr,hrest⟩:=Tg n xs ys fs.toList [] ks h;obtain⟨g1,g2⟩:=hrest hx hy;simp only[Ff,List.drop_zero] at g2;have oZ:Lj P t=true:=by unfold Lj;rw[hu]
   simp only[IL,oZ,C6];unfold Op.equalIn;rw[Cc hu];simp only;rw[Pw,Bool.eq_false_iff.2 Mi];simp only[Bl,C3];rw[g2,<-Array.forIn_toList];refine ad (Sg P xs ys) _ _ rfl rfl fs.toList λf hf Q l=>?_;obtain⟨kf,ok⟩:=g1 f hf;rw[Ac ok.named,Mr ok.kinds ok.size xs f.offset ok.x,Mr ok.kinds ok.size ys f.offset ok.y,AC,ih d f.type kf ok.kinds Af _ _ ok.x ok.y];simp only[Sg,dh,ok.size,Di];cases BZ (List.take kf.length (List.drop f.offset xs)) (List.take kf.length (List.drop f.offset ys))<;>simp[Bn]
  ·rename_i len e hu;obtain⟨kf,hk,Le⟩:=IG.1 h;by_cases hs:(P.info? e).map (·.size)=some kf.length
   ·rw[Ac hs] at Le;cases Le;obtain⟨g1,g2⟩:=X9 kf len xs ys hx hy;have oZ:Lj P t=true:=by unfold Lj;rw[hu]
    have hi: ∃Hp,P.info? e=some Hp/\Hp.size=kf.length:=by
     cases hh:P.info? e with
     |none=>rw[hh] at hs;cases hs
     |some Hp=>rw[hh] at hs;exact⟨Hp,rfl,by simpa using hs⟩
    obtain⟨Hp,uS,hi2⟩:=hi;simp only[IL,oZ,C6];unfold Op.equalIn;rw[Cc hu];simp only;rw[Fe uS,hi2,g2];rw[Hk];have UI:Std.Legacy.Range.size [:len]=len:=by simp[Std.Legacy.Range.size]
    rw[UI];refine ad (λi=>BZ ((xs.drop (i*kf.length)).take kf.length) ((ys.drop (i*kf.length)).take kf.length)) _ _ rfl rfl (List.range' 0 len) λi hf Q l=>?_;have uT:i<len:=by have:=Lp.1 hf;omega
    obtain⟨o1,o2⟩:=g1 i uT;rw[Mr hk hs xs _ o1,Mr hk hs ys _ o2,AC,ih d e kf hk Af _ _ o1 o2];cases BZ (List.take kf.length (List.drop (i*kf.length) xs)) (List.take kf.length (List.drop (i*kf.length) ys))<;>simp[Bn]
   ·rw[Ab hs] at Le;cases Le
  ·cases h
def vX(P:Program)(t:TypeId):Option (List (Option IntKind)):=if Lj P t=true/\P.eqGuardType P.depth t=false then f6 P 20 t else none
class EQ(P:Program)(t:Nat)(ks:outParam (List (Option IntKind))):Prop where out:vX P t=some ks
theorem N5{t:TypeId}(h:vX P t=some ks):Lj P t=true/\P.eqGuardType P.depth t=false/\f6 P 20 t=some ks:=by
 unfold vX at h
 split at h
 ·rename_i hc;exact⟨hc.1,hc.2,h⟩
 ·cases h
variable{fr:Fr}{d:Option Nat}{aft:Array Edge}{x:Operand}{t t2:TypeId}{ys:Ap}
theorem Ti{op:BinOp}{xa ya:Array Value}{f:Unit->Sem α}{Q:α->Ad->Prop}(hg:P.eqGuardType P.depth t=false):sl P (eqGuard op t x y (.agg xa) (.agg ya)>>=f) l Q<->sl P (f ()) l Q:=by
 have key: ∀bb:Bool,sl P ((if(!bb)=true then(pure ():Sem Unit) else do
  let p<-program
  let q<-program
  if(!p.eqGuardType q.depth t)=true then pure () else do
   let r<-Op.eqGuardIn Op.maxDepth t (.agg xa) (.agg ya)
   if r=true then unsupported (Unsupported.noEntry "binop/eql: two nil values of an interface type with methods, in a part of a struct or an array") else pure ())>>=f) l Q<->sl P (f ()) l Q:=by
  intro bb;cases bb with
  |false=>exact DF
  |true=>rw[AC];simp only[Bool.not_true,Bl,C3];rw[Pw,Pw,hg];exact DF
 unfold eqGuard
 split
 ·exact key true
 ·exact key true
 ·exact key false
theorem Gr[c:EQ P t ks](hx:ev fr x=some (.agg (toArray xs)))(hy:ev fr y=some (.agg (toArray ys)))(kx:AllK ks xs)(ky:AllK ks ys):OpQ P ro N fr R ⟨d,.binOp .eql t x y t2,ty,pos,aft,g⟩ (.bool (BZ xs ys)):=BM rfl λρ l hρ _=>by obtain⟨e1,e2,e3⟩:=N5 c.out;simp only[execOp,hρ x _ hx,hρ y _ hy];rw[AC,Ti e2];have h:=Wv 20 Op.maxDepth t ks e3 AZ xs ys kx ky;unfold IL at h;rw[e1] at h;simp only[C6] at h;simp only[binOp,Op.equal,AC,h,Bn];exact⟨trivial,trivial⟩
theorem Sh[c:EQ P t ks](hx:ev fr x=some (.agg (toArray xs)))(hy:ev fr y=some (.agg (toArray ys)))(kx:AllK ks xs)(ky:AllK ks ys):OpQ P ro N fr R ⟨d,.binOp .neq t x y t2,ty,pos,aft,g⟩ (.bool (!BZ xs ys)):=BM rfl λρ l hρ _=>by obtain⟨e1,e2,e3⟩:=N5 c.out;simp only[execOp,hρ x _ hx,hρ y _ hy];rw[AC,Ti e2];have h:=Wv 20 Op.maxDepth t ks e3 AZ xs ys kx ky;unfold IL at h;rw[e1] at h;simp only[C6] at h;simp only[binOp,Op.equal,AC,h,Bn];exact⟨trivial,trivial⟩
theorem kw[c:EQ P t ks](hx:ev fr x=some (.agg (toArray xs)))(hy:ev fr y=some (.agg (toArray xs)))(kx:AllK ks xs):OpQ P ro N fr R ⟨d,.binOp .eql t x y t2,ty,pos,aft,g⟩ (.bool true):=by have:=Gr (P:=P) (ro:=ro) (N:=N) (R:=R) (d:=d) (ty:=ty) (pos:=pos) (aft:=aft) (g:=g) (t2:=t2) (c:=c) hx hy kx kx;rwa [GK kx] at this
theorem kz[c:EQ P t ks](hx:ev fr x=some (.agg (toArray xs)))(hy:ev fr y=some (.agg (toArray xs)))(kx:AllK ks xs):OpQ P ro N fr R ⟨d,.binOp .neq t x y t2,ty,pos,aft,g⟩ (.bool false):=by have:=Sh (P:=P) (ro:=ro) (N:=N) (R:=R) (d:=d) (ty:=ty) (pos:=pos) (aft:=aft) (g:=g) (t2:=t2) (c:=c) hx hy kx kx;rwa [GK kx] at this
end
def di:List (Option IntKind)->Ap->Bool
 |[],[]=>true
 |some k::ks,.int k' _::cs=>decide (k=k')&&di ks cs
 |none::ks,.bool _::cs=>di ks cs
 |_,_=>false
theorem JR: ∀{ks:List (Option IntKind)} {cs:Ap},di ks cs=true->AllK ks cs
 |[],[],_=>rfl
 |some k::ks,.int k' a::cs,h=>by simp only[di,AW,Bj] at h;exact⟨_,_,rfl,⟨a,by rw[h.1]⟩,JR h.2⟩
 |none::ks,.bool b::cs,h=>⟨_,_,rfl,⟨b,rfl⟩,JR h⟩
end Go.Proofs.YtlifcingifodfaaGreat
