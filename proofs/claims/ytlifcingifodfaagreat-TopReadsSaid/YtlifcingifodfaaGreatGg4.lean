/- Laws that the statement's proof leans on (joined out of several texts). -/
import Derived.Test.YtlifcingifodfaaGreatGg3
import Derived.LaidEqlPtr
set_option maxHeartbeats 4000000
set_option linter.unusedVariables false
set_option linter.unusedSimpArgs false
set_option linter.unusedSectionVars false
namespace Go.Proofs.YtlifcingifodfaaGreat
open Tryz
open List(toArray replicate)
open Go.RowKit
variable{P:Program}{N n k e f clock b i m:Nat}{ro:Option Nat}{G H p:Prop}{ty t t2 ta tb T kt et tp te:TypeId}{pos:String}{v u:Value}{g:Option (Nat×Bool)}{R l' l2:Ac}{x y z:Operand}{E W:World}{Q:Exit->Act->World->Prop}{ds:List Deferred}{ops:Array Oper}{pl:List BG}{vs zs:Ap}{tbl:List (List Nat)}{sp:FP}{K:Value->Ac->Prop}{α κ:Type}{q:Addr}{ca cb:Array Value}{o:Oper}{os A3:List Oper}{xs:List Operand}{a ks:List (Option IntKind)}{j:TypeInfo}{sw:Sw}{c:Code}{fn:Func}{rs:List ResultVar}
structure Bx(H:Prop):Prop where
 h:H
theorem gzS(k:H)(h:Bx H->G:=by(intro k;((first|(show DA _ _ _ _ _ _ (_::_) _ _ _;first|refine ozq ?_|refine ozs ?_|refine ozs0 ?_|refine ozt ?_|refine ozf ?_|refine ozn ?_)|refine dD ?_|refine Ob ?_|refine P8 ?_|refine Vt ?_|refine Mz rfl ?_|refine MA rfl ?_|refine P7 ?_|refine WE ?_|refine Te ?_|refine Qa ?_|refine LS ?_|refine Ji ?_|refine M8 rfl ?_|refine dE ?_|refine M7 ?_|refine LT ?_|refine WF ?_|refine Sq ?_|refine Sr ?_|refine LU ?_|refine p_scope_exit ?_|refine dG ?_|refine Tk rfl Af ?_|refine Tl rfl Af ?_));exact k.h)):G:=h ⟨k⟩
theorem aJ(k:H)(h:Bx H->G:=by(intro k;((first|(show DA _ _ _ _ _ _ (_::_) _ _ _;first|refine ozq ?_|refine ozs ?_|refine ozs0 ?_|refine ozt ?_|refine ozf ?_|refine xk rfl rfl rfl rfl rfl rfl ?_|refine ozn ?_)|refine dD ?_|refine Ob ?_|refine P8 ?_|refine Vt ?_|refine Mz rfl ?_|refine MA rfl ?_|refine P7 ?_|refine WE ?_|refine Te ?_|refine Qa ?_|refine LS ?_|refine Ji ?_|refine M8 rfl ?_|refine dE ?_|refine M7 ?_|refine LT ?_|refine WF ?_|refine Sq ?_|refine Sr ?_|refine LU ?_|refine p_scope_exit ?_|refine dG ?_|refine Tk rfl Af ?_|refine Tl rfl Af ?_));exact k.h)):G:=h ⟨k⟩
theorem gz(k:H)(h:Bx H->G:=by(intro k;(repeat refine gzS ?_);exact k.h)):G:=h ⟨k⟩
theorem Aj(k:H)(h:Bx H->G:=by(intro k;(repeat refine aJ ?_);exact k.h)):G:=h ⟨k⟩
theorem Abv(k:H)(h:Bx H->G:=by(intro k;(repeat(first|(show DA _ _ _ _ _ _ (_::_) _ _ _;first|refine ozq ?_|refine ozs ?_|refine ozs0 ?_|refine ozt ?_|refine ozf ?_|refine xk rfl rfl rfl rfl rfl rfl ?_)|refine dD ?_|refine Ob ?_|refine P8 ?_|refine Vt ?_|refine Mz rfl ?_|refine MA rfl ?_|refine P7 ?_|refine WE ?_|refine Te ?_|refine Qa ?_|refine LS ?_|refine Ji ?_|refine M8 rfl ?_|refine dE ?_|refine M7 ?_|refine LT ?_|refine WF ?_|refine Sq ?_|refine Sr ?_|refine LU ?_|refine p_scope_exit ?_|refine dG ?_|refine Tk rfl Af ?_|refine Tl rfl Af ?_));exact k.h)):G:=h ⟨k⟩
theorem Im{H:Nat->Prop}(k: ∀b,H b)(h:Bx (∀b,H b)->G:=by(intro k;(repeat refine gzS ?_);(first|refine jS (Ez rfl rfl) rfl rfl rfl ?_|refine jS (CH rfl) rfl rfl rfl ?_|refine jS e_alloc rfl rfl rfl ?_);rintro _ _ ⟨b,_,rfl,rfl⟩;(repeat refine gzS ?_);exact k.h b)):G:=h ⟨k⟩
theorem AQ{H:Nat->Prop}(k: ∀b,H b)(h:Bx (∀b,H b)->G:=by(intro k;(repeat refine aJ ?_);(first|refine jS (Ez rfl rfl) rfl rfl rfl ?_|refine jS (CH rfl) rfl rfl rfl ?_|refine jS e_alloc rfl rfl rfl ?_);rintro _ _ ⟨b,_,rfl,rfl⟩;(repeat refine aJ ?_);exact k.h b)):G:=h ⟨k⟩
theorem pz(k:H)(h:Bx H->G:=by(intro k;(repeat(first|refine aA ?_|(show PlanS _ _ _ _ _ _ _ _ _ _ ((_,true,_)::_) _ _ _;first|refine pY ?_|refine zV ?_|refine zW ?_)|(show PlanS _ _ _ _ _ _ _ _ none [] ((_,_,_)::_) _ _ _;first|refine pzs ?_|refine pzs0 ?_)|(show PlanS _ _ _ _ _ _ _ _ _ _ ((_,_,_)::_) _ _ _;first|refine zV ?_|refine zW ?_)|(show PlanS _ _ _ _ _ _ _ _ none [] ((_,false,_)::_) _ _ _;first|refine pZ ?_|refine pze ?_)));exact k.h)):G:=h ⟨k⟩
theorem BM(k:H)(h:Bx H->G:=by(intro k;(repeat(first|refine aA ?_|(show PlanS _ _ _ _ _ _ _ _ _ _ ((_,true,_)::_) _ _ _;first|refine pY ?_|refine zV ?_|refine zW ?_)|(show PlanS _ _ _ _ _ _ _ _ none [] ((_,_,_)::_) _ _ _;first|refine pzs ?_|refine pzs0 ?_|refine pl_hu (Cg (by(repeat(first|with_reducible apply EO|with_reducible apply HQ|with_reducible apply List.Sublist.cons_cons|with_reducible apply List.Sublist.cons)))) rfl rfl rfl rfl rfl rfl ?_)|(show PlanS _ _ _ _ _ _ _ _ _ _ ((_,_,_)::_) _ _ _;first|refine zV ?_|refine zW ?_)|(show PlanS _ _ _ _ _ _ _ _ none [] ((_,false,_)::_) _ _ _;first|refine pZ ?_|refine pze ?_)));exact k.h)):G:=h ⟨k⟩
theorem Yq(k:H)(h:Bx H->G:=by(intro k;((first|refine aA ?_|(show PlanS _ _ _ _ _ _ _ _ _ _ ((_,true,_)::_) _ _ _;first|refine pY ?_|refine zV ?_|refine zW ?_)|(show PlanS _ _ _ _ _ _ _ _ none [] ((_,_,_)::_) _ _ _;first|refine pzs ?_|refine pzs0 ?_|refine pl_hu (Cg (by(repeat(first|with_reducible apply EO|with_reducible apply HQ|with_reducible apply List.Sublist.cons_cons|with_reducible apply List.Sublist.cons)))) rfl rfl rfl rfl rfl rfl ?_)|(show PlanS _ _ _ _ _ _ _ _ _ _ ((_,_,_)::_) _ _ _;first|refine zV ?_|refine zW ?_)|(show PlanS _ _ _ _ _ _ _ _ none [] ((_,false,_)::_) _ _ _;first|refine pZ ?_|refine pze ?_)));exact k.h)):G:=h ⟨k⟩
theorem BW(h:p:=by(((repeat(first|with_reducible apply Ak|with_reducible apply An));try with_reducible assumption))):p:=h
theorem DY(h:p:=by((repeat(first|apply Upd.here|apply Upd.there)))):p:=h
theorem MG(h:p:=by((repeat(first|with_reducible apply EO|with_reducible apply HQ|with_reducible apply List.Sublist.cons_cons|with_reducible apply List.Sublist.cons)))):p:=h
theorem Ba(h:p:=by((repeat(first|apply ResS.nil|(apply xi;(·rfl))|(apply kZ;(·rfl);(·((repeat(first|with_reducible apply Ak|with_reducible apply An));try with_reducible assumption));(·rfl))|(apply Cq;(·rfl);(·((repeat(first|with_reducible apply Ak|with_reducible apply An));try with_reducible assumption));(·(repeat(first|with_reducible apply LSub.done|with_reducible apply LSub.take|with_reducible apply LSub.drop)))))))):p:=h
theorem AW(h:p:=by(((try simp only[Ae,Ag,AJ,CX]);repeat(first|with_reducible apply Keep.refl|(apply Keep.pick;·(repeat(first|apply Pick.here|apply Pick.there)))|apply Keep.drop)))):p:=h
theorem Vb(h:p:=by(first|exact DS rfl (.head _) (by(first|with_reducible assumption|((with_reducible apply Lh);(repeat(first|with_reducible apply LGet.zero|with_reducible apply LGet.succ)))))|exact Ge rfl (.head _) (by(repeat(first|with_reducible apply LSub.done|with_reducible apply LSub.take|with_reducible apply LSub.drop))))):p:=h
theorem GH(h:p:=by((repeat(first|apply Attach.nil|(apply Attach.cons;·rfl))))):p:=h
theorem UX{l:Ac}(h:l.Sublist l':=by((repeat(first|with_reducible apply EO|with_reducible apply HQ|with_reducible apply List.Sublist.cons_cons|with_reducible apply List.Sublist.cons)))): ∀c,c∈l->c∈l':=λ_ hc=>h.subset hc
def Abw:Option IntKind->Value->Prop
 |some k,v=> ∃a:Int,v= .int k a
 |none,v=> ∃b:Bool,v= .bool b
def AllK:List (Option IntKind)->Ap->Prop
 |[],cs=>cs=[]
 |k::ks,cs=> ∃c r,cs=c::r/\Abw k c/\AllK ks r
theorem AllK.len{x:Ap}(h:AllK a x):x.length=a.length:=by
 induction a generalizing x with
 |nil=>cases h;rfl
 |cons q a ih=>obtain⟨c,r,rfl,h1,h2⟩:=h;simp[ih h2]
def LH(P:Program)(t:TypeId):Bool:=match P.underlying t with
 |some (.struct _)|some (.array _ _)=>true
 |_=>false
def gN(P:Program):Nat->TypeId->Option (List (Option IntKind))
 |0,_=>none
 |n+1,t=>match P.underlying t with
  |some (.int k)=>some [some k]
  |some .bool=>some [none]
  |some (.struct fs)=>if P.stoodInHeld t then none else
   fs.toList.foldl (λacc f=>acc.bind λl=>(gN P n f.type).bind λks=>if f.offset=l.length/\f.name≠ "_" /\(P.info? f.type).map (·.size)=some ks.length then some (l++ks) else none) (some [])
  |some (.array len e)=>(gN P n e).bind λks=>if(P.info? e).map (·.size)=some ks.length then some (replicate len ks).flatten else none
  |_=>none
def IW(P:Program)(t:TypeId)(xs:Ap):Value:=if LH P t then .agg xs.toArray else xs.headD undef
section
variable{f:Value->Sem α}{l:Ac}{Q:α->Ac->Prop}
theorem VD{d:TypeDesc}{Hv:TypeInfo}(hu:P.underlying t=some d)(ha:Oc d=true)(hi:P.info? t=some Hv)(cs:Ap)(off:Nat):
 sl P (part t cs.toArray off>>=f) l Q<->sl P (f (.agg ((cs.drop off).take Hv.size).toArray)) l Q:=by
 unfold part;rw[AB,MC hu,ha];simp only[CS];rw[E2 hi];have e:cs.toArray.extract off (off+Hv.size)=((cs.drop off).take Hv.size).toArray:=by apply BP.1;rw[F8,Cj];simp
 rw[e];exact DG
theorem VE{d:TypeDesc}(hu:P.underlying t=some d)(ha:Oc d=false)(cs:Ap)(off:Nat)(hv:cs[off]?=some v):
 sl P (part t cs.toArray off>>=f) l Q<->sl P (f v) l Q:=by
 unfold part;rw[AB,MC hu,ha];simp only[Bm,C6,AE,hv];exact DG
def Oh:Value->Value->Bool
 | .int _ a,.int _ b=>a==b
 | .bool a,.bool b=>a==b
 |_,_=>false
def Ca:Ap->Ap->Bool
 |x::xs,y::ys=>Oh x y&&Ca xs ys
 |_,_=>true
theorem Oi: ∀(a b c d:Ap),a.length=b.length->Ca (a++c) (b++d)=(Ca a b&&Ca c d)
 |[],[],c,d,_=>by simp[Ca]
 |x::a,y::b,c,d,h=>by simp only[Ae,Ca,Oi a b c d (by simpa using h),Bool.and_assoc]
theorem GS: ∀{ks:List (Option IntKind)} {a:Ap},AllK ks a->Ca a a=true
 |[],a,h=>by cases h;rfl
 |none::ks,a,h=>by obtain⟨c,r,rfl,⟨b,rfl⟩,h2⟩:=h;simp[Ca,Oh,GS h2]
 |some k::ks,a,h=>by obtain⟨c,r,rfl,⟨b,rfl⟩,h2⟩:=h;simp[Ca,Oh,GS h2]
theorem aK{β:Type}(r:β->Bool)(body:β->Option Bool×Unit->Sem (ForInStep (Option Bool×Unit)))(k:Option Bool×Unit->Sem Bool)(k1:k (none,())=pure true)(k2:k (some false,())=pure false){Q:Bool->Ac->Prop}{l:Ac}: ∀(xs:List β),(∀x∈xs,∀(Q:ForInStep (Option Bool×Unit)->Ac->Prop) l,sl P (body x (none,())) l Q<->Q (if r x then .yield (none,()) else .done (some false,())) l)->
 (sl P (forIn xs ((none:Option Bool),()) body>>=k) l Q<->Q (xs.all r) l)
 |[],_=>by simp only[List.forIn_nil,AB,Bn,List.all_nil,k1]
 |x::xs,h=>by
  rw[AB,List.forIn_cons,AB,h x Ak,In];cases hr:r x with
  |true=>simp only[CS,Bw];rw[<-AB];exact aK r body k k1 k2 xs λy hy=>h y (An _ hy)
  |false=>simp only[Bm,C6,Bi,Bn,k2]
theorem AllK.take_left{b:List (Option IntKind)}{x:Ap}(h:AllK (a++b) x):AllK a (x.take a.length):=by
 induction a generalizing x with
 |nil=>simp[AllK]
 |cons k a ih=>obtain⟨c,r,rfl,h1,h2⟩:=h;exact⟨c,r.take a.length,by simp,h1,ih h2⟩
theorem AllK.drop_left{b:List (Option IntKind)}{x:Ap}(h:AllK (a++b) x):AllK b (x.drop a.length):=by
 induction a generalizing x with
 |nil=>simpa using h
 |cons k a ih=>obtain⟨c,r,rfl,h1,h2⟩:=h;simpa using ih h2
theorem Pv(xs ys:Ap)(m:Nat)(h:xs.length=ys.length):Ca xs ys=(Ca (xs.take m) (ys.take m)&&Ca (xs.drop m) (ys.drop m)):=by rw[<-Oi _ _ _ _ (by simp[h]),Cp,Cp]
def dU(P:Program)(t:TypeId):Nat:=((P.info? t).map (·.size)).getD 0
def Sv(P:Program)(xs ys:Ap)(f:Field):Bool:=Ca ((xs.drop f.offset).take (dU P f.type)) ((ys.drop f.offset).take (dU P f.type))
structure rk(P:Program)(n:Nat)(xs ys:Ap)(f:Field)(kf:List (Option IntKind)):Prop where
 kinds:gN P n f.type=some kf
 named:f.name≠ "_"
 size:(P.info? f.type).map (·.size)=some kf.length
 x:AllK kf ((xs.drop f.offset).take kf.length)
 y:AllK kf ((ys.drop f.offset).take kf.length)
theorem Tv(n:Nat)(xs ys:Ap): ∀(fs:List Field) (l ks:List (Option IntKind)),
 fs.foldl (λacc f=>acc.bind λl=>(gN P n f.type).bind λks=>if f.offset=l.length/\f.name≠ "_" /\(P.info? f.type).map (·.size)=some ks.length then some (l++ks) else none) (some l)=some ks->
 ∃A3,ks=l++A3/\(AllK ks xs->AllK ks ys->(∀f∈fs,∃kf,rk P n xs ys f kf)/\Ca (xs.drop l.length) (ys.drop l.length)=fs.all (Sv P xs ys)):=by
 intro fs
 induction fs with
 |nil=>intro l ks h;simp only[GC,Jb] at h;subst h;refine⟨[],by simp,λhx hy=>⟨by simp,?_⟩⟩;rw[DH (by rw[hx.len];exact Bf _),DH (by rw[hy.len];exact Bf _)];rfl
 |cons f fs ih=>
  intro l ks h;simp only[D6,HO] at h;cases hk:gN P n f.type with
  |none=>rw[hk] at h;simp only[Option.bind_none] at h;rw[M5] at h;cases h
  |some kf=>
   rw[hk] at h;simp only[HO] at h;by_cases hc:f.offset=l.length/\f.name≠ "_" /\(P.info? f.type).map (·.size)=some kf.length
   ·rw[Ad hc] at h;obtain⟨A3,hr,hrest⟩:=ih _ _ h;refine⟨kf++A3,by rw[hr,Am],λhx hy=>?_⟩;obtain⟨g1,g2⟩:=hrest hx hy;have ZX:AllK kf ((xs.drop f.offset).take kf.length):=by rw[hc.1];rw[hr,Am] at hx;exact hx.drop_left.take_left
    have pR:AllK kf ((ys.drop f.offset).take kf.length):=by rw[hc.1];rw[hr,Am] at hy;exact hy.drop_left.take_left
    refine⟨λg hg=>?_,?_⟩
    ·rcases At.1 hg with rfl|hg
     ·exact⟨kf,hk,hc.2.1,hc.2.2,ZX,pR⟩
     ·exact g1 g hg
    ·rw[In,<-g2,Pv _ _ kf.length (by simp[hx.len,hy.len])];simp only[Sv,dU,hc.2.2,Dx,hc.1,Lc,Ah]
   ·rw[Ab hc,M5] at h;cases h
theorem MH{f:Value->Sem α}{l:Ac}{Q:α->Ac->Prop}{kf:List (Option IntKind)}(h:gN P n t=some kf)(hs:(P.info? t).map (·.size)=some kf.length)(cs:Ap)(off:Nat)(hx:AllK kf ((cs.drop off).take kf.length)):
 sl P (part t cs.toArray off>>=f) l Q<->sl P (f (IW P t ((cs.drop off).take kf.length))) l Q:=by
 have hi: ∃Hv,P.info? t=some Hv/\Hv.size=kf.length:=by
  cases hh:P.info? t with
  |none=>rw[hh] at hs;cases hs
  |some Hv=>rw[hh] at hs;exact⟨Hv,rfl,by simpa using hs⟩
 obtain⟨Hv,wi,hi2⟩:=hi;have Aat: ∀{d:TypeDesc} {k:Option IntKind},P.underlying t=some d->Oc d=false->LH P t=false->kf=[k]->(sl P (part t cs.toArray off>>=f) l Q<->sl P (f (IW P t ((cs.drop off).take kf.length))) l Q):=by
  intro d k hu ha hb hkf;subst hkf;obtain⟨c,r,e1,_,e2⟩:=hx;have hg:cs[off]?=some c:=by have:=BI (λz=>z[0]?) e1;simpa using this
  rw[VE hu ha cs off hg];unfold IW;rw[hb,e1];exact DG
 have agg: ∀{d:TypeDesc},P.underlying t=some d->Oc d=true->LH P t=true->(sl P (part t cs.toArray off>>=f) l Q<->sl P (f (IW P t ((cs.drop off).take kf.length))) l Q):=by intro d hu ha hb;rw[VD hu ha wi cs off,hi2];unfold IW;rw[hb];exact DG
 cases n with
 |zero=>cases h
 |succ n=>
  unfold gN at h
  split at h
  ·rename_i k hu;cases h;exact Aat hu rfl (by unfold LH;rw[hu]) rfl
  ·rename_i hu;cases h;exact Aat hu rfl (by unfold LH;rw[hu]) rfl
  ·rename_i fs hu;exact agg hu rfl (by unfold LH;rw[hu])
  ·rename_i len e hu;exact agg hu rfl (by unfold LH;rw[hu])
  ·cases h
theorem Yr(kf:List (Option IntKind)): ∀(len:Nat) (xs ys:Ap),AllK (replicate len kf).flatten xs->AllK (replicate len kf).flatten ys->
 (∀i,i<len->AllK kf ((xs.drop (i*kf.length)).take kf.length)/\AllK kf ((ys.drop (i*kf.length)).take kf.length))/\
   Ca xs ys=(List.range' 0 len).all λi=>Ca ((xs.drop (i*kf.length)).take kf.length) ((ys.drop (i*kf.length)).take kf.length):=by
 intro len
 induction len with
 |zero=>intro xs ys hx hy;cases hx;cases hy;exact⟨λi hi=>by omega,rfl⟩
 |succ len ih=>
  intro xs ys hx hy;rw[BL,Cy] at hx hy;obtain⟨h1,h2⟩:=ih _ _ hx.drop_left hy.drop_left;have sh: ∀i (z:Ap),(z.drop kf.length).drop (i*kf.length)=z.drop ((i+1)*kf.length):=λi z=>by rw[Lc];congr 1;rw[F7];omega
  refine⟨λi hi=>?_,?_⟩
  ·cases i with
   |zero=>simpa using And.intro hx.take_left hy.take_left
   |succ i=>have:=h1 i Af;rw[sh,sh] at this;exact this
  ·rw[Pv _ _ kf.length (by rw[hx.len,hy.len]),h2,List.range'_succ,In];congr 1
   ·simp
   ·have e:List.range' (0+1) len=(List.range' 0 len).map (· +1):=by simp[List.range'_eq_map_range,Function.comp_def,KM]
    rw[e,List.all_map];congr 1;funext i;simp only[Function.comp,sh]
theorem WN: ∀(n d:Nat) (t:TypeId) (ks:List (Option IntKind)),gN P n t=some ks->n<=d-> ∀(xs ys:Ap),AllK ks xs->AllK ks ys-> ∀(Q:Bool->Ac->Prop) (l:Ac),
 (sl P (Op.equalIn d t (IW P t xs) (IW P t ys)) l Q<->Q (Ca xs ys) l):=by
 intro n
 induction n with
 |zero=>intro d t ks h;cases h
 |succ n ih=>
  intro d t ks h hd xs ys hx hy Q l;obtain⟨d,rfl⟩: ∃e,d=e+1:=⟨d-1,Af⟩
  unfold gN at h
  split at h
  ·rename_i k hu;cases h;obtain⟨_,_,rfl,⟨a,rfl⟩,rfl⟩:=hx;obtain⟨_,_,rfl,⟨b,rfl⟩,rfl⟩:=hy;simp only[IW,LH,hu,Bm,C6,Iw];unfold Op.equalIn;rw[Cc hu];simp[Ca,Oh,Bn]
  ·rename_i hu;cases h;obtain⟨_,_,rfl,⟨a,rfl⟩,rfl⟩:=hx;obtain⟨_,_,rfl,⟨b,rfl⟩,rfl⟩:=hy;simp only[IW,LH,hu,Bm,C6,Iw];unfold Op.equalIn;rw[Cc hu];simp[Ca,Oh,Bn]
  ·rename_i fs hu;by_cases K3:P.stoodInHeld t=true
   ·rw[Ad K3] at h;cases h
   rw[Ab K3] at h;obtain⟨A3,hr,hrest⟩:=Tv n xs ys fs.toList [] ks h;obtain⟨g1,g2⟩:=hrest hx hy;simp only[Fe,List.drop_zero] at g2;have dt:LH P t=true:=by unfold LH;rw[hu]
   simp only[IW,dt,CS];unfold Op.equalIn;rw[Cc hu];simp only;rw[PH,Bool.eq_false_iff.2 K3];simp only[Bm,C6];rw[g2,<-Array.forIn_toList];refine aK (Sv P xs ys) _ _ rfl rfl fs.toList λf hf Q l=>?_;obtain⟨kf,ok⟩:=g1 f hf;rw[Ad ok.named,MH ok.kinds ok.size xs f.offset ok.x,MH ok.kinds ok.size ys f.offset ok.y,AB,ih d f.type kf ok.kinds Af _ _ ok.x ok.y];simp only[Sv,dU,ok.size,Dx];cases Ca (List.take kf.length (List.drop f.offset xs)) (List.take kf.length (List.drop f.offset ys))<;>simp[Bn]
  ·rename_i len e hu;obtain⟨kf,hk,LA⟩:=IP.1 h;by_cases hs:(P.info? e).map (·.size)=some kf.length
   ·rw[Ad hs] at LA;cases LA;obtain⟨g1,g2⟩:=Yr kf len xs ys hx hy;have dt:LH P t=true:=by unfold LH;rw[hu]
    have hi: ∃Hv,P.info? e=some Hv/\Hv.size=kf.length:=by
     cases hh:P.info? e with
     |none=>rw[hh] at hs;cases hs
     |some Hv=>rw[hh] at hs;exact⟨Hv,rfl,by simpa using hs⟩
    obtain⟨Hv,wi,hi2⟩:=hi;simp only[IW,dt,CS];unfold Op.equalIn;rw[Cc hu];simp only;rw[E2 wi,hi2,g2];rw[Hq];have US:Std.Legacy.Range.size [:len]=len:=by simp[Std.Legacy.Range.size]
    rw[US];refine aK (λi=>Ca ((xs.drop (i*kf.length)).take kf.length) ((ys.drop (i*kf.length)).take kf.length)) _ _ rfl rfl (List.range' 0 len) λi hf Q l=>?_;have wj:i<len:=by have:=LN.1 hf;omega
    obtain⟨o1,o2⟩:=g1 i wj;rw[MH hk hs xs _ o1,MH hk hs ys _ o2,AB,ih d e kf hk Af _ _ o1 o2];cases Ca (List.take kf.length (List.drop (i*kf.length) xs)) (List.take kf.length (List.drop (i*kf.length) ys))<;>simp[Bn]
   ·rw[Ab hs] at LA;cases LA
  ·cases h
def xl(P:Program)(t:TypeId):Option (List (Option IntKind)):=if LH P t=true/\P.eqGuardType P.depth t=false then gN P 20 t else none
class EQ(P:Program)(t:Nat)(ks:outParam (List (Option IntKind))):Prop where out:xl P t=some ks
theorem Oj(h:xl P t=some ks):LH P t=true/\P.eqGuardType P.depth t=false/\gN P 20 t=some ks:=by
 unfold xl at h
 split at h
 ·rename_i hc;exact⟨hc.1,hc.2,h⟩
 ·cases h
variable{fr:Fr}{d:Option Nat}{aft:Array Edge}{xs ys:Ap}
theorem Tw{op:BinOp}{xa ya:Array Value}{f:Unit->Sem α}{l:Ac}{Q:α->Ac->Prop}(hg:P.eqGuardType P.depth t=false):sl P (eqGuard op t x y (.agg xa) (.agg ya)>>=f) l Q<->sl P (f ()) l Q:=by
 have key: ∀bb:Bool,sl P ((if(!bb)=true then(pure ():Sem Unit) else do
  let p<-program
  let q<-program
  if(!p.eqGuardType q.depth t)=true then pure () else do
   let r<-Op.eqGuardIn Op.maxDepth t (.agg xa) (.agg ya)
   if r=true then unsupported (Unsupported.noEntry "binop/eql: two nil values of an interface type with methods, in a part of a struct or an array") else pure ())>>=f) l Q<->sl P (f ()) l Q:=by
  intro bb;cases bb with
  |false=>exact DG
  |true=>rw[AB];simp only[Bool.not_true,Bm,C6];rw[PH,PH,hg];exact DG
 unfold eqGuard
 split
 ·exact key true
 ·exact key true
 ·exact key false
theorem Gx[c:EQ P t ks](hx:ev fr x=some (.agg (toArray xs)))(hy:ev fr y=some (.agg (toArray ys)))(kx:AllK ks xs)(ky:AllK ks ys):OpQ P ro N fr R ⟨d,.binOp .eql t x y t2,ty,pos,aft,g⟩ (.bool (Ca xs ys)):=BN rfl λρ l hρ _=>by obtain⟨e1,e2,e3⟩:=Oj c.out;simp only[execOp,hρ x _ hx,hρ y _ hy];rw[AB,Tw e2];have h:=WN 20 Op.maxDepth t ks e3 AX xs ys kx ky;unfold IW at h;rw[e1] at h;simp only[CS] at h;simp only[binOp,Op.equal,AB,h,Bn];exact⟨trivial,trivial⟩
theorem Sy[c:EQ P t ks](hx:ev fr x=some (.agg (toArray xs)))(hy:ev fr y=some (.agg (toArray ys)))(kx:AllK ks xs)(ky:AllK ks ys):OpQ P ro N fr R ⟨d,.binOp .neq t x y t2,ty,pos,aft,g⟩ (.bool (!Ca xs ys)):=BN rfl λρ l hρ _=>by obtain⟨e1,e2,e3⟩:=Oj c.out;simp only[execOp,hρ x _ hx,hρ y _ hy];rw[AB,Tw e2];have h:=WN 20 Op.maxDepth t ks e3 AX xs ys kx ky;unfold IW at h;rw[e1] at h;simp only[CS] at h;simp only[binOp,Op.equal,AB,h,Bn];exact⟨trivial,trivial⟩
theorem Ys[c:EQ P t ks](hx:ev fr x=some (.agg (toArray xs)))(hy:ev fr y=some (.agg (toArray xs)))(kx:AllK ks xs):OpQ P ro N fr R ⟨d,.binOp .eql t x y t2,ty,pos,aft,g⟩ (.bool true):=by have:=Gx (P:=P) (ro:=ro) (N:=N) (R:=R) (d:=d) (ty:=ty) (pos:=pos) (aft:=aft) (g:=g) (t2:=t2) (c:=c) hx hy kx kx;rwa [GS kx] at this
theorem ll[c:EQ P t ks](hx:ev fr x=some (.agg (toArray xs)))(hy:ev fr y=some (.agg (toArray xs)))(kx:AllK ks xs):OpQ P ro N fr R ⟨d,.binOp .neq t x y t2,ty,pos,aft,g⟩ (.bool false):=by have:=Sy (P:=P) (ro:=ro) (N:=N) (R:=R) (d:=d) (ty:=ty) (pos:=pos) (aft:=aft) (g:=g) (t2:=t2) (c:=c) hx hy kx kx;rwa [GS kx] at this
end
def dV:List (Option IntKind)->Ap->Bool
 |[],[]=>true
 |some k::ks,.int k' _::cs=>decide (k=k')&&dV ks cs
 |none::ks,.bool _::cs=>dV ks cs
 |_,_=>false
theorem IA: ∀{ks:List (Option IntKind)} {cs:Ap},dV ks cs=true->AllK ks cs
 |[],[],_=>rfl
 |some k::ks,.int k' a::cs,h=>by simp only[dV,AV,Bk] at h;exact⟨_,_,rfl,⟨a,by rw[h.1]⟩,IA h.2⟩
 |none::ks,.bool b::cs,h=>⟨_,_,rfl,⟨b,rfl⟩,IA h⟩
def RowSl{α:Type}(l:Ac)(v:Value)(k:Nat)(enc:α->Ap)(xs:List α):Prop:=
 ∃a cap,v= .slice a xs.length cap/\(0<xs.length-> ∃b off cs t fz,a=some ⟨b,off,none⟩/\(b,Obj.cells cs t fz)∈l/\ ∀i x,xs[i]?=some x->off+i*k+k<=cs.size/\cs.extract (off+i*k) (off+i*k+k)=toArray (enc x))
theorem Lk{α:Type}{enc:α->Ap}{k:Nat}(hk: ∀x,(enc x).length=k)(sp:Ap): ∀(xs:List α) (i:Nat) (x:α),xs[i]?=some x->((xs.flatMap enc++sp).drop (i*k)).take k=enc x/\i*k+k<=(xs.flatMap enc++sp).length
 |[],i,x,h=>by simp at h
 |y::xs,0,x,h=>by cases h;rw[Cz,GO,List.drop_zero,Am,GX (hk y)];refine⟨rfl,?_⟩;rw[Ah,hk];omega
 |y::xs,i+1,x,h=>by obtain⟨h1,h2⟩:=Lk hk sp xs i x (by simpa using h);rw[Cz,Am,F7];refine⟨?_,by rw[Ah,hk];omega⟩;rw[JM,DH (by rw[hk];omega),hk,Ag,show i*k+k-k=i*k by omega];exact h1
theorem OwnSl.rowSl{enc:α->Ap}{xs:List α}{cs l:Ac}(h:OwnSl e k v xs.length (xs.flatMap enc) cs)(hk: ∀x,(enc x).length=k)(hs: ∀c,c∈cs->c∈l):RowSl l v k enc xs:=by
 rcases h.2 with⟨rfl,h0,rfl⟩|⟨b,cap,sp,rfl,rfl,_⟩
 ·exact⟨none,0,by rw[h0],λh=>by omega⟩
 ·refine⟨_,cap,rfl,λh0=>⟨b,0,_,e,(0,0),rfl,hs _ Ak,λi x hx=>?_⟩⟩;obtain⟨h1,h2⟩:=Lk hk sp xs i x hx;refine⟨by rw[BF];simpa using h2,?_⟩;rw[BF,E7,Cj,CJ,h1]
section
variable{fr:Fr}{l:Ac}{d:Option Nat}{aft:Array Edge}
end
theorem GM: ∀{ks:List (Option IntKind)} {a b:Ap},AllK ks a->AllK ks b->(Ca a b=true<->a=b)
 |[],a,b,h,h'=>by cases h;cases h';simp[Ca]
 |none::ks,a,b,h,h'=>by obtain⟨_,r,rfl,⟨p,rfl⟩,h2⟩:=h;obtain⟨_,r',rfl,⟨p',rfl⟩,h2'⟩:=h';simp[Ca,Oh,GM h2 h2']
 |some k::ks,a,b,h,h'=>by obtain⟨_,r,rfl,⟨p,rfl⟩,h2⟩:=h;obtain⟨_,r',rfl,⟨p',rfl⟩,h2'⟩:=h';simp[Ca,Oh,GM h2 h2']
abbrev Hm(κ:Type):=κ×Value×Nat
def Ol{κ:Type}(enc:κ->Ap)(x:Hm κ):MapEntry:={key:= .agg (toArray (enc x.1)),val:=x.2.1,born:=x.2.2}
abbrev Ii{κ:Type}(enc:κ->Ap)(es:List (Hm κ))(clock:Nat):Obj:= .map (toArray (es.map (Ol enc))) clock
theorem HA{α:Type}(f:α->α)(e:α)(B:List α): ∀(A:List α),(A++e::B).modify A.length f=A++f e::B
 |[]=>rfl
 |x::A=>by rw[Ae,Bu,List.modify_succ_cons,HA f e B A];rfl
section
variable[DecidableEq κ]
def E0(a:κ):List (Hm κ)->Nat->Option (Nat×Value)
 |[],_=>none
 |e::es,i=>if a=e.1 then some (i,e.2.1) else E0 a es (i+1)
def HW(a:κ)(es:List (Hm κ)):Option Value:=(E0 a es 0).map Prod.snd
def LI(a:κ)(v:Value)(clock:Nat)(es:List (Hm κ)):List (Hm κ)×Nat:=match E0 a es 0 with
 |some (i,_)=>(es.modify i λx=>(x.1,v,x.2.2),clock)
 |none=>(es++[(a,v,clock)],clock+1)
def Po(a:κ)(es:List (Hm κ)):List (Hm κ):=match E0 a es 0 with
 |some (i,_)=>es.eraseIdx i
 |none=>es
theorem MI(a:κ): ∀(es:List (Hm κ)) (i:Nat),E0 a es i=(E0 a es 0).map λp=>(p.1+i,p.2)
 |[],i=>rfl
 |e::es,i=>by
  unfold E0
  split
  ·simp
  ·rw[MI a es (i+1),MI a es (0+1)];cases E0 a es 0 with
   |none=>rfl
   |some p=>simp;omega
theorem K4(a:κ)(e:Hm κ)(es:List (Hm κ)):HW a (e::es)=if a=e.1 then some e.2.1 else HW a es:=by
 unfold HW;rw[E0]
 split
 ·rfl
 ·rw[MI,Option.map_map];cases E0 a es 0<;>rfl
theorem HC{a:κ}: ∀{es:List (Hm κ)} {k:Nat} {v:Value},E0 a es 0=some (k,v)-> ∃A e B,es=A++e::B/\A.length=k/\e.1=a/\e.2.1=v/\ ∀x∈A,x.1≠a
 |[],k,v,h=>by cases h
 |e::es,k,v,h=>by
  rw[E0] at h
  split at h
  ·rename_i ha;cases h;exact⟨[],e,es,rfl,rfl,ha.symm,rfl,by simp⟩
  ·rename_i ha;rw[MI] at h;cases h2:E0 a es 0 with
   |none=>rw[h2] at h;cases h
   |some p=>
    obtain⟨k',v'⟩:=p;rw[h2] at h;cases h;obtain⟨A,e',B,h3,h4,h5,h6,h7⟩:=HC h2;refine⟨e::A,e',B,by rw[h3];rfl,by simp[h4],h5,h6,λx hx=>?_⟩;rcases At.1 hx with rfl|hx
    ·exact λe'=>ha e'.symm
    ·exact h7 x hx
theorem IH{a:κ}: ∀{es:List (Hm κ)},E0 a es 0=none<-> ∀e∈es,e.1≠a
 |[]=>by simp[E0]
 |e::es=>by
  rw[E0]
  split
  ·rename_i h;simp[h]
  ·rename_i h;rw[MI,Option.map_eq_none_iff,IH];simp only[At,forall_eq_or_imp];exact⟨λh2=>⟨λe'=>h e'.symm,h2⟩,λh2=>h2.2⟩
theorem Kg(a:κ)(A B:List (Hm κ)):HW a (A++B)=(HW a A).or (HW a B):=by
 induction A with
 |nil=>rfl
 |cons e A ih=>rw[Ae,K4,K4,ih];split<;>rfl
theorem Kh(a b:κ)(v:Value)(clock:Nat)(es:List (Hm κ)):HW b (LI a v clock es).1=if b=a then some v else HW b es:=by
 unfold LI;cases h:E0 a es 0 with
 |none=>
  simp only;rw[Kg,K4]
  split
  ·rename_i e;subst e;unfold HW;rw[h];rfl
  ·simp[HW,E0]
 |some p=>
  obtain⟨k,u⟩:=p;obtain⟨A,e,B,rfl,rfl,h1,h2,h3⟩:=HC h;simp only;have hm:(A++e::B).modify A.length (λx=>(x.1,v,x.2.2))=A++(e.1,v,e.2.2)::B:=HA _ e B A;rw[hm,Kg,Kg,K4,K4,h1];by_cases e':b=a
  ·have:HW b A=none:=by unfold HW;rw[e',IH.2 h3];rfl
   rw[this,Ad e',Ad e'];rfl
  ·rw[Ab e',Ab e',Ab e']
structure KeysOk(es:List (Hm κ))(clock:Nat):Prop where
 keys:(es.map (·.1)).Nodup
 stamps:(es.map (·.2.2)).Nodup
 below: ∀e∈es,e.2.2<clock
theorem KeysOk.set{es:List (Hm κ)}(h:KeysOk es clock)(a:κ)(v:Value):KeysOk (LI a v clock es).1 (LI a v clock es).2:=by
 unfold LI;cases hf:E0 a es 0 with
 |none=>
  have hn:=IH.1 hf;simp only;refine⟨?_,?_,λe he=>?_⟩
  ·rw[Aq,BC];exact⟨h.keys,by simp,λx hx y hy e=>by
    obtain⟨z,hz,rfl⟩:=Av.1 hx;have:y=a:=by simpa using hy
    exact hn z hz (by rw[e,this])⟩
  ·rw[Aq,BC];exact⟨h.stamps,by simp,λx hx y hy e=>by
    obtain⟨z,hz,rfl⟩:=Av.1 hx;have h1:y=clock:=by simpa using hy
    have h2:=h.below z hz;omega⟩
  ·rcases AF.1 he with he|he
   ·exact LP (h.below e he)
   ·rw[AC.1 he];exact HR _
 |some p=>
  obtain⟨k,u⟩:=p;obtain⟨A,e,B,rfl,rfl,h1,h2,h3⟩:=HC hf;have hm:(A++e::B).modify A.length (λx=>(x.1,v,x.2.2))=A++(e.1,v,e.2.2)::B:=HA _ e B A;simp only;rw[hm];refine⟨by simpa using h.keys,by simpa using h.stamps,λx hx=>?_⟩;rcases AF.1 hx with hx|hx
  ·exact h.below x (Ai _ hx)
  ·rcases At.1 hx with rfl|hx
   ·exact h.below e (Aa _ Ak)
   ·exact h.below x (Aa _ (An _ hx))
theorem KeysOk.del{es:List (Hm κ)}(h:KeysOk es clock)(a:κ):KeysOk (Po a es) clock:=by
 unfold Po
 split
 ·have hs:(es.eraseIdx ‹_›).Sublist es:=List.eraseIdx_sublist ..;exact⟨h.keys.sublist (hs.map _),h.stamps.sublist (hs.map _),λe he=>h.below e (hs.subset he)⟩
 ·exact h
theorem Qg{es:List (Hm κ)}(h:KeysOk es clock)(a b:κ):HW b (Po a es)=if b=a then none else HW b es:=by
 unfold Po;cases hf:E0 a es 0 with
 |none=>
  simp only
  split
  ·rename_i e;subst e;unfold HW;rw[hf];rfl
  ·rfl
 |some p=>
  obtain⟨k,u⟩:=p;obtain⟨A,e,B,rfl,rfl,h1,h2,h3⟩:=HC hf;have hk:=h.keys;rw[Aq,AJ,BC] at hk;obtain⟨_,LA,_⟩:=hk;rw[AP] at LA;have he:(A++e::B).eraseIdx A.length=A++B:=by rw[I5 (Bf _),DV];rfl
  simp only;rw[he,Kg,Kg,K4,h1];by_cases e':b=a
  ·rw[Ad e'];have n1:HW b A=none:=by unfold HW;rw[e',IH.2 h3];rfl
   have n2:HW b B=none:=by unfold HW;rw[e',IH.2 λx hx hxe=>LA.1 (Av.2 ⟨x,hx,by rw[hxe,h1]⟩)];rfl
   rw[n1,n2];rfl
  ·rw[Ab e',Ab e']
end
section
variable{fr:Fr}{l:Ac}{d:Option Nat}{aft:Array Edge}{w:Value}
theorem rl{p:Addr}(hp:P.underlying tp=some (.pointer te))(hte:P.info? te=some j)(US:j.size≠0)(ha:W.heap[p.block]?=some (.cells ca ta (0,0)))(hb:W.heap[q.block]?=some (.cells cb tb (0,0))):
 (binOp .eql tp (.pointer (some p)) (.pointer (some q))).run P W= .ok (.bool (decide (p=q))) W:=by
 by_cases h:p=q
 ·subst h;rw[run_eql_ptr_same W p hp hte,Au rfl]
 ·rw[run_eql_ptr_other W hp hte US h ha hb,Aw h]
theorem rm{p:Addr}(hp:P.underlying tp=some (.pointer te))(hte:P.info? te=some j)(US:j.size≠0)(ha:W.heap[p.block]?=some (.cells ca ta (0,0)))(hb:W.heap[q.block]?=some (.cells cb tb (0,0))):
 (binOp .neq tp (.pointer (some p)) (.pointer (some q))).run P W= .ok (.bool (!decide (p=q))) W:=by
 have h: ∀d:Nat,(Op.equalIn (d+1) tp (.pointer (some p)) (.pointer (some q))).run P W= .ok (decide (p=q)) W:=λd=>by
  by_cases h:p=q
  ·subst h;simp[Op.equalIn,run_underlying hp,sizeOf,typeInfo,hte,run_sameAddr_same]
  ·simp[Op.equalIn,run_underlying hp,sizeOf,typeInfo,hte,US,run_sameAddr_other W h ha hb,h]
 simp only[binOp];simp[Op.equal,Op.maxDepth,h 9999]
theorem rn{p:Addr}(hx:ev fr x=some (.pointer (some p)))(hy:ev fr y=some (.pointer (some q)))[c:PT P t e][oc:AG P e n](US:n≠0)(ha:(p.block,Obj.cells ca ta (0,0))∈R)(hb:(q.block,Obj.cells cb tb (0,0))∈R):
 OpQ P ro N fr R ⟨d,.binOp .eql t x y t2,ty,pos,aft,g⟩ (.bool (decide (p=q))):=⟨λl hR=>⟨rfl,λE a W hf hs=>by
 have hρ:=hf.agrees;obtain⟨uu,Hv,_,_,hi,hz⟩:=Kc oc.out;have XU:execOp a.eval ⟨d,.binOp .eql t x y t2,ty,pos,aft,g⟩=(do pure (.value (<-binOp .eql t (.pointer (some p)) (.pointer (some q)))):Sem Next):=by simp only[execOp,hρ x _ hx,hρ y _ hy,Kd,pure_bind]
 unfold OpVal;rw[XU,Sem.run_bind,rl (Od c.out) hi (by rw[hz];exact US) (hs.has _ (hR _ ha)) (hs.has _ (hR _ hb))];exact⟨l,⟨rfl,rfl⟩,hs⟩⟩⟩
theorem dW{p:Addr}(hx:ev fr x=some (.pointer (some p)))(hy:ev fr y=some (.pointer (some q)))[c:PT P t e][oc:AG P e n](US:n≠0)(ha:(p.block,Obj.cells ca ta (0,0))∈R)(hb:(q.block,Obj.cells cb tb (0,0))∈R):
 OpQ P ro N fr R ⟨d,.binOp .neq t x y t2,ty,pos,aft,g⟩ (.bool (!decide (p=q))):=⟨λl hR=>⟨rfl,λE a W hf hs=>by
 have hρ:=hf.agrees;obtain⟨uu,Hv,_,_,hi,hz⟩:=Kc oc.out;have XU:execOp a.eval ⟨d,.binOp .neq t x y t2,ty,pos,aft,g⟩=(do pure (.value (<-binOp .neq t (.pointer (some p)) (.pointer (some q)))):Sem Next):=by simp only[execOp,hρ x _ hx,hρ y _ hy,Kd,pure_bind]
 unfold OpVal;rw[XU,Sem.run_bind,rm (Od c.out) hi (by rw[hz];exact US) (hs.has _ (hR _ ha)) (hs.has _ (hR _ hb))];exact⟨l,⟨rfl,rfl⟩,hs⟩⟩⟩
end
section
variable{fr:Fr}{l:Ac}{d:Option Nat}{aft:Array Edge}{w:Value}
theorem WO{β:Type}(body:β->PUnit->Sem (ForInStep PUnit)){Q:PUnit->Ac->Prop}{l:Ac}: ∀(xs:List β),(∀x∈xs,∀(Q:ForInStep PUnit->Ac->Prop) l,sl P (body x ()) l Q<->Q (.yield ()) l)->(sl P (forIn xs PUnit.unit body) l Q<->Q () l)
 |[],_=>by simp only[List.forIn_nil,Bn]
 |x::xs,h=>by rw[List.forIn_cons,AB,h x Ak];exact WO body xs λy hy=>h y (An _ hy)
theorem aL{empty:Bool}: ∀(n d:Nat) (t:TypeId) (ks:List (Option IntKind)),gN P n t=some ks->n<=d-> ∀(xs:Ap),AllK ks xs-> ∀(Q:Unit->Ac->Prop) (l:Ac),(sl P (Instr.checkKey empty d t (IW P t xs)) l Q<->Q () l):=by
 intro n
 induction n with
 |zero=>intro d t ks h;cases h
 |succ n ih=>
  intro d t ks h hd xs hx Q l;obtain⟨d,rfl⟩: ∃e,d=e+1:=⟨d-1,Af⟩
  unfold gN at h
  split at h
  ·rename_i k hu;cases h;obtain⟨_,_,rfl,⟨a,rfl⟩,rfl⟩:=hx;simp only[IW,LH,hu,Bm,C6,Iw];unfold Instr.checkKey;rw[Cc hu];exact DG
  ·rename_i hu;cases h;obtain⟨_,_,rfl,⟨a,rfl⟩,rfl⟩:=hx;simp only[IW,LH,hu,Bm,C6,Iw];unfold Instr.checkKey;rw[Cc hu];exact DG
  ·rename_i fs hu;by_cases K3:P.stoodInHeld t=true
   ·rw[Ad K3] at h;cases h
   rw[Ab K3] at h;obtain⟨A3,hr,hrest⟩:=Tv n xs xs fs.toList [] ks h;obtain⟨g1,g2⟩:=hrest hx hx;have dt:LH P t=true:=by unfold LH;rw[hu]
   simp only[IW,dt,CS];unfold Instr.checkKey;rw[Cc hu];simp only;rw[<-Array.forIn_toList];rw[AB];refine(WO _ fs.toList λf hf Q l=>?_).trans DG;obtain⟨kf,ok⟩:=g1 f hf;rw[Ad ok.named,MH ok.kinds ok.size xs f.offset ok.x,AB,ih d f.type kf ok.kinds Af _ ok.x];exact DG
  ·rename_i len e hu;obtain⟨kf,hk,LA⟩:=IP.1 h;by_cases hs:(P.info? e).map (·.size)=some kf.length
   ·rw[Ad hs] at LA;cases LA;obtain⟨g1,g2⟩:=Yr kf len xs xs hx hx;have dt:LH P t=true:=by unfold LH;rw[hu]
    have hi: ∃Hv,P.info? e=some Hv/\Hv.size=kf.length:=by
     cases hh:P.info? e with
     |none=>rw[hh] at hs;cases hs
     |some Hv=>rw[hh] at hs;exact⟨Hv,rfl,by simpa using hs⟩
    obtain⟨Hv,wi,hi2⟩:=hi;simp only[IW,dt,CS];unfold Instr.checkKey;rw[Cc hu];simp only;rw[Hq];have US:Std.Legacy.Range.size [:len]=len:=by simp[Std.Legacy.Range.size]
    rw[US];rw[AB];refine(WO _ _ λi hf Q l=>?_).trans DG;have hf:i∈List.range' 0 len:=hf;have wj:i<len:=by have:=LN.1 hf;omega
    obtain⟨o1,_⟩:=g1 i wj;rw[E2 wi,hi2,MH hk hs xs _ o1,AB,ih d e kf hk Af _ o1];exact DG
   ·rw[Ab hs] at LA;cases LA
  ·cases h
structure Pw{κ:Type}(enc:κ->Ap)(ks:List (Option IntKind)):Prop where
 kinds: ∀a,AllK ks (enc a)
 inj: ∀a b,enc a=enc b->a=b
variable[DecidableEq κ]{enc:κ->Ap}{a:κ}{es:List (Hm κ)}
theorem KQ{Q:Unit->Ac->Prop}{empty:Bool}(h:xl P kt=some ks)(he:Pw enc ks):sl P (Instr.checkKey empty 10000 kt (.agg (toArray (enc a)))) l Q<->Q () l:=by obtain⟨h1,_,h3⟩:=Oj h;have:=aL (empty:=empty) 20 10000 kt ks h3 AX (enc a) (he.kinds a) Q l;unfold IW at this;rw[h1] at this;exact this
theorem gO{Q:Bool->Ac->Prop}(h:xl P kt=some ks)(he:Pw enc ks)(a b:κ):sl P (Op.equal kt (.agg (toArray (enc a))) (.agg (toArray (enc b)))) l Q<->Q (decide (a=b)) l:=by
 obtain⟨h1,_,h3⟩:=Oj h;have:=WN 20 Op.maxDepth kt ks h3 AX (enc a) (enc b) (he.kinds a) (he.kinds b) Q l;unfold IW at this;rw[h1] at this;have e:Ca (enc a) (enc b)=decide (a=b):=by
  by_cases zA:a=b
  ·rw[Au zA];exact(GM (he.kinds a) (he.kinds b)).2 (by rw[zA])
  ·rw[Aw zA];cases hc:Ca (enc a) (enc b) with
   |false=>rfl
   |true=>exact absurd (he.inj a b ((GM (he.kinds a) (he.kinds b)).1 hc)) zA
 rw[e] at this;exact this
theorem Px{Q:Option (Nat×Value)->Ac->Prop}(h:xl P kt=some ks)(he:Pw enc ks)(a:κ): ∀(es:List (Hm κ)) (i:Nat),sl P (Instr.findAsking kt (.agg (toArray (enc a))) (es.map (Ol enc)) i) l Q<->Q (E0 a es i) l
 |[],i=>DG
 |e::es,i=>by
  rw[AJ];unfold Instr.findAsking;simp only[Ol];rw[AB,gO h he,E0];by_cases hc:a=e.1
  ·rw[Au hc,Ad hc];exact DG
  ·rw[Aw hc,Ab hc];exact Px h he a es (i+1)
theorem LX{Q:Option (Nat×Value)->Ac->Prop}(h:xl P kt=some ks)(he:Pw enc ks):sl P (Instr.findKey kt (.agg (toArray (enc a))) (es.map (Ol enc))) l Q<->Q (E0 a es 0) l:=by
 obtain⟨h1,_,_⟩:=Oj h;unfold Instr.findKey;unfold LH at h1;cases hu:P.underlying kt with
 |none=>rw[hu] at h1;cases h1
 |some td=>
  rw[Cc hu];cases es with
  |nil=>exact DG
  |cons e es=>
   have hn:Instr.findNow td (.agg (toArray (enc a))) ((e::es).map (Ol enc)) 0=none:=by rw[AJ];unfold Instr.findNow;rw[hu] at h1;cases td<;>first|rfl|cases h1
   rw[hn];exact Px h he a (e::es) 0
theorem gP{zv:Value}(hx:ev fr x=some (.map (some m)))(hy:ev fr y=some (.agg (toArray (enc a))))[c:MT P T kt et][ci:EQ P kt ks][cz:ZO P et zv](he:Pw enc ks)(hm:(m,Ii enc es clock)∈R):OpQ P ro N fr R ⟨d,.lookup T x y false,ty,pos,aft,g⟩ ((HW a es).getD zv):=BN rfl λρ l hρ hR=>by
 simp only[execOp,hρ x _ hx,hρ y _ hy,AB];unfold Instr.lookup;rw[Cc (Jj c.out)];simp only[AB];refine⟨_,hR _ hm,rfl,?_⟩;simp only[Bn,FF,AB];rw[KQ ci.out he,LX ci.out he];unfold HW;cases h:E0 a es 0 with
 |none=>simp only[AB];rw[WM cz.out];exact⟨rfl,rfl⟩
 |some p=>exact⟨rfl,rfl⟩
theorem PL: ∀{ks:List (Option IntKind)} {a:Ap} (n:Nat),AllK ks a->(a.zip a).all (λp=>Instr.sameBits (n+1) p.1 p.2)=true
 |[],a,n,h=>by cases h;rfl
 |none::ks,a,n,h=>by obtain⟨c,r,rfl,⟨p,rfl⟩,h2⟩:=h;rw[List.zip_cons_cons,In,PL n h2];simp[Instr.sameBits]
 |some k::ks,a,n,h=>by obtain⟨c,r,rfl,⟨p,rfl⟩,h2⟩:=h;rw[List.zip_cons_cons,In,PL n h2];simp[Instr.sameBits]
theorem Qh{Q:Value->Ac->Prop}(he:Pw enc ks):sl P (Instr.keyThatStays (.agg (toArray (enc a))) (.agg (toArray (enc a)))) l Q<->Q (.agg (toArray (enc a))) l:=by
 unfold Instr.keyThatStays;have h:Instr.sameBits 10000 (.agg (toArray (enc a))) (.agg (toArray (enc a)))=true:=by unfold Instr.sameBits;simp only[beq_self_eq_true,Bw];exact PL 9998 (he.kinds a)
 rw[Ad h];exact DG
theorem Yt(A B:List (Hm κ))(e:Hm κ)(v:Value):(toArray ((A++e::B).map (Ol enc))).modify A.length (λx=>{key:= .agg (toArray (enc e.1)),val:=v,born:=x.born})=toArray ((A++(e.1,v,e.2.2)::B).map (Ol enc)):=by apply BP.1;rw[Ih];simp only[Aq,AJ];have:=HA (λx:MapEntry=>{key:= .agg (toArray (enc e.1)),val:=v,born:=x.born}) (Ol enc e) (B.map (Ol enc)) (A.map (Ol enc));rw[A7] at this;rw[this];rfl
theorem Qi(hx:ev fr x=some (.map (some m)))(hy:ev fr y=some (.agg (toArray (enc a))))(hz:ev fr z=some v)[c:MT P T kt et][ci:EQ P kt ks](he:Pw enc ks)(hu:Upd l m (Ii enc es clock) (Ii enc (LI a v clock es).1 (LI a v clock es).2) l'):
 OpE P ro N fr l ⟨d,.mapUpdate T x y z,ty,pos,aft,g⟩ (λv' l2=>v'=undef/\l2=l'):=DP rfl λρ hρ=>by
 simp only[execOp,hρ x _ hx,hρ y _ hy,hρ z _ hz];rw[AB];unfold Instr.mapUpdate;rw[Cc (Jj c.out)];simp only[AB];refine⟨_,hu.mem,rfl,?_⟩;simp only[Bn,FF,AB];rw[KQ ci.out he,LX ci.out he];unfold LI at hu;cases h:E0 a es 0 with
 |none=>
  rw[h] at hu;simp only at hu⊢;refine⟨Ii enc es clock,l',?_,rfl,⟨rfl,rfl⟩⟩;have e:(toArray (es.map (Ol enc))).push {key:= .agg (toArray (enc a)),val:=v,born:=clock}=toArray ((es++[(a,v,clock)]).map (Ol enc)):=by simp[Ol]
  rw[e];exact hu
 |some p=>
  obtain⟨i,u⟩:=p;rw[h] at hu;simp only at hu⊢;obtain⟨A,e,B,rfl,rfl,h1,h2,h3⟩:=HC h;subst h1;have hk:(((toArray ((A++e::B).map (Ol enc)))[A.length]?).map (·.key)).getD (.agg (toArray (enc e.1)))= .agg (toArray (enc e.1)):=by simp[Ol]
  simp only[AB];rw[hk,Qh he];refine⟨Ii enc (A++e::B) clock,l',?_,rfl,⟨rfl,rfl⟩⟩;rw[Yt,<-HA (λx=>(x.1,v,x.2.2)) e B A];exact hu
theorem VF{T2:TypeId}(hx:ev fr x=some (.map (some m)))(hy:ev fr y=some (.agg (toArray (enc a))))[c:MT P T kt et][ci:EQ P kt ks](he:Pw enc ks)(hu:Upd l m (Ii enc es clock) (Ii enc (Po a es) clock) l'):
 OpE P ro N fr l ⟨d,.call {callee:= .builtin .delete,args:=#[x,y],argTypes:=#[T,T2]},ty,pos,aft,g⟩ (λv' l2=>v'= .tuple #[]/\l2=l'):=DP rfl λρ hρ=>by
 simp only[execOp,resolve,AB,Bn,invoke,builtin,Dj,AJ,CX,hρ x _ hx,hρ y _ hy];unfold Builtin.delete_;simp only[AE,Dc,Db,AB];rw[E1 (Jj c.out)];simp only[AB];refine⟨_,hu.mem,rfl,?_⟩;simp only[Bn,FF,AB];rw[KQ ci.out he,LX ci.out he];unfold Po at hu;cases h:E0 a es 0 with
 |none=>rw[h] at hu;exact⟨Ii enc es clock,l',hu,rfl,⟨rfl,rfl⟩⟩
 |some p=>
  obtain⟨i,u⟩:=p;rw[h] at hu;refine⟨Ii enc es clock,l',?_,rfl,⟨rfl,rfl⟩⟩;have e:(toArray (es.map (Ol enc))).eraseIdxIfInBounds i=toArray ((es.eraseIdx i).map (Ol enc)):=by apply BP.1;simp only[Jx];rw[Dp,Dp,Aq,Hd,List.map_drop]
  rw[e];exact hu
theorem RE{A B:List (Hm κ)}{e:Hm κ}{l':Ac}(hx:ev fr x=some (.map (some m)))(hy:ev fr y=some (.agg (toArray (enc a))))[c:MT P T kt et][ci:EQ P kt ks](he:Pw enc ks)(uo:es=A++e::B)(h1:e.1=a)(h3: ∀x∈A,x.1≠a)(hm:(m,Ii enc es clock)∈l):
 OpE P ro N fr l ⟨d,.mapEntry T x y,ty,pos,aft,g⟩ (λv' l2=>v'= .tuple #[e.2.1,.int .i64 e.2.2]/\l2=l):=DP rfl λρ hρ=>by
 subst h1 uo;simp only[execOp,hρ x _ hx,hρ y _ hy,AB];unfold Instr.mapEntry;rw[Cc (Jj c.out)];simp only[AB];refine⟨_,hm,rfl,?_⟩;simp only[Bn,FF,AB];have hf:E0 e.1 (A++e::B) 0=some (A.length,e.2.1):=by
  have: ∀(A:List (Hm κ)) (i:Nat),(∀x∈A,x.1≠e.1)->E0 e.1 (A++e::B) i=some (i+A.length,e.2.1):=by
   intro A
   induction A with
   |nil=>intro i _;rw[Ag,E0,Ad rfl];rfl
   |cons z A ih=>intro i hA;rw[Ae,E0,Ab (λh=>hA z Ak h.symm),ih (i+1) λx hx=>hA x (An _ hx),Bu];congr 2;omega
  rw[this A 0 h3,BF]
 rw[KQ ci.out he,LX ci.out he,hf];have hk:(((toArray ((A++e::B).map (Ol enc)))[A.length]?).map (·.key)).getD (.agg (toArray (enc e.1)))= .agg (toArray (enc e.1)):=by simp[Ol]
 have hb:(((toArray ((A++e::B).map (Ol enc)))[A.length]?).map (λx=>(x.born:Int))).getD 0=(e.2.2:Int):=by simp[Ol]
 simp only[AB];rw[hk,Qh he];obtain⟨l2,Lf⟩: ∃l2,Upd l m (Ii enc (A++e::B) clock) (Ii enc (A++e::B) clock) l2:=by
  clear hρ
  induction l with
  |nil=>cases hm
  |cons c l ih=>
   by_cases hc:c=(m,Ii enc (A++e::B) clock)
   ·subst hc;exact⟨_,.here⟩
   ·rcases At.1 hm with h|h
    ·exact absurd h.symm hc
    ·obtain⟨l2,h2⟩:=ih h;exact⟨_,.there h2⟩
 refine⟨Ii enc (A++e::B) clock,l,?_,rfl,?_⟩
 ·have e2:(toArray ((A++e::B).map (Ol enc))).modify A.length (λx=>{key:= .agg (toArray (enc e.1)),val:=x.val,born:=x.born})=toArray ((A++e::B).map (Ol enc)):=by
   apply BP.1;rw[Ih];simp only[Aq,AJ];have:=HA (λx:MapEntry=>{key:= .agg (toArray (enc e.1)),val:=x.val,born:=x.born}) (Ol enc e) (B.map (Ol enc)) (A.map (Ol enc));rw[A7] at this;rw[this];rfl
  rw[e2];have:=Lf.same;subst this;exact Lf
 ·simp only[Bn,FF];refine⟨?_,rfl⟩;show Value.tuple _=_;congr 3
  first|exact BI goInt hb|(unfold goInt;rw[<-hb])
theorem Py{A B:List (Hm κ)}{e:Hm κ}(hx:ev fr x=some (.map (some m)))(hy:ev fr y=some (.int .i64 (e.2.2:Nat)))(hz:ev fr z=some v)(uo:es=A++e::B)(h3: ∀x∈A,x.2.2≠e.2.2)(hu:Upd l m (Ii enc es clock) (Ii enc (A++(e.1,v,e.2.2)::B) clock) l'):
 OpE P ro N fr l ⟨d,.entryStore T x y z,ty,pos,aft,g⟩ (λv' l2=>v'=undef/\l2=l'):=DP rfl λρ hρ=>by
 subst uo;simp only[execOp,hρ x _ hx,hρ y _ hy,hρ z _ hz];rw[AB];unfold Instr.entryStore;simp only[AB];refine⟨_,hu.mem,rfl,?_⟩;simp only[Bn,FF,AB,asInt,asIntOf];have hf:(toArray ((A++e::B).map (Ol enc))).findIdx? (λx=>(x.born:Int)==(e.2.2:Int))=some A.length:=by
  rw[List.findIdx?_toArray];clear hu hρ
  induction A with
  |nil=>simp[Ol,List.findIdx?_cons]
  |cons z A ih=>
   have hz:¬z.2.2=e.2.2:=h3 z Ak;rw[Ae,AJ,List.findIdx?_cons,ih λx hx=>h3 x (An _ hx)];have:(((Ol enc z).born:Int)==(e.2.2:Int))=false:=by simp[Ol];omega
   rw[this];rfl
 rw[hf];refine⟨Ii enc (A++e::B) clock,l',?_,rfl,⟨rfl,rfl⟩⟩;have e2:(toArray ((A++e::B).map (Ol enc))).modify A.length (λx=>{key:=x.key,val:=v,born:=x.born})=toArray ((A++(e.1,v,e.2.2)::B).map (Ol enc)):=by apply BP.1;rw[Ih];simp only[Aq,AJ];have:=HA (λx:MapEntry=>{key:=x.key,val:=v,born:=x.born}) (Ol enc e) (B.map (Ol enc)) (A.map (Ol enc));rw[A7] at this;rw[this];rfl
 rw[e2];exact hu
end
section
variable{l:Ac}{fr:Fr}
theorem Rc{d:Nat}(h:OpE P ro N fr l o K)(hw:Rb ops fr o.guard=some true)(hd:o.dst=some d)(hb:Nat.blt d N=true)(hR: ∀v l',K v l'->(∀c,c∈R->c∈l'))(hS: ∀v l',K v l'-> ∀x,x∈sp->FD tbl i x.1=false-> ∀c,c∈x.2->c∈l')(hk: ∀v l',K v l'->PlanS P ro N E ops Q R tbl none sp pl ((d,v)::fr) ds l'):PlanS P ro N E ops Q R tbl none sp ((i,false,o)::pl) fr ds l:=by
 rcases Kf hw with⟨h1,_⟩|⟨j,b,oj,dj,b',h1,h2,h3,h4,h5⟩
 ·exact G9 h h1 hd hb hR hS hk
 ·have:b'=b:=by simpa using h5
  subst this;exact .ge h h1 h2 h3 h4 (by rw[hd];exact hb) hR hS λv l' hkv=>by rw[hd];exact hk v l' hkv
end
theorem C7{c:Bd}{l:Ac}(h:c∈l): ∀x,x∈[c]->x∈l:=λx hx=>by rw[AC.1 hx];exact h
theorem Keep.in_mid(A B C:Ac):Keep (A++(B++C)) (B++(A++C)):=Keep.of_perm (AA A B C)
theorem Jk{α β:Type}{f:α->β}: ∀{l:List α},(l.map f).Nodup->l.Nodup
 |[],_=>List.nodup_nil
 |x::l,h=>by rw[AJ,AP] at h;exact AP.2 ⟨λhx=>h.1 (Av.2 ⟨x,hx,rfl⟩),Jk h.2⟩
theorem Om{α β:Type}{f:α->β}: ∀{l:List α} {x y:α},(l.map f).Nodup->x∈l->y∈l->f x=f y->x=y
 |[],_,_,_,h,_,_=>by cases h
 |z::l,x,y,h,hx,hy,e=>by
  rw[AJ,AP] at h;rcases At.1 hx with h1|h1<;>rcases At.1 hy with h2|h2
  ·rw[h1,h2]
  ·exact absurd (Av.2 ⟨y,h2,by rw[<-e,h1]⟩) h.1
  ·exact absurd (Av.2 ⟨x,h1,by rw[e,h2]⟩) h.1
  ·exact Om h.2 h1 h2 e
section
variable{fr:Fr}{l:Ac}{d:Option Nat}{aft:Array Edge}{k k':IntKind}{i:Int}{a:Nat}
theorem uW(hx:ev fr x=some (.int k i))(hy:ev fr y=some (.int k' (n:Nat)))(hn:n<=k.bits):OpQ P ro N fr R ⟨d,.binOp .shr t x y t2,ty,pos,aft,g⟩ (.int k (i/2^n)):=
 IV hx hy (λ_ _=>De _ _ _ _ _) (by
  have h1:¬((n:Nat):Int)<0:=by omega
  have h2:i.fdiv (2^n)=i/2^n:=Int.fdiv_eq_ediv_of_nonneg _ (by have:(0:Int)<=((2^n:Nat):Int):=Int.natCast_nonneg _;simpa using this);simp only[binOp,Op.shift,Ab h1,A0,EW hn,h2])
theorem Tx(hx:ev fr x=some (.int k i))(hy:ev fr y=some (.int k' (n:Nat)))(hn:n<=k.bits):OpQ P ro N fr R ⟨d,.binOp .shl t x y t2,ty,pos,aft,g⟩ (.int k (k.wrap (i*2^n))):=
 IV hx hy (λ_ _=>De _ _ _ _ _) (by
  have h1:¬((n:Nat):Int)<0:=by omega
  simp only[binOp,Op.shift,Ab h1,A0,EW hn])
theorem VG{a:Nat}(h:a<18446744073709551616):IntKind.u64.wrap (a:Int)=(a:Int):=by simp[IntKind.wrap,IntKind.signed,IntKind.bits];omega
theorem uX(hx:ev fr x=some (.int .u64 (a:Nat)))(hy:ev fr y=some (.int .u64 (b:Nat)))(ha:a<18446744073709551616)(hb:b<18446744073709551616):OpQ P ro N fr R ⟨d,.binOp .and t x y t2,ty,pos,aft,g⟩ (.int .u64 ((a&&& b:Nat):Int)):=
 IV hx hy (λ_ _=>De _ _ _ _ _) (by
  have e1:(BitVec.ofInt IntKind.u64.bits ((a:Nat):Int)).toNat=a:=by show(BitVec.ofInt 64 ((a:Nat):Int)).toNat=a;rw[D4,Ew,Dy ha]
  have e2:(BitVec.ofInt IntKind.u64.bits ((b:Nat):Int)).toNat=b:=by show(BitVec.ofInt 64 ((b:Nat):Int)).toNat=b;rw[D4,Ew,Dy hb]
  simp only[binOp,Op.intBits,Mv,e1,e2];rw[VG (Ev Kr ha)];rfl)
theorem VH{zv:Value}{k:Nat}(hzv:zv.cells=toArray zs)(R8:zs.length=k)(hk:0<n*k):(Array.range (n*k)).map (λj=>zv.cells[j%zv.cells.size]!)=toArray (replicate n zs).flatten:=by
 have hk0:0<k:=K9 λe=>by subst e;simp at hk
 apply BP.1;apply CI;intro j;rw[hzv];have hl:(replicate n zs).flatten.length=n*k:=by simp[R8]
 by_cases hj:j<n*k
 ·have:(replicate n zs).flatten[j]?=zs[j%k]?:=by
   clear hl hk hk0
   induction n generalizing j with
   |zero=>omega
   |succ n ih=>
    rw[BL,Cy];by_cases kv:j<k
    ·rw[AH Af,Dy kv]
    ·rw[AY Af,R8,ih (j-k) (by have:=F7 n k;simp only[KD] at this;omega),<-La Af]
  simp only[Mu,Lb,A6,Fh hj,BU];rw[this];have C9:j%k<zs.length:=by rw[R8];exact Ho _ hk0
  simp[R8,Al C9,GA]
 ·rw[Bg (by simp;omega),Bg (by rw[hl];omega)]
theorem Gg{T kk yb:Nat}{xs:Ap}(hx:ev fr x=some (.int .i64 (n:Nat)))[c:ST P T e kk yb][cz:ZV P e zs](R8:zs.length=kk)(hk:0<n*kk)(hn:n<=1000000)(du:yb<=1000)(PG:xs=(replicate n zs).flatten):
 OpE P ro N fr l ⟨d,.makeSlice T x x,ty,pos,aft,g⟩ (λv' l'=> ∃b,(∀c,c∈l->c.1≠b)/\v'= .slice (some ⟨b,0,none⟩) n n/\l'=(b,.cells (toArray xs) e (0,0))::l):=DP rfl λρ hρ=>by
 subst PG;obtain⟨Hv,u1,u2,u3,u4⟩:=E8 c.out;obtain⟨wg,zv,z1,z2,z3⟩:=Ke cz.out;rw[u2] at z1;cases z1;simp only[execOp,hρ x _ hx];unfold Instr.makeSlice;rw[AB,Cc u1];have hw:IntKind.i64.wrap ((n:Nat):Int)=n:=xd _ ⟨Af,Af⟩;have hb:Hv.bytes*n<=1000000000:=by rw[u4];exact BV (Jc du hn) Af
 have Ww:((Hv.bytes:Nat):Int)*((n:Nat):Int)<=1000000000:=by rw[<-Ks];omega
 simp only[asInt,asIntOf,pure_bind,hw];rw[J3 u2];have ht:(decide (((n:Nat):Int)<0)||decide (((Hv.bytes:Nat):Int)*((n:Nat):Int)>2^48))=false:=by rw[Aw Af,Aw Af];rfl
 simp only[ht,Mh];rw[show(decide (((n:Nat):Int)<0)||decide (((n:Nat):Int)>((n:Nat):Int)))=false by rw[Aw Af,Aw Af];rfl];simp only[Bm,C6,A0];unfold askRoom roomBytes;have hr:n*Hv.bytes<=1000000000:=by rw[MZ];exact hb
 rw[Ab Af,AB,Bn,E2 u2,u3];have ka:¬n*kk=0:=by omega
 simp only[ka,C6,zeroValue,AB];rw[<-AB,J3 u2,z2];simp only[Bn];have hzv:zv.cells=toArray zs:=by rw[<-z3]
 rw[VH hzv R8 hk];simp only[newRow,AB];intro b hb;exact⟨b,hb,rfl,rfl⟩
end
theorem Ty(vs:Ap): ∀(cs:Array Value) (off k:Nat),(Da cs off vs)[k]?=if off<=k/\k<off+vs.length/\k<cs.size then vs[k-off]? else cs[k]?:=by
 induction vs with
 |nil=>intro cs off k;rw[Ab (by simp;omega)];rfl
 |cons v r ih=>
  intro cs off k;show(Da (cs.setIfInBounds off v) (off+1) r)[k]?=_;rw[ih,Array.size_setIfInBounds];by_cases h1:off+1<=k/\k<off+1+r.length/\k<cs.size
  ·rw[Ad h1,Ad (by simp;omega),show k-off=(k-(off+1))+1 by omega];rfl
  ·rw[Ab h1,Array.getElem?_setIfInBounds];by_cases h2:off=k
   ·subst h2;rw[Ad rfl];by_cases h3:off<cs.size
    ·rw[Ad h3,Ad (by simp;omega),DV];rfl
    ·rw[Ab h3,Ab Af,Fj Af]
   ·rw[Ab h2,Ab (by simp;omega)]
section
def uY(os:List Oper)(tbl:List (List Nat))(L:List (Nat×Nat))(plan1 My:List (Nat×Bool))(i j:Nat)(gj gi:Sw):Bool:=
 ((Iz os plan1).tail.all λy=>!L.contains (i,y.1)||y.1==j||(Iz os plan1).tail.any λz=>FD tbl y.1 z.1)&&Gw os.toArray tbl gj (Iz os plan1).tail&&U9 gj (Iz os plan1).tail&&Gw os.toArray tbl gi (Iz os My).tail&&U9 gi (Iz os My).tail&&plan1.head?==some (i,false)&&My.head?==some (j,false)&&i !=j
theorem Tz{fr:Fr}{l:Ac}{L:List (Nat×Nat)}{oj:Oper}{A3 rj:List BG}{K':Value->Ac->Prop}(plan1 My:List (Nat×Bool))(i j:Nat)(gj gi:Sw)(h1:Attach os plan1 ((i,false,o)::A3))(h2:Attach os My ((j,false,oj)::rj))(hp:((j,false,oj)::rj).Perm ((i,false,o)::A3))(Dm:uY os tbl L plan1 My i j gj gi=true)
 (ho:OpE P ro N fr l o K)(hg:Rb os.toArray fr o.guard=some true)(hd:Kb N o.dst=true)(hR: ∀v l',K v l'->(∀c,c∈R->c∈l'))(hS: ∀v l',K v l'-> ∀x,x∈sp->FD tbl i x.1=false-> ∀c,c∈x.2->c∈l')
 (dv:OpE P ro N fr l oj K')(hg':Rb os.toArray fr oj.guard=some true)(qt:Kb N oj.dst=true)(hR': ∀v l',K' v l'->(∀c,c∈R->c∈l'))(kz: ∀v l',K' v l'-> ∀x,x∈sp->FD tbl j x.1=false-> ∀c,c∈x.2->c∈l')
 (hk0: ∀v l',K v l'->PlanS P ro N E os.toArray Q R tbl gj sp A3 (Iq o.dst v fr) ds l')(qv: ∀v l',K' v l'->PlanS P ro N E os.toArray Q R tbl gi sp rj (Iq oj.dst v fr) ds l'):PlanS P ro N E os.toArray Q R tbl (some L) sp ((i,false,o)::A3) fr ds l:=by
 unfold uY at Dm;rw[h1.fun_eq,h2.fun_eq] at Dm;simp only[AV,PF,ne_eq,Jd,A5,Es,DU,JL,HP] at Dm;obtain⟨⟨⟨⟨⟨⟨⟨p1,p2⟩,p3⟩,p4⟩,p5⟩,_⟩,_⟩,Wt⟩:=Dm;have hj: ∀k,Pn tbl (some L) i A3 k->k=i\/k=j:=λk hk=>by
  rcases hk with h|⟨h,h3,y,hy,rfl⟩
  ·exact .inl h
  ·rcases p1 y hy with(h4|h4)|⟨z,hz,h4⟩
   ·simp only[Pm] at h;rw[h] at h4;cases h4
   ·exact .inr h4
   ·rw[h3 z hz] at h4;cases h4
 refine .alt (λk=>if k=i then o else oj) (λk=>if k=i then K else K') (λk=>if k=i then A3 else rj) (λk=>if k=i then gj else gi) (λk hk=>?_) (λk hk=>?_) (λk hk=>?_) λk hk=>?_;all_goals rcases hj k hk with h|h
 ·subst h;simp only[CS];exact⟨.refl _,p2,p3⟩
 ·subst h;simp only[Ab (FJ Wt)];exact⟨hp,p4,p5⟩
 ·subst h;simp only[CS];exact⟨ho,hg,hd⟩
 ·subst h;simp only[Ab (FJ Wt)];exact⟨dv,hg',qt⟩
 ·subst h;simp only[CS];exact λv l' k=>⟨hR v l' k,hS v l' k⟩
 ·subst h;simp only[Ab (FJ Wt)];exact λv l' k=>⟨hR' v l' k,kz v l' k⟩
 ·subst h;simp only[CS];exact hk0
 ·subst h;simp only[Ab (FJ Wt)];exact qv
variable{fr:Fr}{aft:Array Edge}{off:Nat}
end
section
end
theorem zKp{l:Ac}(h:Keep l l':=by(repeat(first|exact .refl|apply Keep.drop))):Keep l l':=h
theorem zLf{w:Value}(h:v=w:=by first|rfl|(exfalso;omega)|(simp[JH, *];done)|(simp_all [JH];done)|(simp_all [JH];omega)):v=w:=h
class QF(P:Program)(f:Nat)(vs:Ap)(l:Ac)(v:outParam Value):Prop where
 out: ∀l2,(∀c,c∈l->c∈l2)->Fn P f vs l2 (λv' l'=>v'=v/\l'=l2)
instance{P:Program}{f:Nat}{vs:Ap}{l:Ac}{v:Value}{c:Bd}[h:QF P f vs l v]:QF P f vs (c::l) v:=⟨λl2 hl=>h.out l2 λx hx=>hl x (.tail _ hx)⟩
theorem EM{fr:Fr}{l:Ac}{d:Nat}{at_:Array TypeId}{aft:Array Edge}(hk:DA P ro N E ops Q A3 ((d,v)::fr) ds l)(hx:ev fr x=some (.func (.func f) #[] #[]):=by rfl)(hy:Sd fr xs=some vs:=by rfl)(c:EN P f:=by infer_instance)(q:QF P f vs l v:=by infer_instance)(hw:Rb ops fr g=some true:=by rfl)(hb:Nat.blt d N=true:=by rfl):DA P ro N E ops Q (⟨some d,.call {callee:= .value x,args:=xs.toArray,argTypes:=at_},ty,pos,aft,g⟩::A3) fr ds l:=
 NY (AL hx hy q.out) hw rfl hb hk
def xm:Nat->Nat->List (Nat×Bool)
 |_,0=>[]
 |i,k+1=>(i,true)::xm (i+1) k
def Abx(ops:List Oper):List (List Nat):=ops.foldl (λacc o=>acc++[((o.after.toList.filter λe=>Region.binds .any e).map λe=>e.on)++(((o.after.toList.filter λe=>Region.binds .any e).map λe=>e.on).flatMap λd=>acc.getD d [])]) []
theorem IB{fr:Fr}{l:Ac}(h:PlanS P ro N E os.toArray Q l (Abx os) none [] pl fr ds l)(ha:Attach os (xm 0 os.length) pl:=by exact GH)(hm:P.follows .mixedOrders=true:=by kernel_rfl)(hv:WJ os (xm 0 os.length) (Abx os)=true:=by kernel_rfl):BR P ro N E (.region k os.toArray true) Q fr ds l:=Li _ _ l hm hv ha (λ_ h=>h) h
theorem VI{fr:Fr}{l:Ac}{d:Nat}{at_:Array TypeId}{aft:Array Edge}(hk:PlanS P ro N E ops Q R tbl sw sp pl ((d,v)::fr) ds l)(hx:ev fr x=some (.func (.func f) #[] #[]):=by rfl)(hy:Sd fr xs=some vs:=by rfl)(c:EN P f:=by infer_instance)(q:QF P f vs R v:=by infer_instance)(hw:Rb ops fr g=some true:=by rfl)(hb:Nat.blt d N=true:=by rfl):PlanS P ro N E ops Q R tbl sw sp ((i,true,⟨some d,.call {callee:= .value x,args:=xs.toArray,argTypes:=at_},ty,pos,aft,g⟩)::pl) fr ds l:=
 aB (AL hx hy q.out) hw rfl hb hk
section
variable{fr:Fr}{l:Ac}{d:Nat}{at_:Array TypeId}{aft:Array Edge}[c:EN P f]
theorem tq(h: ∀l2,(∀c,c∈l->c∈l2)->Fn P f vs l2 (λv' l'=>v'=v/\l'=l2))(hk:DA P ro N E ops Q A3 ((d,v)::fr) ds l)(hx:ev fr x=some (.func (.func f) #[] #[]):=by rfl)(hy:Sd fr xs=some vs:=by rfl)(hw:Rb ops fr g=some true:=by rfl)(hb:Nat.blt d N=true:=by rfl):DA P ro N E ops Q (⟨some d,.call {callee:= .value x,args:=xs.toArray,argTypes:=at_},ty,pos,aft,g⟩::A3) fr ds l:=
 NY (AL hx hy h) hw rfl hb hk
theorem pq(h: ∀l2,(∀c,c∈R->c∈l2)->Fn P f vs l2 (λv' l'=>v'=v/\l'=l2))(hk:PlanS P ro N E ops Q R tbl sw sp pl ((d,v)::fr) ds l)(hx:ev fr x=some (.func (.func f) #[] #[]):=by rfl)(hy:Sd fr xs=some vs:=by rfl)(hw:Rb ops fr g=some true:=by rfl)(hb:Nat.blt d N=true:=by rfl):PlanS P ro N E ops Q R tbl sw sp ((i,true,⟨some d,.call {callee:= .value x,args:=xs.toArray,argTypes:=at_},ty,pos,aft,g⟩)::pl) fr ds l:=
 aB (AL hx hy h) hw rfl hb hk
end
def AeU(ops:List Oper):List Nat:=ops.foldl (λacc o=>acc++[o.after.toList.foldl (λm e=>bif Region.binds .any e then Nat.lor m (Nat.lor (Nat.shiftLeft 1 e.on) (acc.getD e.on 0)) else m) 0]) []
def rp(ops:List Oper):List (List Nat):=(AeU ops).map λm=>(List.range ops.length).filter λi=>Nat.testBit m i
def Cu(ef:List Nat):Nat->Nat->List (Nat×Bool)
 |_,0=>[]
 |i,k+1=>(i,!ef.contains i)::Cu ef (i+1) k
section
variable{fr:Fr}{l:Ac}
structure MP(P:Program)(ro:Option Nat)(N:Nat)(E:World)(ops:Array Oper)(Q:Exit->Act->World->Prop)(tbl:List (List Nat))(g:Bool)(sp:FP)(pl:List BG)(fr:Fr)(ds:List Deferred)(l:Ac):Prop where
 h:(g=true-> ∀x,x∈sp-> ∀c,c∈x.2->c∈l)->PlanS P ro N E ops Q [] tbl none sp pl fr ds l
theorem CA(plan:List (Nat×Bool))(h:MP P ro N E os.toArray Q (rp os) true [] pl fr ds l)(ha:Attach os plan pl:=by exact GH)(hm:P.follows .mixedOrders=true:=by kernel_rfl)(hv:WJ os plan (rp os)=true:=by kernel_rfl):BR P ro N E (.region k os.toArray true) Q fr ds l:=
 Li plan _ [] hm hv ha (λ_ h=>nomatch h) (h.h λ_ _ h=>nomatch h)
variable{g:Bool}{d:Nat}
theorem Rd(h:C0 N E Q .normal fr ds l):MP P ro N E ops Q tbl g sp [] fr ds l:=⟨λ_=> .nil h⟩
theorem Yu(hk:MP P ro N E ops Q tbl g sp pl ((d,v)::fr) ds l)(h:OpQ P ro N fr [] o v:=by exact zq)(hw:Rb ops fr o.guard=some true:=by rfl)(hd:o.dst=some d:=by rfl)(hb:Nat.blt d N=true:=by rfl):MP P ro N E ops Q tbl g sp ((i,true,o)::pl) fr ds l:=⟨λhs=>aB h hw hd hb (hk.h hs)⟩
theorem dX(hk:MP P ro N E ops Q tbl g ((i,l)::sp) pl ((d,v)::fr) ds l)(h:OpQ P ro N fr l o v:=by exact zq)(hw:o.guard=none:=by rfl)(hd:o.dst=some d:=by rfl)(hb:Nat.blt d N=true:=by rfl):MP P ro N E ops Q tbl g sp ((i,true,o)::pl) fr ds l:=
 ⟨λhs=>Gp h (λ_ h=>h) hw hd hb (hk.h λhg x hx=>by rcases At.1 hx with rfl|hx;exact λ_ h=>h;exact hs hg x hx)⟩
theorem mqa{at_:Array TypeId}{aft:Array Edge}(hk:MP P ro N E ops Q tbl g ((i,l)::sp) pl ((d,v)::fr) ds l)(hx:ev fr x=some (.func (.func f) #[] #[]):=by rfl)(hy:Sd fr xs=some vs:=by rfl)(c:EN P f:=by infer_instance)(q:QF P f vs l v:=by infer_instance)(hb:Nat.blt d N=true:=by rfl):MP P ro N E ops Q tbl g sp ((i,true,⟨some d,.call {callee:= .value x,args:=xs.toArray,argTypes:=at_},ty,pos,aft,none⟩)::pl) fr ds l:=
 dX hk (AL hx hy q.out) rfl rfl hb
theorem LJ(h:OpE P ro N fr l o K)(hk: ∀v l',K v l'->MP P ro N E ops Q tbl false sp pl ((d,v)::fr) ds l')(hw:o.guard=none:=by rfl)(hd:o.dst=some d:=by rfl)(hb:Nat.blt d N=true:=by rfl)(ha:(sp.map Prod.fst).all (λq=>FD tbl i q)=true:=by kernel_rfl):MP P ro N E ops Q tbl g sp ((i,false,o)::pl) fr ds l:=
 ⟨λhs=>G9 h hw hd hb (λ_ _ _ _ h=>nomatch h) (λ_ _ _ x hx hn=>Dh ha hx hn) λv l' k=>(hk v l' k).h λh=>by cases h⟩
theorem lr(hk:MP P ro N E ops Q tbl false sp pl fr ds l2)(h:OpE P ro N fr l o (λv' l'=>v'=undef/\l'=l2):=by exact zst)(hw:o.guard=none:=by rfl)(hd:o.dst=none:=by rfl)(ha:(sp.map Prod.fst).all (λq=>FD tbl i q)=true:=by kernel_rfl):MP P ro N E ops Q tbl g sp ((i,false,o)::pl) fr ds l:=
 ⟨λhs=>Hy h hw hd (λ_ _ _ _ h=>nomatch h) (λ_ _ _ x hx hn=>Dh ha hx hn) λv l' k=>by rw[k.2];exact hk.h λh=>by cases h⟩
theorem Ij(h:OpE P ro N fr l o K)(hl: ∀v l',K v l'-> ∀c,c∈l->c∈l')(hk: ∀v l',K v l'->MP P ro N E ops Q tbl g sp pl ((d,v)::fr) ds l')(hw:o.guard=none:=by rfl)(hd:o.dst=some d:=by rfl)(hb:Nat.blt d N=true:=by rfl)(hg:g=true:=by rfl):MP P ro N E ops Q tbl g sp ((i,false,o)::pl) fr ds l:=
 ⟨λhs=>G9 h hw hd hb (λ_ _ _ _ h=>nomatch h) (λv l' k x hx _ c hc=>hl v l' k c (hs hg x hx c hc)) λv l' k=>(hk v l' k).h λh x hx c hc=>hl v l' k c (hs h x hx c hc)⟩
theorem qr{fr:Fr}{l l0:Ac}{y:Value}(hr:fn.results=rs.toArray:=by rfl)(h:ResS P fr l rs vs:=by exact Ba)(hk:Keep l l0:=by exact zKp)(hx:JH vs=y:=by exact zLf):C0 N E (bodyPostM Fence.wide 0 P fn (RK E λv l'=>v=y/\l'=l0)) .ret fr [] l:=AU [] l hr .refl h hk ⟨hx,rfl⟩
theorem CE(k:H)(h:Bx H->G:=by(intro k;(repeat(first|refine Rd ?_|(show MP _ _ _ _ _ _ _ _ _ ((_,true,⟨_,.load _ _,_,_,_,_⟩)::_) _ _ _;refine dX ?_)|(show MP _ _ _ _ _ _ _ _ _ ((_,true,⟨_,.call _,_,_,_,_⟩)::_) _ _ _;first|refine mqa ?_|refine Yu ?_|refine dX ?_)|(show MP _ _ _ _ _ _ _ _ _ ((_,true,_)::_) _ _ _;first|refine Yu ?_|refine dX ?_)|(show MP _ _ _ _ _ _ _ _ _ ((_,false,_)::_) _ _ _;refine lr ?_)));exact k.h)):G:=h ⟨k⟩
def xn(P:Program)(ro:Option Nat)(c:Code)(Q:Exit->Act->World->Prop)(m:Nat):Act->World->Prop:=λa W=>Code.roundsIn (Fw ro) 0 P c Q m a W
theorem Ie(m:Nat)(h:BR P ro N E c (Exit.then (xn P ro c Q m) Q) fr ds l):BR P ro N E (.loop c) Q fr ds l:=⟨λa W hf hds hs=>wpIn_loop_rounds (m+1) (h.run a W hf hds hs)⟩
theorem E9(h:BR P ro N E c (Exit.then (xn P ro c Q m) Q) fr ds l):C0 N E (Exit.then (xn P ro c Q (m+1)) Q) .normal fr ds l:=⟨λa W hf hds hs=>h.run a W hf hds hs⟩
end
section
variable{fr:Fr}{l:Ac}{d:Nat}
theorem AS(h:OpE P ro N fr l o K)(hk: ∀v l',K v l'->DA P ro N E ops Q A3 ((d,v)::fr) ds l')(hw:o.guard=none:=by rfl)(hd:o.dst=some d:=by rfl)(hb:Nat.blt d N=true:=by rfl):DA P ro N E ops Q (o::A3) fr ds l:=jS h hw hd hb hk
theorem Bh(h:OpQ P ro N fr l o v)(hk:DA P ro N E ops Q A3 ((d,v)::fr) ds l)(hw:o.guard=none:=by rfl)(hd:o.dst=some d:=by rfl)(hb:Nat.blt d N=true:=by rfl):DA P ro N E ops Q (o::A3) fr ds l:=uS h hw hd hb hk
theorem Bb(hp:Keep l l')(hk:K (JH vs) l')(hr:fn.results=rs.toArray:=by rfl)(h:ResS P fr l' rs vs:=by exact Ba):C0 N E (bodyPostM Fence.wide 0 P fn (RK E K)) .ret fr [] l:=BE [] hr hp h hk
theorem CT(l2:Ac)(hp:Keep l l2)(p2:Keep l2 l')(hk:K (JH vs) l')(hr:fn.results=rs.toArray:=by rfl)(h:ResS P fr l2 rs vs:=by exact Ba):C0 N E (bodyPostM Fence.wide 0 P fn (RK E K)) .ret fr [] l:=AU [] l2 hr hp h p2 hk
theorem E3(h:p:=by(refine Aj ?_;first|exact Bb .refl ⟨rfl,rfl⟩|exact Bb (.drop .refl) ⟨rfl,rfl⟩|exact Bb (.drop (.drop .refl)) ⟨rfl,rfl⟩)):p:=h
theorem AN{f:FuncId}{args:Ap}(hf:P.funcs[f]?=some fn)(hn:fn.ntmps=N)(h: ∀E,BR P none N E c (bodyPostM Fence.wide 0 P fn (RK E K)) fr [] l)(hb:fn.body=some c:=by rfl)(ha:WD 0 args=fr:=by(simp only[WD];rfl))(hl:Nat.ble args.length fn.ntmps=true:=by rfl):Fn P f args l K:=Tg hf hb hl λE=>by rw[ha,hn];exact h E
theorem zPl{a b:List (Nat×Bool)}(h:a=b:=by(simp only[Cu,List.contains_cons,List.contains_nil,Nat.reduceBEq,Nat.reduceAdd,Bool.or_false,Bool.or_true,Mh,Bool.true_or,Bool.not_true,Hp];rfl)):a=b:=h
theorem Cm{plan:List (Nat×Bool)}(ef:List Nat)(n:Nat)(R:Ac)(h:PlanS P ro N E os.toArray Q R (rp os) none [] pl fr ds l)(hR: ∀c,c∈R->c∈l:=by exact UX)(hp:Cu ef 0 n=plan:=by exact zPl)(ha:Attach os plan pl:=by exact GH)(hm:P.follows .mixedOrders=true:=by kernel_rfl)(hv:WJ os plan (rp os)=true:=by kernel_rfl):BR P ro N E (.region k os.toArray true) Q fr ds l:=Li plan _ R hm hv ha hR h
end
set_option maxRecDepth 20000
theorem GT{fr:Fr}{d:Option Nat}{aft:Array Edge}{t:Nat}{cs:Ap}{xs:List (Nat×Operand)}{ps:List (Nat×Value)}(hx:aC fr xs=some ps)[c:ZV P t zs][ca:AT P t n e k](Ps:Instr.fill (λi=>some (i*k,k)) (toArray zs) ps=some (toArray cs)):OpQ P ro N fr R ⟨d,.build t (toArray xs),ty,pos,aft,g⟩ (.agg (toArray cs)):=BN rfl λρ l hρ _=>by
 obtain⟨i,zv,h1,h2,h3⟩:=Ke c.out;obtain⟨Hv,k1,k2,k3⟩:=MD ca.out;simp only[execOp,AB,Instr.build,zeroValue,Dj,hρ.parts hx];rw[<-AB,J3 h1,h2];simp only[Bn];rw[E1 k1];show sl P (sizeOf e>>=_) l _;rw[AB,Hx k2];have hz:zv.cells=toArray zs:=by rw[<-h3]
 simp only[k3];rw[hz,Ps];exact⟨rfl,rfl⟩
abbrev z8:Ap:=[.int .u64 0,.int .u64 0,.int .u64 0,.int .u64 0,.int .u64 0,.int .u64 0,.int .u64 0,.int .u64 0]
def dY(n:Nat):Ap:=replicate (n*8) (.int .u64 0)
theorem lu(n:Nat):dY n=(replicate n z8).flatten:=by
 unfold dY
 induction n with
 |zero=>rfl
 |succ n ih=>rw[BL,Cy,<-ih,show(n+1)*8=8+n*8 by omega,<-Jy];rfl
theorem rq(h:k<n):Da (toArray (dY n)) (k*8) z8=toArray (dY n):=by
 apply DI;intro j;have US:(toArray (dY n)).size=n*8:=by simp[dY]
 rw[Ty,US];by_cases hj:k*8<=j/\j<k*8+8
 ·rw[Ad ⟨hj.1,by simp;omega,Af⟩];obtain⟨i,hi,rfl⟩: ∃i,i<8/\j=k*8+i:=⟨j-k*8,Af,Af⟩
  rw[CJ];have h1:(toArray (dY n))[k*8+i]?=some (.int .u64 0):=by unfold dY;rw[AE,ED,Ad Af]
  rw[h1];rcases i with _|_|_|_|_|_|_|_|i<;>first|rfl|omega
 ·rw[Ab λh=>hj ⟨h.1,by have:=h.2.1;simp at this;omega⟩]
abbrev Pz(b gb n:Nat):Bd:=(b,.cells (toArray [.slice (some ⟨gb,0,none⟩) n n]) 253 (0,0))
abbrev zX(gb n:Nat):Bd:=(gb,.cells (toArray (dY n)) 254 (0,0))
def IsM(b n:Nat)(lq:Ac):Prop:=1<=n/\n<=64/\ ∃gb,lq=[Pz b gb n,zX gb n]
theorem ly(n:Nat)(h1:1<=n)(h2:n<=64)(l:Ac):Fn prog 126 [.int .i64 (n:Nat)] l λv l'=> ∃b,v= .tuple #[.pointer (some ⟨b,0,none⟩),.int .i64 0]/\ ∃lq,IsM b n lq/\l'=lq++l:=by refine AN func126 ntmps126 λE=>?_;refine Aj ?_;refine AS (Gg (n:=n) (kk:=8) (xs:=dY n) rfl rfl Af Af AX (lu n)) ?_;rintro _ _ ⟨gb,Sa,rfl,rfl⟩;refine AQ λb=>?_;exact Bb .refl ⟨_,rfl,_,⟨h1,h2,gb,rfl⟩,rfl⟩
abbrev BS(B:Nat)(x:Int):Bd:=(B,.cells (toArray [.int .i64 x]) 3 (0,0))
abbrev XM(B b:Nat):Bd:=(B,.cells (toArray [.pointer (some ⟨b,0,none⟩)]) 153 (0,0))
theorem Yv(b f:Nat)(l:Ac):Fn prog 183 [.pointer (some ⟨b,0,none⟩),.int .i64 (f:Nat)] l λv l'=> ∃B1 B2,v= .func (.func 242) #[] #[.pointer (some ⟨B1,0,none⟩),.pointer (some ⟨B2,0,none⟩)]/\l'=BS B1 f::XM B2 b::l:=by refine AN func183 ntmps183 λE=>?_;refine Aj ?_;refine AS (Ez rfl rfl) ?_;rintro _ _ ⟨B2,_,rfl,rfl⟩;refine AS (Ez rfl rfl) ?_;rintro _ _ ⟨B1,_,rfl,rfl⟩;refine Aj ?_;exact Bb .refl ⟨_,_,rfl,rfl⟩
theorem PM(h:f<=k)(hk:k<n):(List.range' f (n-f)).take (k+1-f)=(List.range' f (n-f)).take (k-f)++[k]:=by rw[show k+1-f=(k-f)+1 by omega,Ch,List.getElem?_range' Af];simp;omega
theorem VJ(B1 B2 b gb n f:Nat)(hf:f<n)(hn:n<=64):FC prog 242 [.pointer (some ⟨B1,0,none⟩),.pointer (some ⟨B2,0,none⟩)] (λx:Nat=>[.int .i64 (x:Nat),.pointer (some ⟨gb,x*8,none⟩)]) (λxs=>xs=List.range' f (n-f)) (λpre=>pre<+:List.range' f (n-f))
 (λ_ l=>BS B1 f∈l/\XM B2 b∈l/\Pz b gb n∈l):=by
 refine⟨λr I Ix G0 Cb hY l G hG h0=>?_⟩;obtain⟨n1,n2,n3⟩:=Cb _ _ G hG h0;refine AN func242 ntmps242 λE=>?_;refine Aj ?_;refine CN (α:=Nat×Ac) (λx=>[(0,.func (.yield r) #[] #[]),(2,.pointer (some ⟨B2,0,none⟩)),(4,.int .i64 x.1)]) (λx=>x.2++G) (λx=>f<=x.1/\x.1<=n/\I ((List.range' f (n-f)).take (x.1-f)) x.2) (λx=>n-x.1) (f,l) ⟨Bf _,by simp only;omega,by simp only;rw[DV];exact h0⟩ ⟨rfl,rfl,rfl,trivial⟩ .refl ?_;clear n1 n2 n3;rintro⟨k,l⟩ ⟨ka,LA,hI⟩;simp only at ka LA hI⊢;obtain⟨n1,n2,n3⟩:=Cb _ _ G hG hI;by_cases C9:k<n
 ·refine Aj ?_;have hy:=hY ((List.range' f (n-f)).take (k-f)) k l G hG hI (by rw[<-PM ka C9];exact BK _ _);refine AS (C5 rfl rfl hy) ?_;rintro v l' ⟨l1,rfl,⟨rfl,LB⟩|⟨rfl,hx⟩⟩
  ·refine Aj ?_;exact BO (k+1,l1) ⟨by simp only;omega,by simp only;omega,by simp only;rw[PM ka C9];exact LB⟩ (by simp only;omega) ⟨rfl,rfl,rfl,trivial⟩ .refl
  ·refine Aj ?_;exact BE [] rfl .refl (by exact Ba) ⟨l1,rfl,.inr ⟨_,by rw[<-PM ka C9];exact BK _ _,hx⟩⟩
 ·obtain rfl:k=n:=by omega
  rw[BD (by simp)] at hI;refine Aj ?_;exact Bb .refl ⟨l,rfl,.inl ⟨_,rfl,hI⟩⟩
theorem gQ(b n f k:Nat)(lq:Ac)(hq:IsM b n lq)(hf:f<n)(hk:k<=n-f)(G:Ac):Fn prog 138 [.pointer (some ⟨b,0,none⟩),.int .i64 (f:Nat),.int .i64 (k:Nat)] (lq++G) λv l'=>v= .int .i64 0/\ ∃X,l'=lq++(X++G):=by
 obtain⟨h1,h2,gb,rfl⟩:=hq;simp only[Ae,Ag];refine AN func138 ntmps138 λE=>?_;refine Aj ?_;refine AS (Ez rfl rfl) ?_;rintro _ _ ⟨b4,_,rfl,rfl⟩;refine AS (Ez rfl rfl) ?_;rintro _ _ ⟨b5,_,rfl,rfl⟩;refine Aj ?_;refine Cm [] 27 _ ?_ (hR:=(λ_ h=>h));refine BM ?_;refine Aj ?_;refine AS (Az rfl rfl (Yv b f _)) ?_;rintro _ _ ⟨B1,B2,rfl,rfl⟩;refine Aj ?_;refine Dg (α:=Nat) (ps:=[42,43]) (lb:=[.pointer (some ⟨B1,0,none⟩),.pointer (some ⟨B2,0,none⟩)]) rfl (VJ B1 B2 b gb n f hf h2) (λ_=>rfl) rfl
  (λpre l=>l=[BS B1 f,XM B2 b,BS b5 k,BS b4 f,Pz b gb n,zX gb n])
  (λc pre l=>c= .exit 1/\l=[BS B1 f,XM B2 b,BS b5 k,BS b4 f,Pz b gb n,zX gb n])
  _ G (λpre l2 X2 hX h=>by rw[h];exact⟨Ai _ (by exact BW),Ai _ (by exact BW),Ai _ (by exact BW)⟩) (by exact AW) rfl ?_ ?_ ?_
 ·rintro E r0 FU pre x l' T ⟨fn,tmps,D,rfl⟩ hT rfl Dw;have hx:f<=x/\x<n:=by
   have h3:x∈List.range' f (n-f):=Dw.subset (by simp);rw[LN] at h3;omega
  simp only[DX,Ae,Ag];refine Aj ?_;refine CK (by exact DY) ?_;refine Aj ?_;by_cases hb:(x:Int)-f>=k
  ·refine Aj ?_;refine E5 [BS B1 f,XM B2 b,BS b5 k,BS b4 f,Pz b gb n,zX gb n] (by exact AW) ⟨rfl,rfl⟩
  ·refine Aj ?_;refine Bh (GT (zs:=z8) (cs:=z8) rfl rfl) ?_;refine Abv ?_;apply M9
   ·exact EH (cs:=toArray (dY n)) (n:=8) rfl rfl rfl (by simp[Value.oneCell']) (by exact DY) (by simp[dY];omega)
   ·rfl
   ·rfl
   rintro _ _ ⟨rfl,rfl⟩;rw[show(toArray z8).toList=z8 from rfl,rq hx.2];refine Aj ?_;exact Ci _ .refl rfl
 ·rintro D xs l' rfl rfl;simp only[Ae,Ag];refine Aj ?_;exact AU [D] _ rfl (l':=Pz b gb n::zX gb n::G) (by exact AW) (by exact Ba) (by exact AW) ⟨rfl,[],rfl⟩
 ·rintro D c pre l' Dw ⟨rfl,rfl⟩;simp only[Ae,Ag];refine Aj ?_;exact AU [D] _ rfl (l':=Pz b gb n::zX gb n::G) (by exact AW) (by exact Ba) (by exact AW) ⟨rfl,[],rfl⟩
end Go.Proofs.YtlifcingifodfaaGreat
