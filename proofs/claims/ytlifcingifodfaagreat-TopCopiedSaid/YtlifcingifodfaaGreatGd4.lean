/- Laws. -/
import Derived.Test.YtlifcingifodfaaGreatGd3
import Derived.LaidEqlPtr
set_option maxHeartbeats 4000000
set_option linter.all false
set_option linter.unusedSectionVars false
namespace Go.Proofs.YtlifcingifodfaaGreat
open Tryz
open List(replicate)
open List renaming toArray→τ
open Go.RowKit
variable{P:Program}{N n k e f clock b i m:Nat}{ro:Option Nat}{G H p:Prop}{ty t t2 ta tb T kt et tp te:TypeId}{pos:String}{v u:Value}{g:Option (Nat×Bool)}{R l' l2:Ac}{x y z:Operand}{E W:World}{Q:Exit->Act->World->Prop}{ds:List Deferred}{ops:Array Oper}{pl:List BI}{vs zs:Ap}{tbl:List (List Nat)}{sp:F5}{K:Value->Ac->Prop}{α κ:Type}{q:Addr}{ca cb:Array Value}{o:Oper}{os A6:List Oper}{xs:List Operand}{a ks:List (Option IntKind)}{j:TypeInfo}{sw:Sw}{c:Code}{fn:Func}{rs:List ResultVar}
structure Bx(H:Prop):Prop where
 h:H
theorem gzS(k:H)(h:Bx H->G:=by(intro k;((first|(show DC _ _ _ _ _ _ (_::_) _ _ _;first|refine ozq ?_|refine ozs ?_|refine ozs0 ?_|refine ozt ?_|refine ozf ?_|refine ozn ?_)|refine ey ?_|refine Ou ?_|refine QA ?_|refine VW ?_|refine MM rfl ?_|refine MN rfl ?_|refine Qz ?_|refine Xf ?_|refine TC ?_|refine QC ?_|refine LY ?_|refine Ju ?_|refine Nj rfl ?_|refine ez ?_|refine Ni ?_|refine LZ ?_|refine Xg ?_|refine SP ?_|refine SQ ?_|refine L6 ?_|refine p_scope_exit ?_|refine eD ?_|refine TH rfl Af ?_|refine TI rfl Af ?_));exact k.h)):G:=h ⟨k⟩
theorem bJ(k:H)(h:Bx H->G:=by(intro k;((first|(show DC _ _ _ _ _ _ (_::_) _ _ _;first|refine ozq ?_|refine ozs ?_|refine ozs0 ?_|refine ozt ?_|refine ozf ?_|refine yG rfl rfl rfl rfl rfl rfl ?_|refine ozn ?_)|refine ey ?_|refine Ou ?_|refine QA ?_|refine VW ?_|refine MM rfl ?_|refine MN rfl ?_|refine Qz ?_|refine Xf ?_|refine TC ?_|refine QC ?_|refine LY ?_|refine Ju ?_|refine Nj rfl ?_|refine ez ?_|refine Ni ?_|refine LZ ?_|refine Xg ?_|refine SP ?_|refine SQ ?_|refine L6 ?_|refine p_scope_exit ?_|refine eD ?_|refine TH rfl Af ?_|refine TI rfl Af ?_));exact k.h)):G:=h ⟨k⟩
theorem gz(k:H)(h:Bx H->G:=by(intro k;(repeat refine gzS ?_);exact k.h)):G:=h ⟨k⟩
theorem Aj(k:H)(h:Bx H->G:=by(intro k;(repeat refine bJ ?_);exact k.h)):G:=h ⟨k⟩
theorem Acz(k:H)(h:Bx H->G:=by(intro k;(repeat(first|(show DC _ _ _ _ _ _ (_::_) _ _ _;first|refine ozq ?_|refine ozs ?_|refine ozs0 ?_|refine ozt ?_|refine ozf ?_|refine yG rfl rfl rfl rfl rfl rfl ?_)|refine ey ?_|refine Ou ?_|refine QA ?_|refine VW ?_|refine MM rfl ?_|refine MN rfl ?_|refine Qz ?_|refine Xf ?_|refine TC ?_|refine QC ?_|refine LY ?_|refine Ju ?_|refine Nj rfl ?_|refine ez ?_|refine Ni ?_|refine LZ ?_|refine Xg ?_|refine SP ?_|refine SQ ?_|refine L6 ?_|refine p_scope_exit ?_|refine eD ?_|refine TH rfl Af ?_|refine TI rfl Af ?_));exact k.h)):G:=h ⟨k⟩
theorem Iy{H:Nat->Prop}(k: ∀b,H b)(h:Bx (∀b,H b)->G:=by(intro k;(repeat refine gzS ?_);(first|refine kT (EA rfl rfl) rfl rfl rfl ?_|refine kT (Cw rfl) rfl rfl rfl ?_|refine kT e_alloc rfl rfl rfl ?_);rintro _ _ ⟨b,_,rfl,rfl⟩;(repeat refine gzS ?_);exact k.h b)):G:=h ⟨k⟩
theorem AR{H:Nat->Prop}(k: ∀b,H b)(h:Bx (∀b,H b)->G:=by(intro k;(repeat refine bJ ?_);(first|refine kT (EA rfl rfl) rfl rfl rfl ?_|refine kT (Cw rfl) rfl rfl rfl ?_|refine kT e_alloc rfl rfl rfl ?_);rintro _ _ ⟨b,_,rfl,rfl⟩;(repeat refine bJ ?_);exact k.h b)):G:=h ⟨k⟩
theorem pz(k:H)(h:Bx H->G:=by(intro k;(repeat(first|refine br ?_|(show PlanS _ _ _ _ _ _ _ _ _ _ ((_,true,_)::_) _ _ _;first|refine qX ?_|refine pzt ?_|refine pzf ?_)|(show PlanS _ _ _ _ _ _ _ _ none [] ((_,_,_)::_) _ _ _;first|refine pzs ?_|refine pzs0 ?_)|(show PlanS _ _ _ _ _ _ _ _ _ _ ((_,_,_)::_) _ _ _;first|refine pzt ?_|refine pzf ?_)|(show PlanS _ _ _ _ _ _ _ _ none [] ((_,false,_)::_) _ _ _;first|refine wt ?_|refine pze ?_)));exact k.h)):G:=h ⟨k⟩
theorem BJ(k:H)(h:Bx H->G:=by(intro k;(repeat(first|refine br ?_|(show PlanS _ _ _ _ _ _ _ _ _ _ ((_,true,_)::_) _ _ _;first|refine qX ?_|refine pzt ?_|refine pzf ?_)|(show PlanS _ _ _ _ _ _ _ _ none [] ((_,_,_)::_) _ _ _;first|refine pzs ?_|refine pzs0 ?_|refine pl_hu (Cm (by(repeat(first|with_reducible apply EP|with_reducible apply Ic|with_reducible apply List.Sublist.cons_cons|with_reducible apply List.Sublist.cons)))) rfl rfl rfl rfl rfl rfl ?_)|(show PlanS _ _ _ _ _ _ _ _ _ _ ((_,_,_)::_) _ _ _;first|refine pzt ?_|refine pzf ?_)|(show PlanS _ _ _ _ _ _ _ _ none [] ((_,false,_)::_) _ _ _;first|refine wt ?_|refine pze ?_)));exact k.h)):G:=h ⟨k⟩
theorem YY(k:H)(h:Bx H->G:=by(intro k;((first|refine br ?_|(show PlanS _ _ _ _ _ _ _ _ _ _ ((_,true,_)::_) _ _ _;first|refine qX ?_|refine pzt ?_|refine pzf ?_)|(show PlanS _ _ _ _ _ _ _ _ none [] ((_,_,_)::_) _ _ _;first|refine pzs ?_|refine pzs0 ?_|refine pl_hu (Cm (by(repeat(first|with_reducible apply EP|with_reducible apply Ic|with_reducible apply List.Sublist.cons_cons|with_reducible apply List.Sublist.cons)))) rfl rfl rfl rfl rfl rfl ?_)|(show PlanS _ _ _ _ _ _ _ _ _ _ ((_,_,_)::_) _ _ _;first|refine pzt ?_|refine pzf ?_)|(show PlanS _ _ _ _ _ _ _ _ none [] ((_,false,_)::_) _ _ _;first|refine wt ?_|refine pze ?_)));exact k.h)):G:=h ⟨k⟩
theorem Ca(h:p:=by(((repeat(first|with_reducible apply Al|with_reducible apply An));try with_reducible assumption))):p:=h
theorem D1(h:p:=by((repeat(first|apply Upd.here|apply Upd.there)))):p:=h
theorem MV(h:p:=by((repeat(first|with_reducible apply EP|with_reducible apply Ic|with_reducible apply List.Sublist.cons_cons|with_reducible apply List.Sublist.cons)))):p:=h
theorem Ba(h:p:=by((repeat(first|apply ResS.nil|(apply yE;(·rfl))|(apply mf;(·rfl);(·((repeat(first|with_reducible apply Al|with_reducible apply An));try with_reducible assumption));(·rfl))|(apply B0;(·rfl);(·((repeat(first|with_reducible apply Al|with_reducible apply An));try with_reducible assumption));(·(repeat(first|with_reducible apply LSub.done|with_reducible apply LSub.take|with_reducible apply LSub.drop)))))))):p:=h
theorem AY(h:p:=by(((try simp only[Ae,Ag,AK,CZ]);repeat(first|with_reducible apply Keep.refl|(apply Keep.pick;·(repeat(first|apply Pick.here|apply Pick.there)))|apply Keep.drop)))):p:=h
theorem VE(h:p:=by(first|exact DQ rfl (.head _) (by(first|with_reducible assumption|((with_reducible apply Lp);(repeat(first|with_reducible apply LGet.zero|with_reducible apply LGet.succ)))))|exact E1 rfl (.head _) (by(repeat(first|with_reducible apply LSub.done|with_reducible apply LSub.take|with_reducible apply LSub.drop))))):p:=h
theorem GO(h:p:=by((repeat(first|apply Attach.nil|(apply Attach.cons;·rfl))))):p:=h
theorem Vq{l:Ac}(h:l.Sublist l':=by((repeat(first|with_reducible apply EP|with_reducible apply Ic|with_reducible apply List.Sublist.cons_cons|with_reducible apply List.Sublist.cons)))): ∀c,c∈l->c∈l':=λ_ hc=>h.subset hc
def AcA:Option IntKind->Value->Prop
 |some k,v=> ∃a:Int,v= .int k a
 |none,v=> ∃b:Bool,v= .bool b
def AllK:List (Option IntKind)->Ap->Prop
 |[],cs=>cs=[]
 |k::ks,cs=> ∃c r,cs=c::r/\AcA k c/\AllK ks r
theorem AllK.len{x:Ap}(h:AllK a x):x.length=a.length:=by
 induction a generalizing x with
 |nil=>cases h;rfl
 |cons q a ih=>obtain⟨c,r,rfl,h1,h2⟩:=h;simp[ih h2]
def LM(P:Program)(t:TypeId):Bool:=match P.underlying t with
 |some (.struct _)|some (.array _ _)=>true
 |_=>false
def iJ(P:Program):Nat->TypeId->Option (List (Option IntKind))
 |0,_=>none
 |n+1,t=>match P.underlying t with
  |some (.int k)=>some [some k]
  |some .bool=>some [none]
  |some (.struct fs)=>if P.stoodInHeld t then none else
   fs.toList.foldl (λacc f=>acc.bind λl=>(iJ P n f.type).bind λks=>if f.offset=l.length/\f.name≠ "_" /\(P.info? f.type).map (·.size)=some ks.length then some (l++ks) else none) (some [])
  |some (.array len e)=>(iJ P n e).bind λks=>if(P.info? e).map (·.size)=some ks.length then some (replicate len ks).flatten else none
  |_=>none
def I8(P:Program)(t:TypeId)(xs:Ap):Value:=if LM P t then .agg xs.toArray else xs.headD undef
section
variable{f:Value->Sem α}{l:Ac}{Q:α->Ac->Prop}
theorem V6{d:TypeDesc}{HH:TypeInfo}(hu:P.underlying t=some d)(ha:Ov d=true)(hi:P.info? t=some HH)(cs:Ap)(off:Nat):
 sl P (part t cs.toArray off>>=f) l Q<->sl P (f (.agg ((cs.drop off).take HH.size).toArray)) l Q:=by
 unfold part;rw[AE,MO hu,ha];simp only[CV];rw[Fa hi];have e:cs.toArray.extract off (off+HH.size)=((cs.drop off).take HH.size).toArray:=by apply BQ.1;rw[Gk,Co];simp
 rw[e];exact DK
theorem V7{d:TypeDesc}(hu:P.underlying t=some d)(ha:Ov d=false)(cs:Ap)(off:Nat)(hv:cs[off]?=some v):
 sl P (part t cs.toArray off>>=f) l Q<->sl P (f v) l Q:=by
 unfold part;rw[AE,MO hu,ha];simp only[Bn,C0,AF,hv];exact DK
def OE:Value->Value->Bool
 | .int _ a,.int _ b=>a==b
 | .bool a,.bool b=>a==b
 |_,_=>false
def BU:Ap->Ap->Bool
 |x::xs,y::ys=>OE x y&&BU xs ys
 |_,_=>true
theorem OF: ∀(a b c d:Ap),a.length=b.length->BU (a++c) (b++d)=(BU a b&&BU c d)
 |[],[],c,d,_=>by simp[BU]
 |x::a,y::b,c,d,h=>by simp only[Ae,BU,OF a b c d (by simpa using h),Bool.and_assoc]
theorem Gq: ∀{ks:List (Option IntKind)} {a:Ap},AllK ks a->BU a a=true
 |[],a,h=>by cases h;rfl
 |none::ks,a,h=>by obtain⟨c,r,rfl,⟨b,rfl⟩,h2⟩:=h;simp[BU,OE,Gq h2]
 |some k::ks,a,h=>by obtain⟨c,r,rfl,⟨b,rfl⟩,h2⟩:=h;simp[BU,OE,Gq h2]
theorem bK{β:Type}(r:β->Bool)(body:β->Option Bool×Unit->Sem (ForInStep (Option Bool×Unit)))(k:Option Bool×Unit->Sem Bool)(k1:k (none,())=pure true)(k2:k (some false,())=pure false){Q:Bool->Ac->Prop}{l:Ac}: ∀(xs:List β),(∀x∈xs,∀(Q:ForInStep (Option Bool×Unit)->Ac->Prop) l,sl P (body x (none,())) l Q<->Q (if r x then .yield (none,()) else .done (some false,())) l)->
 (sl P (forIn xs ((none:Option Bool),()) body>>=k) l Q<->Q (xs.all r) l)
 |[],_=>by simp only[List.forIn_nil,AE,Bq,List.all_nil,k1]
 |x::xs,h=>by
  rw[AE,List.forIn_cons,AE,h x Al,IA];cases hr:r x with
  |true=>simp only[CV,BA];rw[<-AE];exact bK r body k k1 k2 xs λy hy=>h y (An _ hy)
  |false=>simp only[Bn,C0,Bl,Bq,k2]
theorem AllK.take_left{b:List (Option IntKind)}{x:Ap}(h:AllK (a++b) x):AllK a (x.take a.length):=by
 induction a generalizing x with
 |nil=>simp[AllK]
 |cons k a ih=>obtain⟨c,r,rfl,h1,h2⟩:=h;exact⟨c,r.take a.length,by simp,h1,ih h2⟩
theorem AllK.drop_left{b:List (Option IntKind)}{x:Ap}(h:AllK (a++b) x):AllK b (x.drop a.length):=by
 induction a generalizing x with
 |nil=>simpa using h
 |cons k a ih=>obtain⟨c,r,rfl,h1,h2⟩:=h;simpa using ih h2
theorem PM(xs ys:Ap)(m:Nat)(h:xs.length=ys.length):BU xs ys=(BU (xs.take m) (ys.take m)&&BU (xs.drop m) (ys.drop m)):=by rw[<-OF _ _ _ _ (by simp[h]),Cs,Cs]
def eZ(P:Program)(t:TypeId):Nat:=((P.info? t).map (·.size)).getD 0
def SW(P:Program)(xs ys:Ap)(f:Field):Bool:=BU ((xs.drop f.offset).take (eZ P f.type)) ((ys.drop f.offset).take (eZ P f.type))
structure sA(P:Program)(n:Nat)(xs ys:Ap)(f:Field)(kf:List (Option IntKind)):Prop where
 kinds:iJ P n f.type=some kf
 named:f.name≠ "_"
 size:(P.info? f.type).map (·.size)=some kf.length
 x:AllK kf ((xs.drop f.offset).take kf.length)
 y:AllK kf ((ys.drop f.offset).take kf.length)
theorem TS(n:Nat)(xs ys:Ap): ∀(fs:List Field) (l ks:List (Option IntKind)),
 fs.foldl (λacc f=>acc.bind λl=>(iJ P n f.type).bind λks=>if f.offset=l.length/\f.name≠ "_" /\(P.info? f.type).map (·.size)=some ks.length then some (l++ks) else none) (some l)=some ks->
 ∃A6,ks=l++A6/\(AllK ks xs->AllK ks ys->(∀f∈fs,∃kf,sA P n xs ys f kf)/\BU (xs.drop l.length) (ys.drop l.length)=fs.all (SW P xs ys)):=by
 intro fs
 induction fs with
 |nil=>intro l ks h;simp only[GJ,Jm] at h;subst h;refine⟨[],by simp,λhx hy=>⟨by simp,?_⟩⟩;rw[DL (by rw[hx.len];exact Bf _),DL (by rw[hy.len];exact Bf _)];rfl
 |cons f fs ih=>
  intro l ks h;simp only[Ev,H9] at h;cases hk:iJ P n f.type with
  |none=>rw[hk] at h;simp only[Option.bind_none] at h;rw[Ng] at h;cases h
  |some kf=>
   rw[hk] at h;simp only[H9] at h;by_cases hc:f.offset=l.length/\f.name≠ "_" /\(P.info? f.type).map (·.size)=some kf.length
   ·rw[Ad hc] at h;obtain⟨A6,hr,hrest⟩:=ih _ _ h;refine⟨kf++A6,by rw[hr,Am],λhx hy=>?_⟩;obtain⟨g1,g2⟩:=hrest hx hy;have kM:AllK kf ((xs.drop f.offset).take kf.length):=by rw[hc.1];rw[hr,Am] at hx;exact hx.drop_left.take_left
    have qT:AllK kf ((ys.drop f.offset).take kf.length):=by rw[hc.1];rw[hr,Am] at hy;exact hy.drop_left.take_left
    refine⟨λg hg=>?_,?_⟩
    ·rcases Au.1 hg with rfl|hg
     ·exact⟨kf,hk,hc.2.1,hc.2.2,kM,qT⟩
     ·exact g1 g hg
    ·rw[IA,<-g2,PM _ _ kf.length (by simp[hx.len,hy.len])];simp only[SW,eZ,hc.2.2,Dl,hc.1,Lk,Ah]
   ·rw[Ab hc,Ng] at h;cases h
theorem MW{f:Value->Sem α}{l:Ac}{Q:α->Ac->Prop}{kf:List (Option IntKind)}(h:iJ P n t=some kf)(hs:(P.info? t).map (·.size)=some kf.length)(cs:Ap)(off:Nat)(hx:AllK kf ((cs.drop off).take kf.length)):
 sl P (part t cs.toArray off>>=f) l Q<->sl P (f (I8 P t ((cs.drop off).take kf.length))) l Q:=by
 have hi: ∃HH,P.info? t=some HH/\HH.size=kf.length:=by
  cases hh:P.info? t with
  |none=>rw[hh] at hs;cases hs
  |some HH=>rw[hh] at hs;exact⟨HH,rfl,by simpa using hs⟩
 obtain⟨HH,xN,hi2⟩:=hi;have Abv: ∀{d:TypeDesc} {k:Option IntKind},P.underlying t=some d->Ov d=false->LM P t=false->kf=[k]->(sl P (part t cs.toArray off>>=f) l Q<->sl P (f (I8 P t ((cs.drop off).take kf.length))) l Q):=by
  intro d k hu ha hb hkf;subst hkf;obtain⟨c,r,e1,_,e2⟩:=hx;have hg:cs[off]?=some c:=by have:=BM (λz=>z[0]?) e1;simpa using this
  rw[V7 hu ha cs off hg];unfold I8;rw[hb,e1];exact DK
 have agg: ∀{d:TypeDesc},P.underlying t=some d->Ov d=true->LM P t=true->(sl P (part t cs.toArray off>>=f) l Q<->sl P (f (I8 P t ((cs.drop off).take kf.length))) l Q):=by intro d hu ha hb;rw[V6 hu ha xN cs off,hi2];unfold I8;rw[hb];exact DK
 cases n with
 |zero=>cases h
 |succ n=>
  unfold iJ at h
  split at h
  ·rename_i k hu;cases h;exact Abv hu rfl (by unfold LM;rw[hu]) rfl
  ·rename_i hu;cases h;exact Abv hu rfl (by unfold LM;rw[hu]) rfl
  ·rename_i fs hu;exact agg hu rfl (by unfold LM;rw[hu])
  ·rename_i len e hu;exact agg hu rfl (by unfold LM;rw[hu])
  ·cases h
theorem YZ(kf:List (Option IntKind)): ∀(len:Nat) (xs ys:Ap),AllK (replicate len kf).flatten xs->AllK (replicate len kf).flatten ys->
 (∀i,i<len->AllK kf ((xs.drop (i*kf.length)).take kf.length)/\AllK kf ((ys.drop (i*kf.length)).take kf.length))/\
   BU xs ys=(List.range' 0 len).all λi=>BU ((xs.drop (i*kf.length)).take kf.length) ((ys.drop (i*kf.length)).take kf.length):=by
 intro len
 induction len with
 |zero=>intro xs ys hx hy;cases hx;cases hy;exact⟨λi hi=>by omega,rfl⟩
 |succ len ih=>
  intro xs ys hx hy;rw[BN,CA] at hx hy;obtain⟨h1,h2⟩:=ih _ _ hx.drop_left hy.drop_left;have sh: ∀i (z:Ap),(z.drop kf.length).drop (i*kf.length)=z.drop ((i+1)*kf.length):=λi z=>by rw[Lk];congr 1;rw[Gj];omega
  refine⟨λi hi=>?_,?_⟩
  ·cases i with
   |zero=>simpa using And.intro hx.take_left hy.take_left
   |succ i=>have:=h1 i Af;rw[sh,sh] at this;exact this
  ·rw[PM _ _ kf.length (by rw[hx.len,hy.len]),h2,List.range'_succ,IA];congr 1
   ·simp
   ·have e:List.range' (0+1) len=(List.range' 0 len).map (· +1):=by simp[List.range'_eq_map_range,Function.comp_def,KY]
    rw[e,List.all_map];congr 1;funext i;simp only[Function.comp,sh]
theorem Xo: ∀(n d:Nat) (t:TypeId) (ks:List (Option IntKind)),iJ P n t=some ks->n<=d-> ∀(xs ys:Ap),AllK ks xs->AllK ks ys-> ∀(Q:Bool->Ac->Prop) (l:Ac),
 (sl P (Op.equalIn d t (I8 P t xs) (I8 P t ys)) l Q<->Q (BU xs ys) l):=by
 intro n
 induction n with
 |zero=>intro d t ks h;cases h
 |succ n ih=>
  intro d t ks h hd xs ys hx hy Q l;obtain⟨d,rfl⟩: ∃e,d=e+1:=⟨d-1,Af⟩
  unfold iJ at h
  split at h
  ·rename_i k hu;cases h;obtain⟨_,_,rfl,⟨a,rfl⟩,rfl⟩:=hx;obtain⟨_,_,rfl,⟨b,rfl⟩,rfl⟩:=hy;simp only[I8,LM,hu,Bn,C0,IL];unfold Op.equalIn;rw[Cg hu];simp[BU,OE,Bq]
  ·rename_i hu;cases h;obtain⟨_,_,rfl,⟨a,rfl⟩,rfl⟩:=hx;obtain⟨_,_,rfl,⟨b,rfl⟩,rfl⟩:=hy;simp only[I8,LM,hu,Bn,C0,IL];unfold Op.equalIn;rw[Cg hu];simp[BU,OE,Bq]
  ·rename_i fs hu;by_cases LF:P.stoodInHeld t=true
   ·rw[Ad LF] at h;cases h
   rw[Ab LF] at h;obtain⟨A6,hr,hrest⟩:=TS n xs ys fs.toList [] ks h;obtain⟨g1,g2⟩:=hrest hx hy;simp only[EW,List.drop_zero] at g2;have qN:LM P t=true:=by unfold LM;rw[hu]
   simp only[I8,qN,CV];unfold Op.equalIn;rw[Cg hu];simp only;rw[P2,Bool.eq_false_iff.2 LF];simp only[Bn,C0];rw[g2,<-Array.forIn_toList];refine bK (SW P xs ys) _ _ rfl rfl fs.toList λf hf Q l=>?_;obtain⟨kf,ok⟩:=g1 f hf;rw[Ad ok.named,MW ok.kinds ok.size xs f.offset ok.x,MW ok.kinds ok.size ys f.offset ok.y,AE,ih d f.type kf ok.kinds Af _ _ ok.x ok.y];simp only[SW,eZ,ok.size,Dl];cases BU (List.take kf.length (List.drop f.offset xs)) (List.take kf.length (List.drop f.offset ys))<;>simp[Bq]
  ·rename_i len e hu;obtain⟨kf,hk,LH⟩:=I3.1 h;by_cases hs:(P.info? e).map (·.size)=some kf.length
   ·rw[Ad hs] at LH;cases LH;obtain⟨g1,g2⟩:=YZ kf len xs ys hx hy;have qN:LM P t=true:=by unfold LM;rw[hu]
    have hi: ∃HH,P.info? e=some HH/\HH.size=kf.length:=by
     cases hh:P.info? e with
     |none=>rw[hh] at hs;cases hs
     |some HH=>rw[hh] at hs;exact⟨HH,rfl,by simpa using hs⟩
    obtain⟨HH,xN,hi2⟩:=hi;simp only[I8,qN,CV];unfold Op.equalIn;rw[Cg hu];simp only;rw[Fa xN,hi2,g2];rw[Hz];have Vk:Std.Legacy.Range.size [:len]=len:=by simp[Std.Legacy.Range.size]
    rw[Vk];refine bK (λi=>BU ((xs.drop (i*kf.length)).take kf.length) ((ys.drop (i*kf.length)).take kf.length)) _ _ rfl rfl (List.range' 0 len) λi hf Q l=>?_;have xO:i<len:=by have:=LV.1 hf;omega
    obtain⟨o1,o2⟩:=g1 i xO;rw[MW hk hs xs _ o1,MW hk hs ys _ o2,AE,ih d e kf hk Af _ _ o1 o2];cases BU (List.take kf.length (List.drop (i*kf.length) xs)) (List.take kf.length (List.drop (i*kf.length) ys))<;>simp[Bq]
   ·rw[Ab hs] at LH;cases LH
  ·cases h
def yH(P:Program)(t:TypeId):Option (List (Option IntKind)):=if LM P t=true/\P.eqGuardType P.depth t=false then iJ P 20 t else none
class EQ(P:Program)(t:Nat)(ks:outParam (List (Option IntKind))):Prop where out:yH P t=some ks
theorem OG(h:yH P t=some ks):LM P t=true/\P.eqGuardType P.depth t=false/\iJ P 20 t=some ks:=by
 unfold yH at h
 split at h
 ·rename_i hc;exact⟨hc.1,hc.2,h⟩
 ·cases h
variable{fr:Fr}{d:Option Nat}{aft:Array Edge}{xs ys:Ap}
theorem TT{op:BinOp}{xa ya:Array Value}{f:Unit->Sem α}{l:Ac}{Q:α->Ac->Prop}(hg:P.eqGuardType P.depth t=false):sl P (eqGuard op t x y (.agg xa) (.agg ya)>>=f) l Q<->sl P (f ()) l Q:=by
 have key: ∀bb:Bool,sl P ((if(!bb)=true then(pure ():Sem Unit) else do
  let p<-program
  let q<-program
  if(!p.eqGuardType q.depth t)=true then pure () else do
   let r<-Op.eqGuardIn Op.maxDepth t (.agg xa) (.agg ya)
   if r=true then unsupported (Unsupported.noEntry "binop/eql: two nil values of an interface type with methods, in a part of a struct or an array") else pure ())>>=f) l Q<->sl P (f ()) l Q:=by
  intro bb;cases bb with
  |false=>exact DK
  |true=>rw[AE];simp only[Bool.not_true,Bn,C0];rw[P2,P2,hg];exact DK
 unfold eqGuard
 split
 ·exact key true
 ·exact key true
 ·exact key false
theorem FC[c:EQ P t ks](hx:ev fr x=some (.agg (τ xs)))(hy:ev fr y=some (.agg (τ ys)))(kx:AllK ks xs)(ky:AllK ks ys):OpQ P ro N fr R ⟨d,.binOp .eql t x y t2,ty,pos,aft,g⟩ (.bool (BU xs ys)):=BO rfl λρ l hρ _=>by obtain⟨e1,e2,e3⟩:=OG c.out;simp only[execOp,hρ x _ hx,hρ y _ hy];rw[AE,TT e2];have h:=Xo 20 Op.maxDepth t ks e3 A0 xs ys kx ky;unfold I8 at h;rw[e1] at h;simp only[CV] at h;simp only[binOp,Op.equal,AE,h,Bq];exact⟨trivial,trivial⟩
theorem SX[c:EQ P t ks](hx:ev fr x=some (.agg (τ xs)))(hy:ev fr y=some (.agg (τ ys)))(kx:AllK ks xs)(ky:AllK ks ys):OpQ P ro N fr R ⟨d,.binOp .neq t x y t2,ty,pos,aft,g⟩ (.bool (!BU xs ys)):=BO rfl λρ l hρ _=>by obtain⟨e1,e2,e3⟩:=OG c.out;simp only[execOp,hρ x _ hx,hρ y _ hy];rw[AE,TT e2];have h:=Xo 20 Op.maxDepth t ks e3 A0 xs ys kx ky;unfold I8 at h;rw[e1] at h;simp only[CV] at h;simp only[binOp,Op.equal,AE,h,Bq];exact⟨trivial,trivial⟩
theorem Y1[c:EQ P t ks](hx:ev fr x=some (.agg (τ xs)))(hy:ev fr y=some (.agg (τ xs)))(kx:AllK ks xs):OpQ P ro N fr R ⟨d,.binOp .eql t x y t2,ty,pos,aft,g⟩ (.bool true):=by have:=FC (P:=P) (ro:=ro) (N:=N) (R:=R) (d:=d) (ty:=ty) (pos:=pos) (aft:=aft) (g:=g) (t2:=t2) (c:=c) hx hy kx kx;rwa [Gq kx] at this
theorem mq[c:EQ P t ks](hx:ev fr x=some (.agg (τ xs)))(hy:ev fr y=some (.agg (τ xs)))(kx:AllK ks xs):OpQ P ro N fr R ⟨d,.binOp .neq t x y t2,ty,pos,aft,g⟩ (.bool false):=by have:=SX (P:=P) (ro:=ro) (N:=N) (R:=R) (d:=d) (ty:=ty) (pos:=pos) (aft:=aft) (g:=g) (t2:=t2) (c:=c) hx hy kx kx;rwa [Gq kx] at this
end
def fb:List (Option IntKind)->Ap->Bool
 |[],[]=>true
 |some k::ks,.int k' _::cs=>decide (k=k')&&fb ks cs
 |none::ks,.bool _::cs=>fb ks cs
 |_,_=>false
theorem Fg: ∀{ks:List (Option IntKind)} {cs:Ap},fb ks cs=true->AllK ks cs
 |[],[],_=>rfl
 |some k::ks,.int k' a::cs,h=>by simp only[fb,AM,A3] at h;exact⟨_,_,rfl,⟨a,by rw[h.1]⟩,Fg h.2⟩
 |none::ks,.bool b::cs,h=>⟨_,_,rfl,⟨b,rfl⟩,Fg h⟩
def RowSl{α:Type}(l:Ac)(v:Value)(k:Nat)(enc:α->Ap)(xs:List α):Prop:=
 ∃a cap,v= .slice a xs.length cap/\(0<xs.length-> ∃b off cs t fz,a=some ⟨b,off,none⟩/\(b,Obj.cells cs t fz)∈l/\ ∀i x,xs[i]?=some x->off+i*k+k<=cs.size/\cs.extract (off+i*k) (off+i*k+k)=τ (enc x))
theorem Lr{α:Type}{enc:α->Ap}{k:Nat}(hk: ∀x,(enc x).length=k)(sp:Ap): ∀(xs:List α) (i:Nat) (x:α),xs[i]?=some x->((xs.flatMap enc++sp).drop (i*k)).take k=enc x/\i*k+k<=(xs.flatMap enc++sp).length
 |[],i,x,h=>by simp at h
 |y::xs,0,x,h=>by cases h;rw[CB,G4,List.drop_zero,Am,Hb (hk y)];refine⟨rfl,?_⟩;rw[Ah,hk];omega
 |y::xs,i+1,x,h=>by obtain⟨h1,h2⟩:=Lr hk sp xs i x (by simpa using h);rw[CB,Am,Gj];refine⟨?_,by rw[Ah,hk];omega⟩;rw[JU,DL (by rw[hk];omega),hk,Ag,show i*k+k-k=i*k by omega];exact h1
theorem OwnSl.rowSl{enc:α->Ap}{xs:List α}{cs l:Ac}(h:OwnSl e k v xs.length (xs.flatMap enc) cs)(hk: ∀x,(enc x).length=k)(hs: ∀c,c∈cs->c∈l):RowSl l v k enc xs:=by
 rcases h.2 with⟨rfl,h0,rfl⟩|⟨b,cap,sp,rfl,rfl,_⟩
 ·exact⟨none,0,by rw[h0],λh=>by omega⟩
 ·refine⟨_,cap,rfl,λh0=>⟨b,0,_,e,(0,0),rfl,hs _ Al,λi x hx=>?_⟩⟩;obtain⟨h1,h2⟩:=Lr hk sp xs i x hx;refine⟨by rw[BG];simpa using h2,?_⟩;rw[BG,Fi,Co,CN,h1]
section
variable{fr:Fr}{l:Ac}{d:Option Nat}{aft:Array Edge}
end
theorem Gr: ∀{ks:List (Option IntKind)} {a b:Ap},AllK ks a->AllK ks b->(BU a b=true<->a=b)
 |[],a,b,h,h'=>by cases h;cases h';simp[BU]
 |none::ks,a,b,h,h'=>by obtain⟨_,r,rfl,⟨p,rfl⟩,h2⟩:=h;obtain⟨_,r',rfl,⟨p',rfl⟩,h2'⟩:=h';simp[BU,OE,Gr h2 h2']
 |some k::ks,a,b,h,h'=>by obtain⟨_,r,rfl,⟨p,rfl⟩,h2⟩:=h;obtain⟨_,r',rfl,⟨p',rfl⟩,h2'⟩:=h';simp[BU,OE,Gr h2 h2']
abbrev Hu(κ:Type):=κ×Value×Nat
def OH{κ:Type}(enc:κ->Ap)(x:Hu κ):MapEntry:={key:= .agg (τ (enc x.1)),val:=x.2.1,born:=x.2.2}
abbrev Ir{κ:Type}(enc:κ->Ap)(es:List (Hu κ))(clock:Nat):Obj:= .map (τ (es.map (OH enc))) clock
theorem HN{α:Type}(f:α->α)(e:α)(B:List α): ∀(A:List α),(A++e::B).modify A.length f=A++f e::B
 |[]=>rfl
 |x::A=>by rw[Ae,By,List.modify_succ_cons,HN f e B A];rfl
section
variable[DecidableEq κ]
def E4(a:κ):List (Hu κ)->Nat->Option (Nat×Value)
 |[],_=>none
 |e::es,i=>if a=e.1 then some (i,e.2.1) else E4 a es (i+1)
def Ih(a:κ)(es:List (Hu κ)):Option Value:=(E4 a es 0).map Prod.snd
def LN(a:κ)(v:Value)(clock:Nat)(es:List (Hu κ)):List (Hu κ)×Nat:=match E4 a es 0 with
 |some (i,_)=>(es.modify i λx=>(x.1,v,x.2.2),clock)
 |none=>(es++[(a,v,clock)],clock+1)
def PF(a:κ)(es:List (Hu κ)):List (Hu κ):=match E4 a es 0 with
 |some (i,_)=>es.eraseIdx i
 |none=>es
theorem MX(a:κ): ∀(es:List (Hu κ)) (i:Nat),E4 a es i=(E4 a es 0).map λp=>(p.1+i,p.2)
 |[],i=>rfl
 |e::es,i=>by
  unfold E4
  split
  ·simp
  ·rw[MX a es (i+1),MX a es (0+1)];cases E4 a es 0 with
   |none=>rfl
   |some p=>simp;omega
theorem Lc(a:κ)(e:Hu κ)(es:List (Hu κ)):Ih a (e::es)=if a=e.1 then some e.2.1 else Ih a es:=by
 unfold Ih;rw[E4]
 split
 ·rfl
 ·rw[MX,Option.map_map];cases E4 a es 0<;>rfl
theorem HO{a:κ}: ∀{es:List (Hu κ)} {k:Nat} {v:Value},E4 a es 0=some (k,v)-> ∃A e B,es=A++e::B/\A.length=k/\e.1=a/\e.2.1=v/\ ∀x∈A,x.1≠a
 |[],k,v,h=>by cases h
 |e::es,k,v,h=>by
  rw[E4] at h
  split at h
  ·rename_i ha;cases h;exact⟨[],e,es,rfl,rfl,ha.symm,rfl,by simp⟩
  ·rename_i ha;rw[MX] at h;cases h2:E4 a es 0 with
   |none=>rw[h2] at h;cases h
   |some p=>
    obtain⟨k',v'⟩:=p;rw[h2] at h;cases h;obtain⟨A,e',B,h3,h4,h5,h6,h7⟩:=HO h2;refine⟨e::A,e',B,by rw[h3];rfl,by simp[h4],h5,h6,λx hx=>?_⟩;rcases Au.1 hx with rfl|hx
    ·exact λe'=>ha e'.symm
    ·exact h7 x hx
theorem IX{a:κ}: ∀{es:List (Hu κ)},E4 a es 0=none<-> ∀e∈es,e.1≠a
 |[]=>by simp[E4]
 |e::es=>by
  rw[E4]
  split
  ·rename_i h;simp[h]
  ·rename_i h;rw[MX,Option.map_eq_none_iff,IX];simp only[Au,forall_eq_or_imp];exact⟨λh2=>⟨λe'=>h e'.symm,h2⟩,λh2=>h2.2⟩
theorem Kn(a:κ)(A B:List (Hu κ)):Ih a (A++B)=(Ih a A).or (Ih a B):=by
 induction A with
 |nil=>rfl
 |cons e A ih=>rw[Ae,Lc,Lc,ih];split<;>rfl
theorem Ko(a b:κ)(v:Value)(clock:Nat)(es:List (Hu κ)):Ih b (LN a v clock es).1=if b=a then some v else Ih b es:=by
 unfold LN;cases h:E4 a es 0 with
 |none=>
  simp only;rw[Kn,Lc]
  split
  ·rename_i e;subst e;unfold Ih;rw[h];rfl
  ·simp[Ih,E4]
 |some p=>
  obtain⟨k,u⟩:=p;obtain⟨A,e,B,rfl,rfl,h1,h2,h3⟩:=HO h;simp only;have hm:(A++e::B).modify A.length (λx=>(x.1,v,x.2.2))=A++(e.1,v,e.2.2)::B:=HN _ e B A;rw[hm,Kn,Kn,Lc,Lc,h1];by_cases e':b=a
  ·have:Ih b A=none:=by unfold Ih;rw[e',IX.2 h3];rfl
   rw[this,Ad e',Ad e'];rfl
  ·rw[Ab e',Ab e',Ab e']
structure KeysOk(es:List (Hu κ))(clock:Nat):Prop where
 keys:(es.map (·.1)).Nodup
 stamps:(es.map (·.2.2)).Nodup
 below: ∀e∈es,e.2.2<clock
theorem KeysOk.set{es:List (Hu κ)}(h:KeysOk es clock)(a:κ)(v:Value):KeysOk (LN a v clock es).1 (LN a v clock es).2:=by
 unfold LN;cases hf:E4 a es 0 with
 |none=>
  have hn:=IX.1 hf;simp only;refine⟨?_,?_,λe he=>?_⟩
  ·rw[At,BC];exact⟨h.keys,by simp,λx hx y hy e=>by
    obtain⟨z,hz,rfl⟩:=Ax.1 hx;have:y=a:=by simpa using hy
    exact hn z hz (by rw[e,this])⟩
  ·rw[At,BC];exact⟨h.stamps,by simp,λx hx y hy e=>by
    obtain⟨z,hz,rfl⟩:=Ax.1 hx;have h1:y=clock:=by simpa using hy
    have h2:=h.below z hz;omega⟩
  ·rcases AB.1 he with he|he
   ·exact LW (h.below e he)
   ·rw[Ay.1 he];exact Id _
 |some p=>
  obtain⟨k,u⟩:=p;obtain⟨A,e,B,rfl,rfl,h1,h2,h3⟩:=HO hf;have hm:(A++e::B).modify A.length (λx=>(x.1,v,x.2.2))=A++(e.1,v,e.2.2)::B:=HN _ e B A;simp only;rw[hm];refine⟨by simpa using h.keys,by simpa using h.stamps,λx hx=>?_⟩;rcases AB.1 hx with hx|hx
  ·exact h.below x (Ai _ hx)
  ·rcases Au.1 hx with rfl|hx
   ·exact h.below e (Aa _ Al)
   ·exact h.below x (Aa _ (An _ hx))
theorem KeysOk.del{es:List (Hu κ)}(h:KeysOk es clock)(a:κ):KeysOk (PF a es) clock:=by
 unfold PF
 split
 ·have hs:(es.eraseIdx ‹_›).Sublist es:=List.eraseIdx_sublist ..;exact⟨h.keys.sublist (hs.map _),h.stamps.sublist (hs.map _),λe he=>h.below e (hs.subset he)⟩
 ·exact h
theorem QJ{es:List (Hu κ)}(h:KeysOk es clock)(a b:κ):Ih b (PF a es)=if b=a then none else Ih b es:=by
 unfold PF;cases hf:E4 a es 0 with
 |none=>
  simp only
  split
  ·rename_i e;subst e;unfold Ih;rw[hf];rfl
  ·rfl
 |some p=>
  obtain⟨k,u⟩:=p;obtain⟨A,e,B,rfl,rfl,h1,h2,h3⟩:=HO hf;have hk:=h.keys;rw[At,AK,BC] at hk;obtain⟨_,LH,_⟩:=hk;rw[AQ] at LH;have he:(A++e::B).eraseIdx A.length=A++B:=by rw[Je (Bf _),Dx];rfl
  simp only;rw[he,Kn,Kn,Lc,h1];by_cases e':b=a
  ·rw[Ad e'];have n1:Ih b A=none:=by unfold Ih;rw[e',IX.2 h3];rfl
   have n2:Ih b B=none:=by unfold Ih;rw[e',IX.2 λx hx hxe=>LH.1 (Ax.2 ⟨x,hx,by rw[hxe,h1]⟩)];rfl
   rw[n1,n2];rfl
  ·rw[Ab e',Ab e']
end
section
variable{fr:Fr}{l:Ac}{d:Option Nat}{aft:Array Edge}{w:Value}
theorem sB{p:Addr}(hp:P.underlying tp=some (.pointer te))(hte:P.info? te=some j)(Vk:j.size≠0)(ha:W.heap[p.block]?=some (.cells ca ta (0,0)))(hb:W.heap[q.block]?=some (.cells cb tb (0,0))):
 (binOp .eql tp (.pointer (some p)) (.pointer (some q))).run P W= .ok (.bool (decide (p=q))) W:=by
 by_cases h:p=q
 ·subst h;rw[run_eql_ptr_same W p hp hte,Aq rfl]
 ·rw[run_eql_ptr_other W hp hte Vk h ha hb,Av h]
theorem sC{p:Addr}(hp:P.underlying tp=some (.pointer te))(hte:P.info? te=some j)(Vk:j.size≠0)(ha:W.heap[p.block]?=some (.cells ca ta (0,0)))(hb:W.heap[q.block]?=some (.cells cb tb (0,0))):
 (binOp .neq tp (.pointer (some p)) (.pointer (some q))).run P W= .ok (.bool (!decide (p=q))) W:=by
 have h: ∀d:Nat,(Op.equalIn (d+1) tp (.pointer (some p)) (.pointer (some q))).run P W= .ok (decide (p=q)) W:=λd=>by
  by_cases h:p=q
  ·subst h;simp[Op.equalIn,run_underlying hp,sizeOf,typeInfo,hte,run_sameAddr_same]
  ·simp[Op.equalIn,run_underlying hp,sizeOf,typeInfo,hte,Vk,run_sameAddr_other W h ha hb,h]
 simp only[binOp];simp[Op.equal,Op.maxDepth,h 9999]
theorem sD{p:Addr}(hx:ev fr x=some (.pointer (some p)))(hy:ev fr y=some (.pointer (some q)))[c:PT P t e][oc:AG P e n](Vk:n≠0)(ha:(p.block,Obj.cells ca ta (0,0))∈R)(hb:(q.block,Obj.cells cb tb (0,0))∈R):
 OpQ P ro N fr R ⟨d,.binOp .eql t x y t2,ty,pos,aft,g⟩ (.bool (decide (p=q))):=⟨λl hR=>⟨rfl,λE a W hf hs=>by
 have hρ:=hf.agrees;obtain⟨uu,HH,_,_,hi,hz⟩:=Ki oc.out;have Yz:execOp a.eval ⟨d,.binOp .eql t x y t2,ty,pos,aft,g⟩=(do pure (.value (<-binOp .eql t (.pointer (some p)) (.pointer (some q)))):Sem Next):=by simp only[execOp,hρ x _ hx,hρ y _ hy,Kk,pure_bind]
 unfold OpVal;rw[Yz,Sem.run_bind,sB (Ox c.out) hi (by rw[hz];exact Vk) (hs.has _ (hR _ ha)) (hs.has _ (hR _ hb))];exact⟨l,⟨rfl,rfl⟩,hs⟩⟩⟩
theorem fc{p:Addr}(hx:ev fr x=some (.pointer (some p)))(hy:ev fr y=some (.pointer (some q)))[c:PT P t e][oc:AG P e n](Vk:n≠0)(ha:(p.block,Obj.cells ca ta (0,0))∈R)(hb:(q.block,Obj.cells cb tb (0,0))∈R):
 OpQ P ro N fr R ⟨d,.binOp .neq t x y t2,ty,pos,aft,g⟩ (.bool (!decide (p=q))):=⟨λl hR=>⟨rfl,λE a W hf hs=>by
 have hρ:=hf.agrees;obtain⟨uu,HH,_,_,hi,hz⟩:=Ki oc.out;have Yz:execOp a.eval ⟨d,.binOp .neq t x y t2,ty,pos,aft,g⟩=(do pure (.value (<-binOp .neq t (.pointer (some p)) (.pointer (some q)))):Sem Next):=by simp only[execOp,hρ x _ hx,hρ y _ hy,Kk,pure_bind]
 unfold OpVal;rw[Yz,Sem.run_bind,sC (Ox c.out) hi (by rw[hz];exact Vk) (hs.has _ (hR _ ha)) (hs.has _ (hR _ hb))];exact⟨l,⟨rfl,rfl⟩,hs⟩⟩⟩
end
section
variable{fr:Fr}{l:Ac}{d:Option Nat}{aft:Array Edge}{w:Value}
theorem Xp{β:Type}(body:β->PUnit->Sem (ForInStep PUnit)){Q:PUnit->Ac->Prop}{l:Ac}: ∀(xs:List β),(∀x∈xs,∀(Q:ForInStep PUnit->Ac->Prop) l,sl P (body x ()) l Q<->Q (.yield ()) l)->(sl P (forIn xs PUnit.unit body) l Q<->Q () l)
 |[],_=>by simp only[List.forIn_nil,Bq]
 |x::xs,h=>by rw[List.forIn_cons,AE,h x Al];exact Xp body xs λy hy=>h y (An _ hy)
theorem bL{empty:Bool}: ∀(n d:Nat) (t:TypeId) (ks:List (Option IntKind)),iJ P n t=some ks->n<=d-> ∀(xs:Ap),AllK ks xs-> ∀(Q:Unit->Ac->Prop) (l:Ac),(sl P (Instr.checkKey empty d t (I8 P t xs)) l Q<->Q () l):=by
 intro n
 induction n with
 |zero=>intro d t ks h;cases h
 |succ n ih=>
  intro d t ks h hd xs hx Q l;obtain⟨d,rfl⟩: ∃e,d=e+1:=⟨d-1,Af⟩
  unfold iJ at h
  split at h
  ·rename_i k hu;cases h;obtain⟨_,_,rfl,⟨a,rfl⟩,rfl⟩:=hx;simp only[I8,LM,hu,Bn,C0,IL];unfold Instr.checkKey;rw[Cg hu];exact DK
  ·rename_i hu;cases h;obtain⟨_,_,rfl,⟨a,rfl⟩,rfl⟩:=hx;simp only[I8,LM,hu,Bn,C0,IL];unfold Instr.checkKey;rw[Cg hu];exact DK
  ·rename_i fs hu;by_cases LF:P.stoodInHeld t=true
   ·rw[Ad LF] at h;cases h
   rw[Ab LF] at h;obtain⟨A6,hr,hrest⟩:=TS n xs xs fs.toList [] ks h;obtain⟨g1,g2⟩:=hrest hx hx;have qN:LM P t=true:=by unfold LM;rw[hu]
   simp only[I8,qN,CV];unfold Instr.checkKey;rw[Cg hu];simp only;rw[<-Array.forIn_toList];rw[AE];refine(Xp _ fs.toList λf hf Q l=>?_).trans DK;obtain⟨kf,ok⟩:=g1 f hf;rw[Ad ok.named,MW ok.kinds ok.size xs f.offset ok.x,AE,ih d f.type kf ok.kinds Af _ ok.x];exact DK
  ·rename_i len e hu;obtain⟨kf,hk,LH⟩:=I3.1 h;by_cases hs:(P.info? e).map (·.size)=some kf.length
   ·rw[Ad hs] at LH;cases LH;obtain⟨g1,g2⟩:=YZ kf len xs xs hx hx;have qN:LM P t=true:=by unfold LM;rw[hu]
    have hi: ∃HH,P.info? e=some HH/\HH.size=kf.length:=by
     cases hh:P.info? e with
     |none=>rw[hh] at hs;cases hs
     |some HH=>rw[hh] at hs;exact⟨HH,rfl,by simpa using hs⟩
    obtain⟨HH,xN,hi2⟩:=hi;simp only[I8,qN,CV];unfold Instr.checkKey;rw[Cg hu];simp only;rw[Hz];have Vk:Std.Legacy.Range.size [:len]=len:=by simp[Std.Legacy.Range.size]
    rw[Vk];rw[AE];refine(Xp _ _ λi hf Q l=>?_).trans DK;have hf:i∈List.range' 0 len:=hf;have xO:i<len:=by have:=LV.1 hf;omega
    obtain⟨o1,_⟩:=g1 i xO;rw[Fa xN,hi2,MW hk hs xs _ o1,AE,ih d e kf hk Af _ o1];exact DK
   ·rw[Ab hs] at LH;cases LH
  ·cases h
structure PN{κ:Type}(enc:κ->Ap)(ks:List (Option IntKind)):Prop where
 kinds: ∀a,AllK ks (enc a)
 inj: ∀a b,enc a=enc b->a=b
variable[DecidableEq κ]{enc:κ->Ap}{a:κ}{es:List (Hu κ)}
theorem K0{Q:Unit->Ac->Prop}{empty:Bool}(h:yH P kt=some ks)(he:PN enc ks):sl P (Instr.checkKey empty 10000 kt (.agg (τ (enc a)))) l Q<->Q () l:=by obtain⟨h1,_,h3⟩:=OG h;have:=bL (empty:=empty) 20 10000 kt ks h3 A0 (enc a) (he.kinds a) Q l;unfold I8 at this;rw[h1] at this;exact this
theorem iK{Q:Bool->Ac->Prop}(h:yH P kt=some ks)(he:PN enc ks)(a b:κ):sl P (Op.equal kt (.agg (τ (enc a))) (.agg (τ (enc b)))) l Q<->Q (decide (a=b)) l:=by
 obtain⟨h1,_,h3⟩:=OG h;have:=Xo 20 Op.maxDepth kt ks h3 A0 (enc a) (enc b) (he.kinds a) (he.kinds b) Q l;unfold I8 at this;rw[h1] at this;have e:BU (enc a) (enc b)=decide (a=b):=by
  by_cases hab:a=b
  ·rw[Aq hab];exact(Gr (he.kinds a) (he.kinds b)).2 (by rw[hab])
  ·rw[Av hab];cases hc:BU (enc a) (enc b) with
   |false=>rfl
   |true=>exact absurd (he.inj a b ((Gr (he.kinds a) (he.kinds b)).1 hc)) hab
 rw[e] at this;exact this
theorem PO{Q:Option (Nat×Value)->Ac->Prop}(h:yH P kt=some ks)(he:PN enc ks)(a:κ): ∀(es:List (Hu κ)) (i:Nat),sl P (Instr.findAsking kt (.agg (τ (enc a))) (es.map (OH enc)) i) l Q<->Q (E4 a es i) l
 |[],i=>DK
 |e::es,i=>by
  rw[AK];unfold Instr.findAsking;simp only[OH];rw[AE,iK h he,E4];by_cases hc:a=e.1
  ·rw[Aq hc,Ad hc];exact DK
  ·rw[Av hc,Ab hc];exact PO h he a es (i+1)
theorem Mb{Q:Option (Nat×Value)->Ac->Prop}(h:yH P kt=some ks)(he:PN enc ks):sl P (Instr.findKey kt (.agg (τ (enc a))) (es.map (OH enc))) l Q<->Q (E4 a es 0) l:=by
 obtain⟨h1,_,_⟩:=OG h;unfold Instr.findKey;unfold LM at h1;cases hu:P.underlying kt with
 |none=>rw[hu] at h1;cases h1
 |some td=>
  rw[Cg hu];cases es with
  |nil=>exact DK
  |cons e es=>
   have hn:Instr.findNow td (.agg (τ (enc a))) ((e::es).map (OH enc)) 0=none:=by rw[AK];unfold Instr.findNow;rw[hu] at h1;cases td<;>first|rfl|cases h1
   rw[hn];exact PO h he a (e::es) 0
theorem iL{zv:Value}(hx:ev fr x=some (.map (some m)))(hy:ev fr y=some (.agg (τ (enc a))))[c:MT P T kt et][ci:EQ P kt ks][cz:ZO P et zv](he:PN enc ks)(hm:(m,Ir enc es clock)∈R):OpQ P ro N fr R ⟨d,.lookup T x y false,ty,pos,aft,g⟩ ((Ih a es).getD zv):=BO rfl λρ l hρ hR=>by
 simp only[execOp,hρ x _ hx,hρ y _ hy,AE];unfold Instr.lookup;rw[Cg (Jv c.out)];simp only[AE];refine⟨_,hR _ hm,rfl,?_⟩;simp only[Bq,FQ,AE];rw[K0 ci.out he,Mb ci.out he];unfold Ih;cases h:E4 a es 0 with
 |none=>simp only[AE];rw[Xn cz.out];exact⟨rfl,rfl⟩
 |some p=>exact⟨rfl,rfl⟩
theorem P6: ∀{ks:List (Option IntKind)} {a:Ap} (n:Nat),AllK ks a->(a.zip a).all (λp=>Instr.sameBits (n+1) p.1 p.2)=true
 |[],a,n,h=>by cases h;rfl
 |none::ks,a,n,h=>by obtain⟨c,r,rfl,⟨p,rfl⟩,h2⟩:=h;rw[List.zip_cons_cons,IA,P6 n h2];simp[Instr.sameBits]
 |some k::ks,a,n,h=>by obtain⟨c,r,rfl,⟨p,rfl⟩,h2⟩:=h;rw[List.zip_cons_cons,IA,P6 n h2];simp[Instr.sameBits]
theorem QL{Q:Value->Ac->Prop}(he:PN enc ks):sl P (Instr.keyThatStays (.agg (τ (enc a))) (.agg (τ (enc a)))) l Q<->Q (.agg (τ (enc a))) l:=by
 unfold Instr.keyThatStays;have h:Instr.sameBits 10000 (.agg (τ (enc a))) (.agg (τ (enc a)))=true:=by unfold Instr.sameBits;simp only[beq_self_eq_true,BA];exact P6 9998 (he.kinds a)
 rw[Ad h];exact DK
theorem Y3(A B:List (Hu κ))(e:Hu κ)(v:Value):(τ ((A++e::B).map (OH enc))).modify A.length (λx=>{key:= .agg (τ (enc e.1)),val:=v,born:=x.born})=τ ((A++(e.1,v,e.2.2)::B).map (OH enc)):=by apply BQ.1;rw[Iq];simp only[At,AK];have:=HN (λx:MapEntry=>{key:= .agg (τ (enc e.1)),val:=v,born:=x.born}) (OH enc e) (B.map (OH enc)) (A.map (OH enc));rw[A5] at this;rw[this];rfl
theorem QM(hx:ev fr x=some (.map (some m)))(hy:ev fr y=some (.agg (τ (enc a))))(hz:ev fr z=some v)[c:MT P T kt et][ci:EQ P kt ks](he:PN enc ks)(hu:Upd l m (Ir enc es clock) (Ir enc (LN a v clock es).1 (LN a v clock es).2) l'):
 OpE P ro N fr l ⟨d,.mapUpdate T x y z,ty,pos,aft,g⟩ (λv' l2=>v'=undef/\l2=l'):=DS rfl λρ hρ=>by
 simp only[execOp,hρ x _ hx,hρ y _ hy,hρ z _ hz];rw[AE];unfold Instr.mapUpdate;rw[Cg (Jv c.out)];simp only[AE];refine⟨_,hu.mem,rfl,?_⟩;simp only[Bq,FQ,AE];rw[K0 ci.out he,Mb ci.out he];unfold LN at hu;cases h:E4 a es 0 with
 |none=>
  rw[h] at hu;simp only at hu⊢;refine⟨Ir enc es clock,l',?_,rfl,⟨rfl,rfl⟩⟩;have e:(τ (es.map (OH enc))).push {key:= .agg (τ (enc a)),val:=v,born:=clock}=τ ((es++[(a,v,clock)]).map (OH enc)):=by simp[OH]
  rw[e];exact hu
 |some p=>
  obtain⟨i,u⟩:=p;rw[h] at hu;simp only at hu⊢;obtain⟨A,e,B,rfl,rfl,h1,h2,h3⟩:=HO h;subst h1;have hk:(((τ ((A++e::B).map (OH enc)))[A.length]?).map (·.key)).getD (.agg (τ (enc e.1)))= .agg (τ (enc e.1)):=by simp[OH]
  simp only[AE];rw[hk,QL he];refine⟨Ir enc (A++e::B) clock,l',?_,rfl,⟨rfl,rfl⟩⟩;rw[Y3,<-HN (λx=>(x.1,v,x.2.2)) e B A];exact hu
theorem V8{T2:TypeId}(hx:ev fr x=some (.map (some m)))(hy:ev fr y=some (.agg (τ (enc a))))[c:MT P T kt et][ci:EQ P kt ks](he:PN enc ks)(hu:Upd l m (Ir enc es clock) (Ir enc (PF a es) clock) l'):
 OpE P ro N fr l ⟨d,.call {callee:= .builtin .delete,args:=#[x,y],argTypes:=#[T,T2]},ty,pos,aft,g⟩ (λv' l2=>v'= .tuple #[]/\l2=l'):=DS rfl λρ hρ=>by
 simp only[execOp,resolve,AE,Bq,invoke,builtin,Dm,AK,CZ,hρ x _ hx,hρ y _ hy];unfold Builtin.delete_;simp only[AF,Df,De,AE];rw[E9 (Jv c.out)];simp only[AE];refine⟨_,hu.mem,rfl,?_⟩;simp only[Bq,FQ,AE];rw[K0 ci.out he,Mb ci.out he];unfold PF at hu;cases h:E4 a es 0 with
 |none=>rw[h] at hu;exact⟨Ir enc es clock,l',hu,rfl,⟨rfl,rfl⟩⟩
 |some p=>
  obtain⟨i,u⟩:=p;rw[h] at hu;refine⟨Ir enc es clock,l',?_,rfl,⟨rfl,rfl⟩⟩;have e:(τ (es.map (OH enc))).eraseIdxIfInBounds i=τ ((es.eraseIdx i).map (OH enc)):=by apply BQ.1;simp only[JJ];rw[Du,Du,At,Hm,List.map_drop]
  rw[e];exact hu
theorem Sa{A B:List (Hu κ)}{e:Hu κ}{l':Ac}(hx:ev fr x=some (.map (some m)))(hy:ev fr y=some (.agg (τ (enc a))))[c:MT P T kt et][ci:EQ P kt ks](he:PN enc ks)(vJ:es=A++e::B)(h1:e.1=a)(h3: ∀x∈A,x.1≠a)(hm:(m,Ir enc es clock)∈l):
 OpE P ro N fr l ⟨d,.mapEntry T x y,ty,pos,aft,g⟩ (λv' l2=>v'= .tuple #[e.2.1,ι e.2.2]/\l2=l):=DS rfl λρ hρ=>by
 subst h1 vJ;simp only[execOp,hρ x _ hx,hρ y _ hy,AE];unfold Instr.mapEntry;rw[Cg (Jv c.out)];simp only[AE];refine⟨_,hm,rfl,?_⟩;simp only[Bq,FQ,AE];have hf:E4 e.1 (A++e::B) 0=some (A.length,e.2.1):=by
  have: ∀(A:List (Hu κ)) (i:Nat),(∀x∈A,x.1≠e.1)->E4 e.1 (A++e::B) i=some (i+A.length,e.2.1):=by
   intro A
   induction A with
   |nil=>intro i _;rw[Ag,E4,Ad rfl];rfl
   |cons z A ih=>intro i hA;rw[Ae,E4,Ab (λh=>hA z Al h.symm),ih (i+1) λx hx=>hA x (An _ hx),By];congr 2;omega
  rw[this A 0 h3,BG]
 rw[K0 ci.out he,Mb ci.out he,hf];have hk:(((τ ((A++e::B).map (OH enc)))[A.length]?).map (·.key)).getD (.agg (τ (enc e.1)))= .agg (τ (enc e.1)):=by simp[OH]
 have hb:(((τ ((A++e::B).map (OH enc)))[A.length]?).map (λx=>(x.born:Int))).getD 0=(e.2.2:Int):=by simp[OH]
 simp only[AE];rw[hk,QL he];obtain⟨l2,JP⟩: ∃l2,Upd l m (Ir enc (A++e::B) clock) (Ir enc (A++e::B) clock) l2:=by
  clear hρ
  induction l with
  |nil=>cases hm
  |cons c l ih=>
   by_cases hc:c=(m,Ir enc (A++e::B) clock)
   ·subst hc;exact⟨_,.here⟩
   ·rcases Au.1 hm with h|h
    ·exact absurd h.symm hc
    ·obtain⟨l2,h2⟩:=ih h;exact⟨_,.there h2⟩
 refine⟨Ir enc (A++e::B) clock,l,?_,rfl,?_⟩
 ·have e2:(τ ((A++e::B).map (OH enc))).modify A.length (λx=>{key:= .agg (τ (enc e.1)),val:=x.val,born:=x.born})=τ ((A++e::B).map (OH enc)):=by
   apply BQ.1;rw[Iq];simp only[At,AK];have:=HN (λx:MapEntry=>{key:= .agg (τ (enc e.1)),val:=x.val,born:=x.born}) (OH enc e) (B.map (OH enc)) (A.map (OH enc));rw[A5] at this;rw[this];rfl
  rw[e2];have:=JP.same;subst this;exact JP
 ·simp only[Bq,FQ];refine⟨?_,rfl⟩;show Value.tuple _=_;congr 3
  first|exact BM goInt hb|(unfold goInt;rw[<-hb])
theorem PQ{A B:List (Hu κ)}{e:Hu κ}(hx:ev fr x=some (.map (some m)))(hy:ev fr y=some (ι (e.2.2:Nat)))(hz:ev fr z=some v)(vJ:es=A++e::B)(h3: ∀x∈A,x.2.2≠e.2.2)(hu:Upd l m (Ir enc es clock) (Ir enc (A++(e.1,v,e.2.2)::B) clock) l'):
 OpE P ro N fr l ⟨d,.entryStore T x y z,ty,pos,aft,g⟩ (λv' l2=>v'=undef/\l2=l'):=DS rfl λρ hρ=>by
 subst vJ;simp only[execOp,hρ x _ hx,hρ y _ hy,hρ z _ hz];rw[AE];unfold Instr.entryStore;simp only[AE];refine⟨_,hu.mem,rfl,?_⟩;simp only[Bq,FQ,AE,asInt,asIntOf];have hf:(τ ((A++e::B).map (OH enc))).findIdx? (λx=>(x.born:Int)==(e.2.2:Int))=some A.length:=by
  rw[List.findIdx?_toArray];clear hu hρ
  induction A with
  |nil=>simp[OH,Ll]
  |cons z A ih=>
   have hz:¬z.2.2=e.2.2:=h3 z Al;rw[Ae,AK,Ll,ih λx hx=>h3 x (An _ hx)];have:(((OH enc z).born:Int)==(e.2.2:Int))=false:=by simp[OH];omega
   rw[this];rfl
 rw[hf];refine⟨Ir enc (A++e::B) clock,l',?_,rfl,⟨rfl,rfl⟩⟩;have e2:(τ ((A++e::B).map (OH enc))).modify A.length (λx=>{key:=x.key,val:=v,born:=x.born})=τ ((A++(e.1,v,e.2.2)::B).map (OH enc)):=by apply BQ.1;rw[Iq];simp only[At,AK];have:=HN (λx:MapEntry=>{key:=x.key,val:=v,born:=x.born}) (OH enc e) (B.map (OH enc)) (A.map (OH enc));rw[A5] at this;rw[this];rfl
 rw[e2];exact hu
end
section
variable{l:Ac}{fr:Fr}
theorem P7{d:Nat}(h:OpE P ro N fr l o K)(hw:RD ops fr o.guard=some true)(hd:o.dst=some d)(hb:Nat.blt d N=true)(hR: ∀v l',K v l'->(∀c,c∈R->c∈l'))(hS: ∀v l',K v l'-> ∀x,x∈sp->FP tbl i x.1=false-> ∀c,c∈x.2->c∈l')(hk: ∀v l',K v l'->PlanS P ro N E ops Q R tbl none sp pl ((d,v)::fr) ds l'):PlanS P ro N E ops Q R tbl none sp ((i,false,o)::pl) fr ds l:=by
 rcases Km hw with⟨h1,_⟩|⟨j,b,oj,dj,b',h1,h2,h3,h4,h5⟩
 ·exact Hi h h1 hd hb hR hS hk
 ·have:b'=b:=by simpa using h5
  subst this;exact .ge h h1 h2 h3 h4 (by rw[hd];exact hb) hR hS λv l' hkv=>by rw[hd];exact hk v l' hkv
end
theorem Da{c:Bh}{l:Ac}(h:c∈l): ∀x,x∈[c]->x∈l:=λx hx=>by rw[Ay.1 hx];exact h
theorem Keep.in_mid(A B C:Ac):Keep (A++(B++C)) (B++(A++C)):=Keep.of_perm (AC A B C)
theorem Jw{α β:Type}{f:α->β}: ∀{l:List α},(l.map f).Nodup->l.Nodup
 |[],_=>List.nodup_nil
 |x::l,h=>by rw[AK,AQ] at h;exact AQ.2 ⟨λhx=>h.1 (Ax.2 ⟨x,hx,rfl⟩),Jw h.2⟩
theorem OI{α β:Type}{f:α->β}: ∀{l:List α} {x y:α},(l.map f).Nodup->x∈l->y∈l->f x=f y->x=y
 |[],_,_,_,h,_,_=>by cases h
 |z::l,x,y,h,hx,hy,e=>by
  rw[AK,AQ] at h;rcases Au.1 hx with h1|h1<;>rcases Au.1 hy with h2|h2
  ·rw[h1,h2]
  ·exact absurd (Ax.2 ⟨y,h2,by rw[<-e,h1]⟩) h.1
  ·exact absurd (Ax.2 ⟨x,h1,by rw[e,h2]⟩) h.1
  ·exact OI h.2 h1 h2 e
section
variable{fr:Fr}{l:Ac}{d:Option Nat}{aft:Array Edge}{k k':IntKind}{i:Int}{a:Nat}
theorem fe(hx:ev fr x=some (.int k i))(hy:ev fr y=some (.int k' (n:Nat)))(hn:n<=k.bits):OpQ P ro N fr R ⟨d,.binOp .shr t x y t2,ty,pos,aft,g⟩ (.int k (i/2^n)):=
 I7 hx hy (λ_ _=>Dg _ _ _ _ _) (by
  have h1:¬((n:Nat):Int)<0:=by omega
  have h2:i.fdiv (2^n)=i/2^n:=Int.fdiv_eq_ediv_of_nonneg _ (by have:(0:Int)<=((2^n:Nat):Int):=Int.natCast_nonneg _;simpa using this);simp only[binOp,Op.shift,Ab h1,AV,EX hn,h2])
theorem QN(hx:ev fr x=some (.int k i))(hy:ev fr y=some (.int k' (n:Nat)))(hn:n<=k.bits):OpQ P ro N fr R ⟨d,.binOp .shl t x y t2,ty,pos,aft,g⟩ (.int k (k.wrap (i*2^n))):=
 I7 hx hy (λ_ _=>Dg _ _ _ _ _) (by
  have h1:¬((n:Nat):Int)<0:=by omega
  simp only[binOp,Op.shift,Ab h1,AV,EX hn])
theorem V9{a:Nat}(h:a<18446744073709551616):IntKind.u64.wrap (a:Int)=(a:Int):=by simp[IntKind.wrap,IntKind.signed,IntKind.bits];omega
theorem wv(hx:ev fr x=some (υ (a:Nat)))(hy:ev fr y=some (υ (b:Nat)))(ha:a<18446744073709551616)(hb:b<18446744073709551616):OpQ P ro N fr R ⟨d,.binOp .and t x y t2,ty,pos,aft,g⟩ (υ ((a&&& b:Nat):Int)):=
 I7 hx hy (λ_ _=>Dg _ _ _ _ _) (by
  have e1:(BitVec.ofInt IntKind.u64.bits ((a:Nat):Int)).toNat=a:=by show(BitVec.ofInt 64 ((a:Nat):Int)).toNat=a;rw[D7,Ey,DB ha]
  have e2:(BitVec.ofInt IntKind.u64.bits ((b:Nat):Int)).toNat=b:=by show(BitVec.ofInt 64 ((b:Nat):Int)).toNat=b;rw[D7,Ey,DB hb]
  simp only[binOp,Op.intBits,MH,e1,e2];rw[V9 (Ex KA ha)];rfl)
theorem Wa{zv:Value}{k:Nat}(hzv:zv.cells=τ zs)(Sv:zs.length=k)(hk:0<n*k):(Array.range (n*k)).map (λj=>zv.cells[j%zv.cells.size]!)=τ (replicate n zs).flatten:=by
 have hk0:0<k:=Lh λe=>by subst e;simp at hk
 apply BQ.1;apply Dn;intro j;rw[hzv];have hl:(replicate n zs).flatten.length=n*k:=by simp[Sv]
 by_cases hj:j<n*k
 ·have:(replicate n zs).flatten[j]?=zs[j%k]?:=by
   clear hl hk hk0
   induction n generalizing j with
   |zero=>omega
   |succ n ih=>
    rw[BN,CA];by_cases ly:j<k
    ·rw[AH Af,DB ly]
    ·rw[AW Af,Sv,ih (j-k) (by have:=Gj n k;simp only[KQ] at this;omega),<-Li Af]
  simp only[MG,Lj,A7,Fu hj,BY];rw[this];have C7:j%k<zs.length:=by rw[Sv];exact Hx _ hk0
  simp[Sv,Ak C7,GI]
 ·rw[Bi (by simp;omega),Bi (by rw[hl];omega)]
theorem Gs{T kk yb:Nat}{xs:Ap}(hx:ev fr x=some (ι (n:Nat)))[c:ST P T e kk yb][cz:ZV P e zs](Sv:zs.length=kk)(hk:0<n*kk)(hn:n<=1000000)(ee:yb<=1000)(Rx:xs=(replicate n zs).flatten):
 OpE P ro N fr l ⟨d,.makeSlice T x x,ty,pos,aft,g⟩ (λv' l'=> ∃b,(∀c,c∈l->c.1≠b)/\v'= .slice (some ⟨b,0,none⟩) n n/\l'=(b,.cells (τ xs) e (0,0))::l):=DS rfl λρ hρ=>by
 subst Rx;obtain⟨HH,u1,u2,u3,u4⟩:=Fj c.out;obtain⟨xL,zv,z1,z2,z3⟩:=Kl cz.out;rw[u2] at z1;cases z1;simp only[execOp,hρ x _ hx];unfold Instr.makeSlice;rw[AE,Cg u1];have hw:IntKind.i64.wrap ((n:Nat):Int)=n:=yA _ ⟨Af,Af⟩;have hb:HH.bytes*n<=1000000000:=by rw[u4];exact B9 (Jn ee hn) Af
 have W7:((HH.bytes:Nat):Int)*((n:Nat):Int)<=1000000000:=by rw[<-KB];omega
 simp only[asInt,asIntOf,pure_bind,hw];rw[J9 u2];have ht:(decide (((n:Nat):Int)<0)||decide (((HH.bytes:Nat):Int)*((n:Nat):Int)>2^48))=false:=by rw[Av Af,Av Af];rfl
 simp only[ht,Mp];rw[show(decide (((n:Nat):Int)<0)||decide (((n:Nat):Int)>((n:Nat):Int)))=false by rw[Av Af,Av Af];rfl];simp only[Bn,C0,AV];unfold askRoom roomBytes;have hr:n*HH.bytes<=1000000000:=by rw[Nb];exact hb
 rw[Ab Af,AE,Bq,Fa u2,u3];have ld:¬n*kk=0:=by omega
 simp only[ld,C0,zeroValue,AE];rw[<-AE,J9 u2,z2];simp only[Bq];have hzv:zv.cells=τ zs:=by rw[<-z3]
 rw[Wa hzv Sv hk];simp only[newRow,AE];intro b hb;exact⟨b,hb,rfl,rfl⟩
end
theorem TU(vs:Ap): ∀(cs:Array Value) (off k:Nat),(Dc cs off vs)[k]?=if off<=k/\k<off+vs.length/\k<cs.size then vs[k-off]? else cs[k]?:=by
 induction vs with
 |nil=>intro cs off k;rw[Ab (by simp;omega)];rfl
 |cons v r ih=>
  intro cs off k;show(Dc (cs.setIfInBounds off v) (off+1) r)[k]?=_;rw[ih,Array.size_setIfInBounds];by_cases h1:off+1<=k/\k<off+1+r.length/\k<cs.size
  ·rw[Ad h1,Ad (by simp;omega),show k-off=(k-(off+1))+1 by omega];rfl
  ·rw[Ab h1,Array.getElem?_setIfInBounds];by_cases h2:off=k
   ·subst h2;rw[Ad rfl];by_cases h3:off<cs.size
    ·rw[Ad h3,Ad (by simp;omega),Dx];rfl
    ·rw[Ab h3,Ab Af,Fz Af]
   ·rw[Ab h2,Ab (by simp;omega)]
section
def ww(os:List Oper)(tbl:List (List Nat))(L:List (Nat×Nat))(plan1 ML:List (Nat×Bool))(i j:Nat)(il ik:Sw):Bool:=
 ((IO os plan1).tail.all λy=>!L.contains (i,y.1)||y.1==j||(IO os plan1).tail.any λz=>FP tbl y.1 z.1)&&GE os.toArray tbl il (IO os plan1).tail&&VC il (IO os plan1).tail&&GE os.toArray tbl ik (IO os ML).tail&&VC ik (IO os ML).tail&&plan1.head?==some (i,false)&&ML.head?==some (j,false)&&i !=j
theorem TV{fr:Fr}{l:Ac}{L:List (Nat×Nat)}{oj:Oper}{A6 rj:List BI}{K':Value->Ac->Prop}(plan1 ML:List (Nat×Bool))(i j:Nat)(il ik:Sw)(h1:Attach os plan1 ((i,false,o)::A6))(h2:Attach os ML ((j,false,oj)::rj))(hp:((j,false,oj)::rj).Perm ((i,false,o)::A6))(Dh:ww os tbl L plan1 ML i j il ik=true)
 (ho:OpE P ro N fr l o K)(hg:RD os.toArray fr o.guard=some true)(hd:Kh N o.dst=true)(hR: ∀v l',K v l'->(∀c,c∈R->c∈l'))(hS: ∀v l',K v l'-> ∀x,x∈sp->FP tbl i x.1=false-> ∀c,c∈x.2->c∈l')
 (eg:OpE P ro N fr l oj K')(hg':RD os.toArray fr oj.guard=some true)(rD:Kh N oj.dst=true)(rC: ∀v l',K' v l'->(∀c,c∈R->c∈l'))(lz: ∀v l',K' v l'-> ∀x,x∈sp->FP tbl j x.1=false-> ∀c,c∈x.2->c∈l')
 (hk0: ∀v l',K v l'->PlanS P ro N E os.toArray Q R tbl il sp A6 (ID o.dst v fr) ds l')(lB: ∀v l',K' v l'->PlanS P ro N E os.toArray Q R tbl ik sp rj (ID oj.dst v fr) ds l'):PlanS P ro N E os.toArray Q R tbl (some L) sp ((i,false,o)::A6) fr ds l:=by
 unfold ww at Dh;rw[h1.fun_eq,h2.fun_eq] at Dh;simp only[AM,P0,ne_eq,Jo,AS,DA,Ei,Hw,Ia] at Dh;obtain⟨⟨⟨⟨⟨⟨⟨p1,p2⟩,p3⟩,p4⟩,p5⟩,_⟩,_⟩,W4⟩:=Dh;have hj: ∀k,PE tbl (some L) i A6 k->k=i\/k=j:=λk hk=>by
  rcases hk with h|⟨h,h3,y,hy,rfl⟩
  ·exact .inl h
  ·rcases p1 y hy with(h4|h4)|⟨z,hz,h4⟩
   ·simp only[PD] at h;rw[h] at h4;cases h4
   ·exact .inr h4
   ·rw[h3 z hz] at h4;cases h4
 refine .alt (λk=>if k=i then o else oj) (λk=>if k=i then K else K') (λk=>if k=i then A6 else rj) (λk=>if k=i then il else ik) (λk hk=>?_) (λk hk=>?_) (λk hk=>?_) λk hk=>?_;all_goals rcases hj k hk with h|h
 ·subst h;simp only[CV];exact⟨.refl _,p2,p3⟩
 ·subst h;simp only[Ab (FW W4)];exact⟨hp,p4,p5⟩
 ·subst h;simp only[CV];exact⟨ho,hg,hd⟩
 ·subst h;simp only[Ab (FW W4)];exact⟨eg,hg',rD⟩
 ·subst h;simp only[CV];exact λv l' k=>⟨hR v l' k,hS v l' k⟩
 ·subst h;simp only[Ab (FW W4)];exact λv l' k=>⟨rC v l' k,lz v l' k⟩
 ·subst h;simp only[CV];exact hk0
 ·subst h;simp only[Ab (FW W4)];exact lB
variable{fr:Fr}{aft:Array Edge}{off:Nat}
end
section
end
theorem zKp{l:Ac}(h:Keep l l':=by(repeat(first|exact .refl|apply Keep.drop))):Keep l l':=h
theorem zLf{w:Value}(h:v=w:=by first|rfl|(exfalso;omega)|(simp[JQ, *];done)|(simp_all [JQ];done)|(simp_all [JQ];omega)):v=w:=h
class QF(P:Program)(f:Nat)(vs:Ap)(l:Ac)(v:outParam Value):Prop where
 out: ∀l2,(∀c,c∈l->c∈l2)->Fn P f vs l2 (λv' l'=>v'=v/\l'=l2)
instance{P:Program}{f:Nat}{vs:Ap}{l:Ac}{v:Value}{c:Bh}[h:QF P f vs l v]:QF P f vs (c::l) v:=⟨λl2 hl=>h.out l2 λx hx=>hl x (.tail _ hx)⟩
theorem EO{fr:Fr}{l:Ac}{d:Nat}{at_:Array TypeId}{aft:Array Edge}(hk:DC P ro N E ops Q A6 ((d,v)::fr) ds l)(hx:ev fr x=some (.func (.func f) #[] #[]):=by rfl)(hy:SC fr xs=some vs:=by rfl)(c:EN P f:=by infer_instance)(q:QF P f vs l v:=by infer_instance)(hw:RD ops fr g=some true:=by rfl)(hb:Nat.blt d N=true:=by rfl):DC P ro N E ops Q (⟨some d,.call {callee:= .value x,args:=xs.toArray,argTypes:=at_},ty,pos,aft,g⟩::A6) fr ds l:=
 MU (AI hx hy q.out) hw rfl hb hk
def yI:Nat->Nat->List (Nat×Bool)
 |_,0=>[]
 |i,k+1=>(i,true)::yI (i+1) k
def AcB(ops:List Oper):List (List Nat):=ops.foldl (λacc o=>acc++[((o.after.toList.filter λe=>Region.binds .any e).map λe=>e.on)++(((o.after.toList.filter λe=>Region.binds .any e).map λe=>e.on).flatMap λd=>acc.getD d [])]) []
theorem IP{fr:Fr}{l:Ac}(h:PlanS P ro N E os.toArray Q l (AcB os) none [] pl fr ds l)(ha:Attach os (yI 0 os.length) pl:=by exact GO)(hm:P.follows .mixedOrders=true:=by kernel_rfl)(hv:Xk os (yI 0 os.length) (AcB os)=true:=by kernel_rfl):BS P ro N E (.region k os.toArray true) Q fr ds l:=J0 _ _ l hm hv ha (λ_ h=>h) h
theorem Wb{fr:Fr}{l:Ac}{d:Nat}{at_:Array TypeId}{aft:Array Edge}(hk:PlanS P ro N E ops Q R tbl sw sp pl ((d,v)::fr) ds l)(hx:ev fr x=some (.func (.func f) #[] #[]):=by rfl)(hy:SC fr xs=some vs:=by rfl)(c:EN P f:=by infer_instance)(q:QF P f vs R v:=by infer_instance)(hw:RD ops fr g=some true:=by rfl)(hb:Nat.blt d N=true:=by rfl):PlanS P ro N E ops Q R tbl sw sp ((i,true,⟨some d,.call {callee:= .value x,args:=xs.toArray,argTypes:=at_},ty,pos,aft,g⟩)::pl) fr ds l:=
 N9 (AI hx hy q.out) hw rfl hb hk
section
variable{fr:Fr}{l:Ac}{d:Nat}{at_:Array TypeId}{aft:Array Edge}[c:EN P f]
theorem tq(h: ∀l2,(∀c,c∈l->c∈l2)->Fn P f vs l2 (λv' l'=>v'=v/\l'=l2))(hk:DC P ro N E ops Q A6 ((d,v)::fr) ds l)(hx:ev fr x=some (.func (.func f) #[] #[]):=by rfl)(hy:SC fr xs=some vs:=by rfl)(hw:RD ops fr g=some true:=by rfl)(hb:Nat.blt d N=true:=by rfl):DC P ro N E ops Q (⟨some d,.call {callee:= .value x,args:=xs.toArray,argTypes:=at_},ty,pos,aft,g⟩::A6) fr ds l:=
 MU (AI hx hy h) hw rfl hb hk
theorem pq(h: ∀l2,(∀c,c∈R->c∈l2)->Fn P f vs l2 (λv' l'=>v'=v/\l'=l2))(hk:PlanS P ro N E ops Q R tbl sw sp pl ((d,v)::fr) ds l)(hx:ev fr x=some (.func (.func f) #[] #[]):=by rfl)(hy:SC fr xs=some vs:=by rfl)(hw:RD ops fr g=some true:=by rfl)(hb:Nat.blt d N=true:=by rfl):PlanS P ro N E ops Q R tbl sw sp ((i,true,⟨some d,.call {callee:= .value x,args:=xs.toArray,argTypes:=at_},ty,pos,aft,g⟩)::pl) fr ds l:=
 N9 (AI hx hy h) hw rfl hb hk
end
def AfY(ops:List Oper):List Nat:=ops.foldl (λacc o=>acc++[o.after.toList.foldl (λm e=>bif Region.binds .any e then Nat.lor m (Nat.lor (Nat.shiftLeft 1 e.on) (acc.getD e.on 0)) else m) 0]) []
def sE(ops:List Oper):List (List Nat):=(AfY ops).map λm=>(List.range ops.length).filter λi=>Nat.testBit m i
def Cy(ef:List Nat):Nat->Nat->List (Nat×Bool)
 |_,0=>[]
 |i,k+1=>(i,!ef.contains i)::Cy ef (i+1) k
section
variable{fr:Fr}{l:Ac}
structure MP(P:Program)(ro:Option Nat)(N:Nat)(E:World)(ops:Array Oper)(Q:Exit->Act->World->Prop)(tbl:List (List Nat))(g:Bool)(sp:F5)(pl:List BI)(fr:Fr)(ds:List Deferred)(l:Ac):Prop where
 h:(g=true-> ∀x,x∈sp-> ∀c,c∈x.2->c∈l)->PlanS P ro N E ops Q [] tbl none sp pl fr ds l
theorem CC(plan:List (Nat×Bool))(h:MP P ro N E os.toArray Q (sE os) true [] pl fr ds l)(ha:Attach os plan pl:=by exact GO)(hm:P.follows .mixedOrders=true:=by kernel_rfl)(hv:Xk os plan (sE os)=true:=by kernel_rfl):BS P ro N E (.region k os.toArray true) Q fr ds l:=
 J0 plan _ [] hm hv ha (λ_ h=>nomatch h) (h.h λ_ _ h=>nomatch h)
variable{g:Bool}{d:Nat}
theorem RE(h:C3 N E Q .normal fr ds l):MP P ro N E ops Q tbl g sp [] fr ds l:=⟨λ_=> .nil h⟩
theorem Y4(hk:MP P ro N E ops Q tbl g sp pl ((d,v)::fr) ds l)(h:OpQ P ro N fr [] o v:=by exact zq)(hw:RD ops fr o.guard=some true:=by rfl)(hd:o.dst=some d:=by rfl)(hb:Nat.blt d N=true:=by rfl):MP P ro N E ops Q tbl g sp ((i,true,o)::pl) fr ds l:=⟨λhs=>N9 h hw hd hb (hk.h hs)⟩
theorem ff(hk:MP P ro N E ops Q tbl g ((i,l)::sp) pl ((d,v)::fr) ds l)(h:OpQ P ro N fr l o v:=by exact zq)(hw:o.guard=none:=by rfl)(hd:o.dst=some d:=by rfl)(hb:Nat.blt d N=true:=by rfl):MP P ro N E ops Q tbl g sp ((i,true,o)::pl) fr ds l:=
 ⟨λhs=>Gy h (λ_ h=>h) hw hd hb (hk.h λhg x hx=>by rcases Au.1 hx with rfl|hx;exact λ_ h=>h;exact hs hg x hx)⟩
theorem mqa{at_:Array TypeId}{aft:Array Edge}(hk:MP P ro N E ops Q tbl g ((i,l)::sp) pl ((d,v)::fr) ds l)(hx:ev fr x=some (.func (.func f) #[] #[]):=by rfl)(hy:SC fr xs=some vs:=by rfl)(c:EN P f:=by infer_instance)(q:QF P f vs l v:=by infer_instance)(hb:Nat.blt d N=true:=by rfl):MP P ro N E ops Q tbl g sp ((i,true,⟨some d,.call {callee:= .value x,args:=xs.toArray,argTypes:=at_},ty,pos,aft,none⟩)::pl) fr ds l:=
 ff hk (AI hx hy q.out) rfl rfl hb
theorem LP(h:OpE P ro N fr l o K)(hk: ∀v l',K v l'->MP P ro N E ops Q tbl false sp pl ((d,v)::fr) ds l')(hw:o.guard=none:=by rfl)(hd:o.dst=some d:=by rfl)(hb:Nat.blt d N=true:=by rfl)(ha:(sp.map Prod.fst).all (λq=>FP tbl i q)=true:=by kernel_rfl):MP P ro N E ops Q tbl g sp ((i,false,o)::pl) fr ds l:=
 ⟨λhs=>Hi h hw hd hb (λ_ _ _ _ h=>nomatch h) (λ_ _ _ x hx hn=>Dk ha hx hn) λv l' k=>(hk v l' k).h λh=>by cases h⟩
theorem my(hk:MP P ro N E ops Q tbl false sp pl fr ds l2)(h:OpE P ro N fr l o (λv' l'=>v'=undef/\l'=l2):=by exact zst)(hw:o.guard=none:=by rfl)(hd:o.dst=none:=by rfl)(ha:(sp.map Prod.fst).all (λq=>FP tbl i q)=true:=by kernel_rfl):MP P ro N E ops Q tbl g sp ((i,false,o)::pl) fr ds l:=
 ⟨λhs=>HL h hw hd (λ_ _ _ _ h=>nomatch h) (λ_ _ _ x hx hn=>Dk ha hx hn) λv l' k=>by rw[k.2];exact hk.h λh=>by cases h⟩
theorem Is(h:OpE P ro N fr l o K)(hl: ∀v l',K v l'-> ∀c,c∈l->c∈l')(hk: ∀v l',K v l'->MP P ro N E ops Q tbl g sp pl ((d,v)::fr) ds l')(hw:o.guard=none:=by rfl)(hd:o.dst=some d:=by rfl)(hb:Nat.blt d N=true:=by rfl)(hg:g=true:=by rfl):MP P ro N E ops Q tbl g sp ((i,false,o)::pl) fr ds l:=
 ⟨λhs=>Hi h hw hd hb (λ_ _ _ _ h=>nomatch h) (λv l' k x hx _ c hc=>hl v l' k c (hs hg x hx c hc)) λv l' k=>(hk v l' k).h λh x hx c hc=>hl v l' k c (hs h x hx c hc)⟩
theorem qr{fr:Fr}{l l0:Ac}{y:Value}(hr:fn.results=rs.toArray:=by rfl)(h:ResS P fr l rs vs:=by exact Ba)(hk:Keep l l0:=by exact zKp)(hx:JQ vs=y:=by exact zLf):C3 N E (bodyPostM Fence.wide 0 P fn (RK E λv l'=>v=y/\l'=l0)) .ret fr [] l:=AU [] l hr .refl h hk ⟨hx,rfl⟩
theorem CG(k:H)(h:Bx H->G:=by(intro k;(repeat(first|refine RE ?_|(show MP _ _ _ _ _ _ _ _ _ ((_,true,⟨_,.load _ _,_,_,_,_⟩)::_) _ _ _;refine ff ?_)|(show MP _ _ _ _ _ _ _ _ _ ((_,true,⟨_,.call _,_,_,_,_⟩)::_) _ _ _;first|refine mqa ?_|refine Y4 ?_|refine ff ?_)|(show MP _ _ _ _ _ _ _ _ _ ((_,true,_)::_) _ _ _;first|refine Y4 ?_|refine ff ?_)|(show MP _ _ _ _ _ _ _ _ _ ((_,false,_)::_) _ _ _;refine my ?_)));exact k.h)):G:=h ⟨k⟩
def yJ(P:Program)(ro:Option Nat)(c:Code)(Q:Exit->Act->World->Prop)(m:Nat):Act->World->Prop:=λa W=>Code.roundsIn (Fw ro) 0 P c Q m a W
theorem Io(m:Nat)(h:BS P ro N E c (Exit.then (yJ P ro c Q m) Q) fr ds l):BS P ro N E (.loop c) Q fr ds l:=⟨λa W hf hds hs=>wpIn_loop_rounds (m+1) (h.run a W hf hds hs)⟩
theorem Fk(h:BS P ro N E c (Exit.then (yJ P ro c Q m) Q) fr ds l):C3 N E (Exit.then (yJ P ro c Q (m+1)) Q) .normal fr ds l:=⟨λa W hf hds hs=>h.run a W hf hds hs⟩
end
section
variable{fr:Fr}{l:Ac}{d:Nat}
theorem AP(h:OpE P ro N fr l o K)(hk: ∀v l',K v l'->DC P ro N E ops Q A6 ((d,v)::fr) ds l')(hw:o.guard=none:=by rfl)(hd:o.dst=some d:=by rfl)(hb:Nat.blt d N=true:=by rfl):DC P ro N E ops Q (o::A6) fr ds l:=kT h hw hd hb hk
theorem Be(h:OpQ P ro N fr l o v)(hk:DC P ro N E ops Q A6 ((d,v)::fr) ds l)(hw:o.guard=none:=by rfl)(hd:o.dst=some d:=by rfl)(hb:Nat.blt d N=true:=by rfl):DC P ro N E ops Q (o::A6) fr ds l:=wn h hw hd hb hk
theorem Bc(hp:Keep l l')(hk:K (JQ vs) l')(hr:fn.results=rs.toArray:=by rfl)(h:ResS P fr l' rs vs:=by exact Ba):C3 N E (bodyPostM Fence.wide 0 P fn (RK E K)) .ret fr [] l:=BF [] hr hp h hk
theorem CY(l2:Ac)(hp:Keep l l2)(p2:Keep l2 l')(hk:K (JQ vs) l')(hr:fn.results=rs.toArray:=by rfl)(h:ResS P fr l2 rs vs:=by exact Ba):C3 N E (bodyPostM Fence.wide 0 P fn (RK E K)) .ret fr [] l:=AU [] l2 hr hp h p2 hk
theorem Fd(h:p:=by(refine Aj ?_;first|exact Bc .refl ⟨rfl,rfl⟩|exact Bc ζ ⟨rfl,rfl⟩|exact Bc θ ⟨rfl,rfl⟩)):p:=h
theorem AO{f:FuncId}{args:Ap}(hf:P.funcs[f]?=some fn)(hn:fn.ntmps=N)(h: ∀E,BS P none N E c (bodyPostM Fence.wide 0 P fn (RK E K)) fr [] l)(hb:fn.body=some c:=by rfl)(ha:Xe 0 args=fr:=by(simp only[Xe];rfl))(hl:Nat.ble args.length fn.ntmps=true:=by rfl):Fn P f args l K:=TE hf hb hl λE=>by rw[ha,hn];exact h E
theorem zPl{a b:List (Nat×Bool)}(h:a=b:=by(simp only[Cy,List.contains_cons,List.contains_nil,Nat.reduceBEq,Nat.reduceAdd,Bool.or_false,Bool.or_true,Mp,Bool.true_or,Bool.not_true,Hy];rfl)):a=b:=h
theorem Ct{plan:List (Nat×Bool)}(ef:List Nat)(n:Nat)(R:Ac)(h:PlanS P ro N E os.toArray Q R (sE os) none [] pl fr ds l)(hR: ∀c,c∈R->c∈l:=by exact Vq)(hp:Cy ef 0 n=plan:=by exact zPl)(ha:Attach os plan pl:=by exact GO)(hm:P.follows .mixedOrders=true:=by kernel_rfl)(hv:Xk os plan (sE os)=true:=by kernel_rfl):BS P ro N E (.region k os.toArray true) Q fr ds l:=J0 plan _ R hm hv ha hR h
end
set_option maxRecDepth 20000
theorem FR{fr:Fr}{d:Option Nat}{aft:Array Edge}{t:Nat}{cs:Ap}{xs:List (Nat×Operand)}{ps:List (Nat×Value)}(hx:bA fr xs=some ps)[c:ZV P t zs][ca:AT P t n e k](PK:Instr.fill (λi=>some (i*k,k)) (τ zs) ps=some (τ cs)):OpQ P ro N fr R ⟨d,.build t (τ xs),ty,pos,aft,g⟩ (.agg (τ cs)):=BO rfl λρ l hρ _=>by
 obtain⟨i,zv,h1,h2,h3⟩:=Kl c.out;obtain⟨HH,k1,k2,k3⟩:=MQ ca.out;simp only[execOp,AE,Instr.build,zeroValue,Dm,hρ.parts hx];rw[<-AE,J9 h1,h2];simp only[Bq];rw[E9 k1];show sl P (sizeOf e>>=_) l _;rw[AE,HK k2];have hz:zv.cells=τ zs:=by rw[<-h3]
 simp only[k3];rw[hz,PK];exact⟨rfl,rfl⟩
abbrev z8:Ap:=[υ 0,υ 0,υ 0,υ 0,υ 0,υ 0,υ 0,υ 0]
def fg(n:Nat):Ap:=replicate (n*8) (υ 0)
theorem mz(n:Nat):fg n=(replicate n z8).flatten:=by
 unfold fg
 induction n with
 |zero=>rfl
 |succ n ih=>rw[BN,CA,<-ih,show(n+1)*8=8+n*8 by omega,<-JK];rfl
theorem sF(h:k<n):Dc (τ (fg n)) (k*8) z8=τ (fg n):=by
 apply Dq;intro j;have Vk:(τ (fg n)).size=n*8:=by simp[fg]
 rw[TU,Vk];by_cases hj:k*8<=j/\j<k*8+8
 ·rw[Ad ⟨hj.1,by simp;omega,Af⟩];obtain⟨i,hi,rfl⟩: ∃i,i<8/\j=k*8+i:=⟨j-k*8,Af,Af⟩
  rw[CN];have h1:(τ (fg n))[k*8+i]?=some (υ 0):=by unfold fg;rw[AF,EE,Ad Af]
  rw[h1];rcases i with _|_|_|_|_|_|_|_|i<;>first|rfl|omega
 ·rw[Ab λh=>hj ⟨h.1,by have:=h.2.1;simp at this;omega⟩]
abbrev PR(b gb n:Nat):Bh:=(b,.cells (τ [.slice (some ⟨gb,0,none⟩) n n]) 253 (0,0))
abbrev frC(gb n:Nat):Bh:=(gb,.cells (τ (fg n)) 254 (0,0))
def IsM(b n:Nat)(lq:Ac):Prop:=1<=n/\n<=64/\ ∃gb,lq=[PR b gb n,frC gb n]
theorem mB(n:Nat)(h1:1<=n)(h2:n<=64)(l:Ac):Fn prog 126 [ι (n:Nat)] l λv l'=> ∃b,v= .tuple #[π b,ι 0]/\ ∃lq,IsM b n lq/\l'=lq++l:=by refine AO func126 ntmps126 λE=>?_;refine Aj ?_;refine AP (Gs (n:=n) (kk:=8) (xs:=fg n) rfl rfl Af Af A0 (mz n)) ?_;rintro _ _ ⟨gb,Sz,rfl,rfl⟩;refine AR λb=>?_;exact Bc .refl ⟨_,rfl,_,⟨h1,h2,gb,rfl⟩,rfl⟩
abbrev BX(B:Nat)(x:Int):Bh:=(B,.cells (τ [ι x]) 3 (0,0))
abbrev Yr(B b:Nat):Bh:=(B,.cells (τ [π b]) 153 (0,0))
theorem Y5(b f:Nat)(l:Ac):Fn prog 183 [π b,ι (f:Nat)] l λv l'=> ∃B1 B2,v= .func (.func 242) #[] #[π B1,π B2]/\l'=BX B1 f::Yr B2 b::l:=by refine AO func183 ntmps183 λE=>?_;refine Aj ?_;refine AP (EA rfl rfl) ?_;rintro _ _ ⟨B2,_,rfl,rfl⟩;refine AP (EA rfl rfl) ?_;rintro _ _ ⟨B1,_,rfl,rfl⟩;refine Aj ?_;exact Bc .refl ⟨_,_,rfl,rfl⟩
theorem P8(h:f<=k)(hk:k<n):(List.range' f (n-f)).take (k+1-f)=(List.range' f (n-f)).take (k-f)++[k]:=by rw[show k+1-f=(k-f)+1 by omega,BP,List.getElem?_range' Af];simp;omega
theorem Wc(B1 B2 b gb n f:Nat)(hf:f<n)(hn:n<=64):FN prog 242 [π B1,π B2] (λx:Nat=>[ι (x:Nat),.pointer (some ⟨gb,x*8,none⟩)]) (λxs=>xs=List.range' f (n-f)) (λpre=>pre<+:List.range' f (n-f))
 (λ_ l=>BX B1 f∈l/\Yr B2 b∈l/\PR b gb n∈l):=by
 refine⟨λr I Ix G0 Cf hY l G hG h0=>?_⟩;obtain⟨n1,n2,n3⟩:=Cf _ _ G hG h0;refine AO func242 ntmps242 λE=>?_;refine Aj ?_;refine CF (α:=Nat×Ac) (λx=>[(0,.func (.yield r) #[] #[]),(2,π B2),(4,ι x.1)]) (λx=>x.2++G) (λx=>f<=x.1/\x.1<=n/\I ((List.range' f (n-f)).take (x.1-f)) x.2) (λx=>n-x.1) (f,l) ⟨Bf _,by simp only;omega,by simp only;rw[Dx];exact h0⟩ ⟨rfl,rfl,rfl,trivial⟩ .refl ?_;clear n1 n2 n3;rintro⟨k,l⟩ ⟨ld,LH,hI⟩;simp only at ld LH hI⊢;obtain⟨n1,n2,n3⟩:=Cf _ _ G hG hI;by_cases C7:k<n
 ·refine Aj ?_;have hy:=hY ((List.range' f (n-f)).take (k-f)) k l G hG hI (by rw[<-P8 ld C7];exact BL _ _);refine AP (C8 rfl rfl hy) ?_;rintro v l' ⟨l1,rfl,⟨rfl,Kz⟩|⟨rfl,hx⟩⟩
  ·refine Aj ?_;exact BZ (k+1,l1) ⟨by simp only;omega,by simp only;omega,by simp only;rw[P8 ld C7];exact Kz⟩ (by simp only;omega) ⟨rfl,rfl,rfl,trivial⟩ .refl
  ·refine Aj ?_;exact BF [] rfl .refl Ba ⟨l1,rfl,.inr ⟨_,by rw[<-P8 ld C7];exact BL _ _,hx⟩⟩
 ·obtain rfl:k=n:=by omega
  rw[BD (by simp)] at hI;refine Aj ?_;exact Bc .refl ⟨l,rfl,.inl ⟨_,rfl,hI⟩⟩
theorem iM(b n f k:Nat)(lq:Ac)(hq:IsM b n lq)(hf:f<n)(hk:k<=n-f)(G:Ac):Fn prog 138 [π b,ι (f:Nat),ι (k:Nat)] (lq++G) λv l'=>v= ι 0/\ ∃X,l'=lq++(X++G):=by
 obtain⟨h1,h2,gb,rfl⟩:=hq;simp only[Ae,Ag];refine AO func138 ntmps138 λE=>?_;refine Aj ?_;refine AP (EA rfl rfl) ?_;rintro _ _ ⟨b4,_,rfl,rfl⟩;refine AP (EA rfl rfl) ?_;rintro _ _ ⟨b5,_,rfl,rfl⟩;refine Aj ?_;refine Ct [] 27 _ ?_ (hR:=(λ_ h=>h));refine BJ ?_;refine Aj ?_;refine AP (Az rfl rfl (Y5 b f _)) ?_;rintro _ _ ⟨B1,B2,rfl,rfl⟩;refine Aj ?_;refine Dj (α:=Nat) (ps:=[42,43]) (lb:=[π B1,π B2]) rfl (Wc B1 B2 b gb n f hf h2) (λ_=>rfl) rfl
  (λpre l=>l=[BX B1 f,Yr B2 b,BX b5 k,BX b4 f,PR b gb n,frC gb n])
  (λc pre l=>c= .exit 1/\l=[BX B1 f,Yr B2 b,BX b5 k,BX b4 f,PR b gb n,frC gb n])
  _ G (λpre l2 X2 hX h=>by rw[h];exact⟨Ai _ Ca,Ai _ Ca,Ai _ Ca⟩) AY rfl ?_ ?_ ?_
 ·rintro E r0 Gb pre x l' T ⟨fn,tmps,D,rfl⟩ hT rfl DG;have hx:f<=x/\x<n:=by
   have h3:x∈List.range' f (n-f):=DG.subset (by simp);rw[LV] at h3;omega
  simp only[DY,Ae,Ag];refine Aj ?_;refine CP D1 (Aj ?_);by_cases hb:(x:Int)-f>=k
  ·refine Aj ?_;refine Fe [BX B1 f,Yr B2 b,BX b5 k,BX b4 f,PR b gb n,frC gb n] AY ⟨rfl,rfl⟩
  ·refine Aj ?_;refine Be (FR (zs:=z8) (cs:=z8) rfl rfl) ?_;refine Acz ?_;apply Nk
   ·exact EG (cs:=τ (fg n)) (n:=8) rfl rfl rfl (by simp[Value.oneCell']) D1 (by simp[fg];omega)
   ·rfl
   ·rfl
   rintro _ _ ⟨rfl,rfl⟩;rw[show(τ z8).toList=z8 from rfl,sF hx.2];refine Aj ?_;exact Cn _ .refl rfl
 ·rintro D xs l' rfl rfl;simp only[Ae,Ag];refine Aj ?_;exact AU [D] _ rfl (l':=PR b gb n::frC gb n::G) AY Ba AY ⟨rfl,[],rfl⟩
 ·rintro D c pre l' DG ⟨rfl,rfl⟩;simp only[Ae,Ag];refine Aj ?_;exact AU [D] _ rfl (l':=PR b gb n::frC gb n::G) AY Ba AY ⟨rfl,[],rfl⟩
end Go.Proofs.YtlifcingifodfaaGreat
