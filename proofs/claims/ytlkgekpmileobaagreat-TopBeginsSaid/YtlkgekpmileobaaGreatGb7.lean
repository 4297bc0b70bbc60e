/- Laws that the statement's proof leans on (joined out of several texts). -/
import Derived.Test.YtlkgekpmileobaaGreatGb6
import Derived.Test.YtlkgekpmileobaaGreatProg
import Derived.KernelRfl
import Derived.Test.YtlkgekpmileobaaGreatGb1
set_option linter.unusedVariables false
set_option linter.unusedSimpArgs false
namespace Go.Proofs.YtlkgekpmileobaaGreat
open Tryz
open List(toArray)
open Go.RowKit
variable{e b n since kk yb:Nat}{k:IntKind}{a:Int}{α:Type}{Q:Value->List Ab->Prop}{l':List Ab}{seen:Array Nat}
abbrev Kl:=Int×Value×Nat
def Mi(k:IntKind)(x:Kl):MapEntry:={key:= .int k x.1,val:=x.2.1,born:=x.2.2}
abbrev Fh(k:IntKind)(es:List Kl)(clock:Nat):Obj:= .map (toArray (es.map (Mi k))) clock
def pX(P:Program)(t:Nat):Option Value:=match P.info? t with
 |some i=>i.zero
 |none=>none
class ZO(P:Program)(t:Nat)(z:outParam Value):Prop where out:pX P t=some z
def Gg(a:Int):List Kl->Nat->Option (Nat×Value)
 |[],_=>none
 |e::es,i=>if a=e.1 then some (i,e.2.1) else Gg a es (i+1)
def J4(a:Int)(es:List Kl):Option Value:=(Gg a es 0).map Prod.snd
def Mw(a:Int)(v:Value)(clock:Nat)(es:List Kl):List Kl×Nat:=match Gg a es 0 with
 |some (i,_)=>(es.modify i λx=>(x.1,v,x.2.2),clock)
 |none=>(es++[(a,v,clock)],clock+1)
def NT(a:Int)(es:List Kl):List Kl:=match Gg a es 0 with
 |some (i,_)=>es.eraseIdx i
 |none=>es
theorem Lr{a:Int}: ∀{es:List Kl} {i:Nat},Gg a es i=none<-> ∀e∈es,e.1≠a
 |[],i=>by simp[Gg]
 |e::es,i=>by
  unfold Gg
  split
  ·rename_i h;subst h;simp
  ·rename_i h;rw[Lr];simp only[Aq,forall_eq_or_imp];exact⟨λh2=>⟨λe'=>h e'.symm,h2⟩,λh2=>h2.2⟩
theorem NU{a:Int}: ∀{es:List Kl} {i k:Nat} {v:Value},Gg a es i=some (k,v)->i<=k/\ ∃e,es[k-i]?=some e/\e.1=a/\e.2.1=v/\ ∀j,j<k-i-> ∀e',es[j]?=some e'->e'.1≠a
 |[],i,k,v,h=>by simp[Gg] at h
 |e::es,i,k,v,h=>by
  unfold Gg at h
  split at h
  ·rename_i ha;cases h;exact⟨A5 _,e,by simp,ha.symm,rfl,λj hj=>by omega⟩
  ·rename_i ha;obtain⟨h1,e',h2,h3,h4,h5⟩:=NU h;refine⟨Af,e',?_,h3,h4,λj hj e2 he2=>?_⟩
   ·rw[show k-i=(k-(i+1))+1 by omega];simpa using h2
   ·cases j with
    |zero=>simp only[Dc,H0] at he2;subst he2;exact λe'=>ha e'.symm
    |succ j=>exact h5 j Af e2 (by simpa using he2)
theorem QX(k:IntKind)(a:Int): ∀(es:List Kl) (i:Nat),Instr.findNow (.int k) (.int k a) (es.map (Mi k)) i=some (Gg a es i)
 |[],i=>rfl
 |e::es,i=>by
  rw[AJ];unfold Instr.findNow;simp only[Mi,Instr.sameNow,CT];unfold Gg;by_cases h:a=e.1
  ·rw[show(a==e.1)=true by simpa using h,Ae h]
  ·rw[show(a==e.1)=false by simpa using h,Ac h];exact QX k a es (i+1)
section
variable{P:Program}{ro:Option Nat}{N:Nat}{fr:Fr}{R l:List Ab}{d:Option Nat}{ty:TypeId}{pos:String}{aft:Array Edge}{g:Option (Nat×Bool)}{x y z:Operand}{v u w:Value}{m:Nat}{t t2 T kt et:TypeId}{es:List Kl}{clock:Nat}
theorem Ig{T k:Nat}(h:tg P T=some (k,e)):P.underlying T=some (.map k e):=by unfold tg at h;split at h<;>simp_all
theorem QY{t:Nat}(h:i8 P t=some k):P.underlying t=some (.int k):=by unfold i8 at h;split at h<;>simp_all
theorem E4{Q:α->List Ab->Prop}(a:α):sl P (Sem.pure a) l Q<->Q a l:=Di
theorem au{Q:α->List Ab->Prop}{f:Nat->Sem α}{q:Question}:sl P (choose q>>=f) l Q<-> ∀t,sl P (f (if q.forced=true then 0 else q.cut t)) l Q:=Di
theorem Km{Q:Unit->List Ab->Prop}{empty:Bool}(h:i8 P kt=some k):sl P (Instr.checkKey empty (n+1) kt (.int k a)) l Q<->Q () l:=by unfold Instr.checkKey;rw[BX (QY h)];exact Di
theorem Ls{Q:Option (Nat×Value)->List Ab->Prop}(h:i8 P kt=some k):sl P (Instr.findKey kt (.int k a) (es.map (Mi k))) l Q<->Q (Gg a es 0) l:=by unfold Instr.findKey;rw[BX (QY h),QX];exact Di
theorem Uk{zv:Value}(h:pX P et=some zv):sl P (zeroValue et) l Q<->Q zv l:=by
 unfold pX at h
 split at h
 ·rename_i i hi;unfold zeroValue;rw[IQ hi,h];exact Di
 ·cases h
theorem dC{zv:Value}(hx:ev fr x=some (.map (some m)))(hy:ev fr y=some (.int k a))[c:MT P T kt et][ci:IT P kt k][cz:ZO P et zv](hm:(m,Fh k es clock)∈R):OpQ P ro N fr R ⟨d,.lookup T x y false,ty,pos,aft,g⟩ ((J4 a es).getD zv):=BL rfl λρ l hρ hR=>by
 simp only[execOp,hρ x _ hx,hρ y _ hy,AB];unfold Instr.lookup;rw[BX (Ig c.out)];simp only[AB];refine⟨_,hR _ hm,rfl,?_⟩;simp only[Bj,E4,AB];rw[Km ci.out,Ls ci.out];unfold J4;cases h:Gg a es 0 with
 |none=>simp only[AB];rw[Uk cz.out];exact⟨rfl,rfl⟩
 |some p=>exact⟨rfl,rfl⟩
theorem av{zv:Value}(hx:ev fr x=some (.map (some m)))(hy:ev fr y=some (.int k a))[c:MT P T kt et][ci:IT P kt k][cz:ZO P et zv](hm:(m,Fh k es clock)∈R):OpQ P ro N fr R ⟨d,.lookup T x y true,ty,pos,aft,g⟩ (.tuple #[(J4 a es).getD zv,.bool (J4 a es).isSome]):=BL rfl λρ l hρ hR=>by
 simp only[execOp,hρ x _ hx,hρ y _ hy,AB];unfold Instr.lookup;rw[BX (Ig c.out)];simp only[AB];refine⟨_,hR _ hm,rfl,?_⟩;simp only[Bj,E4,AB];rw[Km ci.out,Ls ci.out];unfold J4;cases h:Gg a es 0 with
 |none=>simp only[AB];rw[Uk cz.out];exact⟨rfl,rfl⟩
 |some p=>exact⟨rfl,rfl⟩
theorem Na:OpE P ro N fr l ⟨d,.makeMap T none,ty,pos,aft,g⟩ (λv' l'=> ∃b,(∀c,c∈l->c.1≠b)/\v'= .map (some b)/\l'=(b,.map #[] 0)::l):=Do rfl λρ hρ=>by simp only[execOp,AB];unfold Instr.makeMap;simp only[DF,AB,Bj];intro b hb;exact⟨b,hb,rfl,rfl⟩
theorem VB:sl P (Instr.keyThatStays (.int k a) (.int k a)) l Q<->Q (.int k a) l:=by unfold Instr.keyThatStays;rw[Ae (by simp[Instr.sameBits])];exact Di
theorem Xl(es:List Kl)(i:Nat)(v:Value)(e:Kl)(he:es[i]?=some e):(toArray (es.map (Mi k))).modify i (λx=>{key:= .int k e.1,val:=v,born:=x.born})=toArray ((es.modify i λx=>(x.1,v,x.2.2)).map (Mi k)):=by
 apply BJ.1;rw[Hd];simp only;apply Dq;intro j;rw[List.getElem?_modify,A0,A0,List.getElem?_modify];by_cases h:i=j
 ·subst h;rw[he];simp[Mi]
 ·cases es[j]?<;>simp[h]
theorem Kn(hx:ev fr x=some (.map (some m)))(hy:ev fr y=some (.int k a))(hz:ev fr z=some v)[c:MT P T kt et][ci:IT P kt k](hu:Upd l m (Fh k es clock) (Fh k (Mw a v clock es).1 (Mw a v clock es).2) l'):
 OpE P ro N fr l ⟨d,.mapUpdate T x y z,ty,pos,aft,g⟩ (λv' l2=>v'=undef/\l2=l'):=Do rfl λρ hρ=>by
 simp only[execOp,hρ x _ hx,hρ y _ hy,hρ z _ hz];rw[AB];unfold Instr.mapUpdate;rw[BX (Ig c.out)];simp only[AB];refine⟨_,hu.mem,rfl,?_⟩;simp only[Bj,E4,AB];rw[Km ci.out,Ls ci.out];unfold Mw at hu;cases h:Gg a es 0 with
 |none=>
  rw[h] at hu;simp only at hu⊢;refine⟨Fh k es clock,l',?_,rfl,⟨rfl,rfl⟩⟩;have e:(toArray (es.map (Mi k))).push {key:= .int k a,val:=v,born:=clock}=toArray ((es++[(a,v,clock)]).map (Mi k)):=by simp[Mi]
  rw[e];exact hu
 |some p=>
  obtain⟨i,u⟩:=p;rw[h] at hu;simp only at hu⊢;obtain⟨_,e,he,h1,_,_⟩:=NU h;rw[Nat.sub_zero] at he;subst h1;have hk:(((toArray (es.map (Mi k)))[i]?).map (·.key)).getD (.int k e.1)= .int k e.1:=by simp[he,Mi]
  simp only[AB];rw[hk,VB];refine⟨Fh k es clock,l',?_,rfl,⟨rfl,rfl⟩⟩;rw[Xl es i v e he];exact hu
theorem QZ{T2:TypeId}(hx:ev fr x=some (.map (some m)))(hy:ev fr y=some (.int k a))[c:MT P T kt et][ci:IT P kt k](hu:Upd l m (Fh k es clock) (Fh k (NT a es) clock) l'):
 OpE P ro N fr l ⟨d,.call {callee:= .builtin .delete,args:=#[x,y],argTypes:=#[T,T2]},ty,pos,aft,g⟩ (λv' l2=>v'= .tuple #[]/\l2=l'):=Do rfl λρ hρ=>by
 simp only[execOp,resolve,AB,Bj,invoke,builtin,Da,AJ,CY,hρ x _ hx,hρ y _ hy];unfold Builtin.delete_;simp only[AE,Dc,C9,AB];rw[EU (Ig c.out)];simp only[AB];refine⟨_,hu.mem,rfl,?_⟩;simp only[Bj,E4,AB];rw[Km ci.out,Ls ci.out];unfold NT at hu;cases h:Gg a es 0 with
 |none=>rw[h] at hu;exact⟨Fh k es clock,l',hu,rfl,⟨rfl,rfl⟩⟩
 |some p=>
  obtain⟨i,u⟩:=p;rw[h] at hu;refine⟨Fh k es clock,l',?_,rfl,⟨rfl,rfl⟩⟩;have e:(toArray (es.map (Mi k))).eraseIdxIfInBounds i=toArray ((es.eraseIdx i).map (Mi k)):=by apply BJ.1;simp only[Ir];rw[C4,C4,Ap,FA,List.map_drop]
  rw[e];exact hu
theorem Y0(hx:ev fr x=some (.map (some m)))[c:MT P T kt et](hm:(m,Fh k es clock)∈l):OpE P ro N fr l ⟨d,.range T x,ty,pos,aft,g⟩ (λv' l'=> ∃b,(∀c,c∈l->c.1≠b)/\v'= .pointer (some ⟨b,0,none⟩)/\l'=(b,.mapIter (some m) clock #[] clock)::l):=Do rfl λρ hρ=>by simp only[execOp,hρ x _ hx,AB];unfold Instr.range;rw[AB,EU (Ig c.out)];simp only[AB];refine⟨_,hm,rfl,?_⟩;simp only[Bj,E4,AB];intro b hb;exact⟨b,hb,rfl,rfl⟩
theorem dD{F:List Ab}{last:Nat}(hx:ev fr x=some (.pointer (some ⟨b,0,none⟩)))(hm:(m,Fh k es clock)∈F)(hold: ∀e∈es,e.2.2<since)(hsl:since<=last):
 OpE P ro N fr ((b,.mapIter (some m) since seen last)::F) ⟨d,.next x false,ty,pos,aft,g⟩ (λv' l'=>(v'= .tuple #[.bool false]/\l'=(b,.mapIter (some m) since seen last)::F/\ ∀e∈es,e.2.2∈seen.toList)\/
  ∃e∈es,e.2.2∉seen.toList/\v'= .tuple #[.bool true,.int k e.1,e.2.1]/\l'=(b,.mapIter (some m) since (seen.push e.2.2) clock)::F):=Do rfl λρ hρ=>by
 simp only[execOp,hρ x _ hx,AB];unfold Instr.next;simp only[AB];refine⟨_,Ak,rfl,?_⟩;simp only[Bj,E4,AB];refine⟨_,An _ hm,rfl,?_⟩;simp only[Bj,E4,AB];have hmem: ∀y:MapEntry,y∈es.map (Mi k)->y.born<since:=λy hy=>by rw[Au] at hy;obtain⟨e,he,rfl⟩:=hy;exact hold e he
 have hany:(!seen.isEmpty&&!(toArray (es.map (Mi k))).isEmpty&&(toArray (es.map (Mi k))).all (λe=>decide (e.born>=last)))=false:=by
  cases hes:es with
  |nil=>simp
  |cons e0 r=>
   have:=hold e0 (by rw[hes];exact Ak);have hlt:¬last<=e0.2.2:=by omega
   simp[Mi,hlt]
 rw[hany];simp only[Bg,CS];obtain⟨L,hL⟩: ∃L:List Kl,L=es.filter λe=>!seen.contains e.2.2:=⟨_,rfl⟩
 have eL:(toArray (es.map (Mi k))).filter (λe=>!seen.contains e.born)=toArray (L.map (Mi k)):=by apply BJ.1;rw[Array.toList_filter];simp only[hL,List.filter_map];congr 1
 have hLm: ∀y:MapEntry,y∈L.map (Mi k)->y.born<since:=λy hy=>by rw[Au] at hy;obtain⟨e,he,rfl⟩:=hy;rw[hL] at he;exact hold e (Cr.1 he).1
 rw[eL];have e1:(toArray (L.map (Mi k))).filter (λx=>decide (x.born<since))=toArray (L.map (Mi k)):=Array.filter_eq_self.2 λy hy=>by simpa using hLm y (by simpa using hy)
 have e2:(toArray (L.map (Mi k))).filter (λx=>decide (x.born>=since))=#[]:=by rw[Array.filter_eq_empty_iff];intro y hy;have:=hLm y (by simpa using hy);simp;omega
 simp only[e1,e2,JB];rw[au];intro tp;cases hLL:L with
 |nil=>
  have hnil:es.filter (λe=>!seen.contains e.2.2)=[]:=by rw[<-hL,hLL]
  have hq:(Question.mapNext 1).forced=true:=by simp[Question.forced]
  simp[hq];refine .inl ⟨rfl,rfl,λe1 e2 e3 he=>?_⟩;have:=List.filter_eq_nil_iff.1 hnil (e1,e2,e3) he;simpa using this
 |cons e0 r=>
  have hne:(toArray ((e0::r).map (Mi k))).isEmpty=false:=by simp
  simp only[hne,Bg,CS,JC,Array.size_map];obtain⟨j,hj,hjlt⟩: ∃j,(if(Question.mapNext (toArray ((e0::r).map (Mi k))).size).forced=true then 0 else(Question.mapNext (toArray ((e0::r).map (Mi k))).size).cut tp)=j/\j<(e0::r).length:=by
   refine⟨_,rfl,?_⟩
   split
   ·simp
   ·simp only[Question.cut,Bm,AZ];exact Gy _ (by simp)
  rw[hj];have hget:((toArray ((e0::r).map (Mi k))).map some)[j]?=some (some (Mi k (e0::r)[j])):=by rw[Array.getElem?_map,AE,A0,Am hjlt];rfl
  rw[hget];have hin:(e0::r)[j]∈L:=by rw[hLL];exact IB hjlt
  rw[hL] at hin;obtain⟨hi1,hi2⟩:=Cr.1 hin;refine⟨.mapIter (some m) since seen last,_,.here,rfl,.inr ⟨_,hi1,by simpa using hi2,rfl,rfl⟩⟩
theorem S8: ∀{es:List Kl} {e:Kl},e∈es->(es.map (·.2.2)).Nodup->(es.map (Mi k)).find? (λx=>x.born==e.2.2)=some (Mi k e)
 |[],e,h,_=>by cases h
 |e0::es,e,h,hn=>by
  rw[AJ,AM] at hn;rw[AJ,BB];rcases Aq.1 h with rfl|h
  ·simp[Mi]
  ·have hne:((Mi k e0).born==e.2.2)=false:=by
    have:e0.2.2≠e.2.2:=λh2=>hn.1 (by rw[h2];exact Au.2 ⟨e,h,rfl⟩);simpa[Mi] using this
   rw[hne];exact S8 h hn.2
theorem Y1{e:Kl}(hx:ev fr x=some (.pointer (some ⟨b,0,none⟩)))(hi:(b,.mapIter (some m) since (seen.push e.2.2) clock)∈R)(hm:(m,Fh k es clock)∈R)(he:e∈es)(hn:(es.map (·.2.2)).Nodup):
 OpQ P ro N fr R ⟨d,.entry x,ty,pos,aft,g⟩ (.tuple #[.int k e.1,e.2.1]):=BL rfl λρ l hρ hR=>by
 simp only[execOp,hρ x _ hx,AB];unfold Instr.entry;simp only[AB];refine⟨_,hR _ hi,rfl,?_⟩;simp only[Bj,E4,Array.back?_push,AB];refine⟨_,hR _ hm,rfl,?_⟩;have hf:(toArray (es.map (Mi k))).find? (·.born==e.2.2)=some (Mi k e):=by rw[<-Array.find?_toList];exact S8 he hn
 simp only[Bj,E4,bne_self_eq_false,Bg,CS,hf];exact⟨rfl,trivial⟩
theorem aw{p:Option Addr}{cap:Nat}(hx:ev fr x=some (.slice p n cap))(hy:ev fr y=some (.slice none 0 0))[c:ST P t e kk yb]:OpQ P ro N fr R ⟨d,.binOp .eql t x y t2,ty,pos,aft,g⟩ (.bool p.isNone):=BL rfl λρ l hρ _=>by obtain⟨inf,u1,_⟩:=Ev c.out;simp only[execOp,hρ x _ hx,hρ y _ hy,AB,Xc,Bj,binOp];unfold Op.equal Op.maxDepth Op.equalIn;rw[BX u1];cases p<;>exact⟨rfl,rfl⟩
theorem dE{T:Nat}[c:ST P T e kk yb]:OpE P ro N fr l ⟨d,.buildSlice T 0 #[],ty,pos,aft,g⟩ (λv' l'=> ∃b,(∀c,c∈l->c.1≠b)/\v'= .slice (some ⟨b,0,none⟩) 0 0/\l'=(b,.cells #[] e (0,0))::l):=Do rfl λρ hρ=>by
 obtain⟨inf,u1,u2,_⟩:=Ev c.out;simp only[execOp,AB];unfold Instr.buildSlice;rw[BX u1];simp only;rw[EW u2];simp only[FY,CT,AB];rw[Ac Af];have hf:Instr.fill (λi=>some (i*inf.size,inf.size)) (Array.map (λx=>(#[]:Array Value)[x%(#[]:Array Value).size]!) (Array.range 0)) ((#[]:Array (Nat×Operand)).map λx=>(x.1,ρ x.2)).toList=some #[]:=by simp[Instr.fill]
 simp only[Bj,AB,newRow];rw[hf];simp only[Bj,AB];intro b hb;exact⟨b,hb,rfl,rfl⟩
theorem OwnSl.empty{k:Nat}:OwnSl e k (.slice (some ⟨b,0,none⟩) 0 0) 0 [] [(b,.cells #[] e (0,0))]:=
 ⟨by simp,.inr ⟨b,0,[],rfl,rfl,Af,by unfold maxLen;omega,by simp⟩⟩
end
end Go.Proofs.YtlkgekpmileobaaGreat
namespace Go.Proofs.YtlkgekpmileobaaGreat
open Tryz
open List(toArray)
variable{P:Program}{t n f:Nat}{l:List (Nat×Nat)}
class Vl(a:Nat)(r:outParam Nat):Prop where e:a=r
instance(a:Nat):Vl a a:=⟨rfl⟩
def mkA(p:Nat->Bool)(m:Nat):Nat->Bool
 |0=>true
 |n+1=>(Nat.land (Nat.shiftRight m n) 1==0||p n)&&mkA p m n
theorem mkA.at'{p:Nat->Bool}{m f:Nat}(h:Nat.land (Nat.shiftRight m f) 1=1): ∀n,mkA p m n=true->f<n->p f=true
 |n+1,ha,hf=>by
  unfold mkA at ha;simp only[AX] at ha;rcases Nat.lt_succ_iff_lt_or_eq.1 hf with h1|h1
  ·exact mkA.at' h n ha.2 h1
  ·subst h1;have:=ha.1;rw[h] at this;exact this
theorem S9{p:Nat->Bool}{m:Nat}(hm:Nat.shiftRight m n=0)(ha:mkA p m n=true)(h:Nat.land (Nat.shiftRight m f) 1=1):p f=true:=by
 by_cases hf:f<n
 ·exact mkA.at' h n ha hf
 ·have h2:m>>>f=0:=by
   rw[show f=n+(f-n) by omega,Nat.shiftRight_add,show m>>>n=0 from hm,Nat.zero_shiftRight]
  rw[show Nat.shiftRight m f=0 from h2] at h;cases h
def enB(P:Program)(f:Nat):Bool:=match P.funcs[f]? with
 |some fn=>!(fn.name== "runtime.NumGoroutine")&&!fn.body.isNone
 |none=>false
theorem enB.en(h:enB P f=true):EN P f:=by
 unfold enB at h;cases e:P.funcs[f]? with
 |none=>rw[e] at h;cases h
 |some fn=>rw[e] at h;simp only[AX,Ex] at h;refine⟨λargs w=>?_⟩;simp[callFunc,go_sem,e];rw[Ac λh2=>by rw[h2] at h;simp at h,Ac λh2=>by rw[h2] at h;simp at h]
def zoB(P:Program)(q:Value->Bool)(t:Nat):Bool:=match pX P t with
 |some z=>q z
 |none=>false
def nJ:Value->Bool
 | .agg _=>true
 |_=>false
def ocB(P:Program)(t:Nat):Bool:=i7 P t&&zoB P (λz=>!nJ z) t
def zeB:Value->Value->Bool
 | .nilFunc,.nilFunc=>true
 | .pointer none,.pointer none=>true
 | .slice none 0 0,.slice none 0 0=>true
 | .map none,.map none=>true
 |_,_=>false
theorem zoB.out{q:Value->Bool}(h:zoB P q t=true): ∃z,q z=true/\pX P t=some z/\nz P t=some z.cells.toList:=by
 unfold zoB at h
 split at h
 ·rename_i z hz;refine⟨z,h,hz,?_⟩;unfold pX at hz;unfold nz;cases hi:P.info? t with
  |none=>rw[hi] at hz;cases hz
  |some i=>rw[hi] at hz;have hz':i.zero=some z:=hz;show(match i.zero with|some z=>some z.cells.toList|none=>none)=_;rw[hz']
 ·cases h
theorem zeB.zv{v:Value}(h:zoB P (zeB v) t=true):ZV P t [v]:=by
 obtain⟨z,h1,_,h3⟩:=zoB.out h;refine⟨?_⟩;rw[h3];unfold zeB at h1
 split at h1<;>first|rfl|cases h1
theorem ocB.zo{z:Value}(h:ocB P t=true)(hz:ZV P t [z]):ZO P t z:=by unfold ocB at h;rw[AX] at h;obtain⟨y,h1,h2,h3⟩:=zoB.out h.2;refine⟨?_⟩;rw[h2];have h4:=hz.out;rw[h3] at h4;cases y<;>first|(cases h1;done)|(cases h4;rfl)
theorem agB.zo{l:List Value}(h:zoB P nJ t=true)(hz:ZV P t l):ZO P t (.agg (toArray l)):=by obtain⟨y,h1,h2,h3⟩:=zoB.out h;refine⟨?_⟩;rw[h2];have h4:=hz.out;rw[h3] at h4;cases y<;>first|(cases h1;done)|(cases h4;rfl)
def svB(P:Program)(t n:Nat)(l:List (Nat×Nat)):Bool:=match P.underlying t,P.info? t with
 |some (.struct fs),some j=>fs.toList.map (λf=>(f.offset,f.type))==l&&fs.toList.all (λf=>match P.info? f.type with
  |some i=>!(i.size==0)
  |none=>false)&&j.size==n
 |_,_=>false
class SV(P:Program)(t:Nat)(n:outParam Nat)(l:outParam (List (Nat×Nat))):Prop where out:svB P t n l=true
class LG(l:List (Nat×Nat))(i:Nat)(x:outParam (Nat×Nat)):Prop where out:l[i]?=some x
instance(a:Nat×Nat)(l:List (Nat×Nat)):LG (a::l) 0 a:=⟨rfl⟩
instance(a b:Nat×Nat)(l:List (Nat×Nat))(i:Nat)[h:LG l i b]:LG (a::l) (i+1) b:=⟨h.out⟩
theorem svB.out(h:svB P t n l=true): ∃fs j,P.underlying t=some (.struct fs)/\P.info? t=some j/\j.size=n/\fs.toList.map (λf=>(f.offset,f.type))=l/\ ∀f,f∈fs.toList-> ∃i,P.info? f.type=some i/\i.size≠0:=by
 unfold svB at h
 split at h
 ·rename_i fs j h1 h2;rw[AX,AX,A6] at h;refine⟨fs,j,h1,h2,by simpa using h.2,by simpa using h.1.1,λf hf=>?_⟩;have h3:=h.1.2 f hf
  split at h3
  ·rename_i i hi;exact⟨i,hi,by simpa using h3⟩
  ·cases h3
 ·cases h
theorem LG.at'(h:SV P t n l){x:Nat×Nat}(hx:LG l f x): ∃(fs:Array Field) (fd:Field) (i:TypeInfo),P.underlying t=some (.struct fs)/\fs[f]?=some fd/\fd.offset=x.1/\fd.type=x.2/\P.info? fd.type=some i/\i.size≠0:=by
 obtain⟨fs,j,h1,h2,h3,h4,h5⟩:=svB.out h.out;have h6:=hx.out;rw[<-h4,A0] at h6;cases e:fs.toList[f]? with
 |none=>rw[e] at h6;cases h6
 |some fd=>rw[e] at h6;cases h6;obtain⟨i,hi,hz⟩:=h5 fd (A9 e);exact⟨fs,fd,i,h1,by simpa using e,rfl,rfl,hi,hz⟩
instance(P:Program)(s n f k t:Nat)(l:List (Nat×Nat))[h:SV P s n l][hx:LG l f (k,t)]:FV P s f k t:=⟨by obtain⟨fs,fd,i,h1,h2,h3,h4,_⟩:=LG.at' h hx;unfold sE;rw[h1];simp only[h2,BH,h3,h4]⟩
instance(P:Program)(s n f k t:Nat)(l:List (Nat×Nat))[h:SV P s n l][hx:LG l f (k,t)]:FO P s f k:=⟨by obtain⟨fs,fd,i,h1,h2,h3,h4,h5,h6⟩:=LG.at' h hx;unfold sD;rw[h1];simp only[h2,h5,Ac h6,h3]⟩
instance(P:Program)(t n:Nat)(l:List (Nat×Nat))[h:SV P t n l]:BT P t:=⟨by obtain⟨fs,j,h1,_,_,_,h5⟩:=svB.out h.out;unfold to;rw[h1];show fs.all _=true;rw[<-Array.all_toList,A6];intro f hf;obtain⟨i,hi,_⟩:=h5 f hf;rw[hi];rfl⟩
instance(P:Program)(t n:Nat)(l:List (Nat×Nat))[h:SV P t n l]:AG P t n:=⟨by obtain⟨fs,j,h1,h2,h3,_⟩:=svB.out h.out;unfold nA;rw[h1,h2];exact BM some h3⟩
theorem Eo{t z}(h:nz prog t=some z:=by kernel_rfl):ZV prog t z:=⟨h⟩
theorem Xm{t z}(h:nA prog t=some z:=by kernel_rfl):AG prog t z:=⟨h⟩
theorem Md{t z}(h:sG prog t=some z:=by kernel_rfl):PT prog t z:=⟨h⟩
theorem Fe{t n l}(h:svB prog t n l=true:=by kernel_rfl):SV prog t n l:=⟨h⟩
instance:IT prog 3 .i64:=⟨Bv⟩
instance:ZV prog 3 [.int .i64 0]:=Eo
instance:ZV prog 4 [.bool false]:=Eo
instance:SV prog 23 4 [(0,3),(1,3),(2,3),(3,4)]:=Fe
instance:ZV prog 23 [.int .i64 0,.int .i64 0,.int .i64 0,.bool false]:=Eo
instance:ST prog 24 39 15 120:=⟨Bv⟩
instance:PT prog 27 121:=Md
instance:ZV prog 29 [.int .i64 0]:=Eo
instance:ST prog 30 69 12 96:=⟨Bv⟩
instance:SV prog 32 2 [(0,29),(1,30)]:=Fe
instance:ZV prog 32 [.int .i64 0,.slice none 0 0]:=Eo
instance:IT prog 34 .u64:=⟨Bv⟩
instance:AT prog 35 6 34 1:=⟨Bv⟩
instance:AG prog 35 6:=Xm
instance:ZV prog 35 [.int .u64 0,.int .u64 0,.int .u64 0,.int .u64 0,.int .u64 0,.int .u64 0]:=Eo
instance:SV prog 37 7 [(0,34),(1,35)]:=Fe
instance:ZV prog 37 [.int .u64 0,.int .u64 0,.int .u64 0,.int .u64 0,.int .u64 0,.int .u64 0,.int .u64 0]:=Eo
instance:SV prog 39 15 [(0,3),(1,3),(2,3),(3,37),(10,34),(11,34),(12,3),(13,3),(14,3)]:=Fe
instance:ZV prog 39 [.int .i64 0,.int .i64 0,.int .i64 0,.int .u64 0,.int .u64 0,.int .u64 0,.int .u64 0,.int .u64 0,.int .u64 0,.int .u64 0,.int .u64 0,.int .u64 0,.int .i64 0,.int .i64 0,.int .i64 0]:=Eo
instance:ST prog 40 3 1 8:=⟨Bv⟩
instance:ST prog 43 100 9 72:=⟨Bv⟩
instance:ST prog 44 132 10 80:=⟨Bv⟩
instance:ST prog 45 130 3 24:=⟨Bv⟩
instance:ST prog 46 79 24 176:=⟨Bv⟩
instance:AT prog 47 4 3 1:=⟨Bv⟩
instance:AG prog 47 4:=Xm
instance:ZV prog 47 [.int .i64 0,.int .i64 0,.int .i64 0,.int .i64 0]:=Eo
instance:SV prog 49 10 [(0,3),(1,4),(2,47),(6,47)]:=Fe
instance:ZV prog 49 [.int .i64 0,.bool false,.int .i64 0,.int .i64 0,.int .i64 0,.int .i64 0,.int .i64 0,.int .i64 0,.int .i64 0,.int .i64 0]:=Eo
instance:AT prog 50 8 49 10:=⟨Bv⟩
instance:AG prog 50 80:=Xm
instance:ZV prog 50 [.int .i64 0,.bool false,.int .i64 0,.int .i64 0,.int .i64 0,.int .i64 0,.int .i64 0,.int .i64 0,.int .i64 0,.int .i64 0,.int .i64 0,.bool false,.int .i64 0,.int .i64 0,.int .i64 0,.int .i64 0,.int .i64 0,.int .i64 0,.int .i64 0,.int .i64 0,.int .i64 0,.bool false,.int .i64 0,.int .i64 0,.int .i64 0,.int .i64 0,.int .i64 0,.int .i64 0,.int .i64 0,.int .i64 0,.int .i64 0,.bool false,.int .i64 0,.int .i64 0,.int .i64 0,.int .i64 0,.int .i64 0,.int .i64 0,.int .i64 0,.int .i64 0,.int .i64 0,.bool false,.int .i64 0,.int .i64 0,.int .i64 0,.int .i64 0,.int .i64 0,.int .i64 0,.int .i64 0,.int .i64 0,.int .i64 0,.bool false,.int .i64 0,.int .i64 0,.int .i64 0,.int .i64 0,.int .i64 0,.int .i64 0,.int .i64 0,.int .i64 0,.int .i64 0,.bool false,.int .i64 0,.int .i64 0,.int .i64 0,.int .i64 0,.int .i64 0,.int .i64 0,.int .i64 0,.int .i64 0,.int .i64 0,.bool false,.int .i64 0,.int .i64 0,.int .i64 0,.int .i64 0,.int .i64 0,.int .i64 0,.int .i64 0,.int .i64 0]:=Eo
instance:SV prog 52 86 [(0,43),(1,44),(2,45),(3,46),(4,50),(84,40),(85,40)]:=Fe
instance:ZV prog 52 [.slice none 0 0,.slice none 0 0,.slice none 0 0,.slice none 0 0,.int .i64 0,.bool false,.int .i64 0,.int .i64 0,.int .i64 0,.int .i64 0,.int .i64 0,.int .i64 0,.int .i64 0,.int .i64 0,.int .i64 0,.bool false,.int .i64 0,.int .i64 0,.int .i64 0,.int .i64 0,.int .i64 0,.int .i64 0,.int .i64 0,.int .i64 0,.int .i64 0,.bool false,.int .i64 0,.int .i64 0,.int .i64 0,.int .i64 0,.int .i64 0,.int .i64 0,.int .i64 0,.int .i64 0,.int .i64 0,.bool false,.int .i64 0,.int .i64 0,.int .i64 0,.int .i64 0,.int .i64 0,.int .i64 0,.int .i64 0,.int .i64 0,.int .i64 0,.bool false,.int .i64 0,.int .i64 0,.int .i64 0,.int .i64 0,.int .i64 0,.int .i64 0,.int .i64 0,.int .i64 0,.int .i64 0,.bool false,.int .i64 0,.int .i64 0,.int .i64 0,.int .i64 0,.int .i64 0,.int .i64 0,.int .i64 0,.int .i64 0,.int .i64 0,.bool false,.int .i64 0,.int .i64 0,.int .i64 0,.int .i64 0,.int .i64 0,.int .i64 0,.int .i64 0,.int .i64 0,.int .i64 0,.bool false,.int .i64 0,.int .i64 0,.int .i64 0,.int .i64 0,.int .i64 0,.int .i64 0,.int .i64 0,.int .i64 0,.slice none 0 0,.slice none 0 0]:=Eo
instance:AT prog 54 3 3 1:=⟨Bv⟩
instance:ZV prog 54 [.int .i64 0,.int .i64 0,.int .i64 0]:=Eo
instance:AT prog 55 4 34 1:=⟨Bv⟩
instance:AG prog 55 4:=Xm
instance:ZV prog 55 [.int .u64 0,.int .u64 0,.int .u64 0,.int .u64 0]:=Eo
instance:SV prog 57 12 [(0,3),(1,3),(2,3),(3,3),(4,54),(7,34),(8,55)]:=Fe
instance:ZV prog 57 [.int .i64 0,.int .i64 0,.int .i64 0,.int .i64 0,.int .i64 0,.int .i64 0,.int .i64 0,.int .u64 0,.int .u64 0,.int .u64 0,.int .u64 0,.int .u64 0]:=Eo
instance:SV prog 61 2 [(0,3),(1,3)]:=Fe
instance:ZV prog 61 [.int .i64 0,.int .i64 0]:=Eo
instance:ST prog 64 61 2 16:=⟨Bv⟩
instance:SV prog 67 3 [(0,3),(1,34),(2,4)]:=Fe
instance:ZV prog 67 [.int .i64 0,.int .u64 0,.bool false]:=Eo
instance:SV prog 69 12 [(0,3),(1,29),(2,34),(3,55),(7,34),(8,4),(9,67)]:=Fe
instance:ZV prog 69 [.int .i64 0,.int .i64 0,.int .u64 0,.int .u64 0,.int .u64 0,.int .u64 0,.int .u64 0,.int .u64 0,.bool false,.int .i64 0,.int .u64 0,.bool false]:=Eo
instance:SV prog 74 8 [(0,3),(1,3),(2,3),(3,34),(4,3),(5,3),(6,3),(7,3)]:=Fe
instance:ZV prog 74 [.int .i64 0,.int .i64 0,.int .i64 0,.int .u64 0,.int .i64 0,.int .i64 0,.int .i64 0,.int .i64 0]:=Eo
instance:SV prog 77 4 [(0,4),(1,4),(2,34),(3,34)]:=Fe
instance:ZV prog 77 [.bool false,.bool false,.int .u64 0,.int .u64 0]:=Eo
instance:SV prog 79 24 [(0,3),(1,3),(2,3),(3,55),(7,34),(8,4),(9,3),(10,3),(11,55),(15,34),(16,3),(17,3),(18,4),(19,4),(20,77)]:=Fe
instance:ZV prog 79 [.int .i64 0,.int .i64 0,.int .i64 0,.int .u64 0,.int .u64 0,.int .u64 0,.int .u64 0,.int .u64 0,.bool false,.int .i64 0,.int .i64 0,.int .u64 0,.int .u64 0,.int .u64 0,.int .u64 0,.int .u64 0,.int .i64 0,.int .i64 0,.bool false,.bool false,.bool false,.bool false,.int .u64 0,.int .u64 0]:=Eo
instance:ST prog 82 32 2 32:=⟨Bv⟩
instance:SV prog 100 9 [(0,3),(1,3),(2,3),(3,3),(4,3),(5,3),(6,3),(7,3),(8,3)]:=Fe
instance:ZV prog 100 [.int .i64 0,.int .i64 0,.int .i64 0,.int .i64 0,.int .i64 0,.int .i64 0,.int .i64 0,.int .i64 0,.int .i64 0]:=Eo
instance:PT prog 119 153:=Md
instance:SV prog 121 3 [(0,119),(1,40),(2,82)]:=Fe
instance:ZV prog 121 [.pointer none,.slice none 0 0,.slice none 0 0]:=Eo
instance:IT prog 124 .u64:=⟨Bv⟩
instance:PT prog 125 163:=Md
instance:SV prog 130 3 [(0,61),(2,3)]:=Fe
instance:ZV prog 130 [.int .i64 0,.int .i64 0,.int .i64 0]:=Eo
instance:SV prog 132 10 [(0,61),(2,74)]:=Fe
instance:ZV prog 132 [.int .i64 0,.int .i64 0,.int .i64 0,.int .i64 0,.int .i64 0,.int .u64 0,.int .i64 0,.int .i64 0,.int .i64 0,.int .i64 0]:=Eo
instance:SV prog 153 1 [(0,125)]:=Fe
instance:ZV prog 153 [.pointer none]:=Eo
instance:PT prog 154 254:=Md
instance:PT prog 155 283:=Md
instance:PT prog 156 317:=Md
instance:PT prog 157 235:=Md
instance:PT prog 158 242:=Md
instance:PT prog 159 278:=Md
instance:PT prog 160 340:=Md
instance:PT prog 161 345:=Md
instance:SV prog 163 9 [(0,154),(1,155),(2,156),(3,157),(4,158),(5,159),(6,160),(7,161),(8,40)]:=Fe
instance:ZV prog 163 [.pointer none,.pointer none,.pointer none,.pointer none,.pointer none,.pointer none,.pointer none,.pointer none,.slice none 0 0]:=Eo
instance:PT prog 172 3:=Md
instance:ST prog 173 184 4 32:=⟨Bv⟩
instance:PT prog 181 184:=Md
instance:SV prog 184 4 [(0,34),(1,34),(2,172),(3,182)]:=Fe
instance:ZV prog 184 [.int .u64 0,.int .u64 0,.pointer none,.pointer none]:=Eo
instance:ST prog 194 203 5 40:=⟨Bv⟩
instance:SV prog 199 3 [(0,3),(1,3),(2,3)]:=Fe
instance:ZV prog 199 [.int .i64 0,.int .i64 0,.int .i64 0]:=Eo
instance:SV prog 203 5 [(0,3),(1,3),(2,3),(3,3),(4,3)]:=Fe
instance:ZV prog 203 [.int .i64 0,.int .i64 0,.int .i64 0,.int .i64 0,.int .i64 0]:=Eo
instance:PT prog 231 407:=Md
instance:PT prog 233 329:=Md
instance:SV prog 235 2 [(0,231),(1,233)]:=Fe
instance:ZV prog 235 [.pointer none,.pointer none]:=Eo
instance:AT prog 240 32 3 1:=⟨Bv⟩
instance:SV prog 242 112 [(0,50),(80,240)]:=Fe
instance:ZV prog 242 [.int .i64 0,.bool false,.int .i64 0,.int .i64 0,.int .i64 0,.int .i64 0,.int .i64 0,.int .i64 0,.int .i64 0,.int .i64 0,.int .i64 0,.bool false,.int .i64 0,.int .i64 0,.int .i64 0,.int .i64 0,.int .i64 0,.int .i64 0,.int .i64 0,.int .i64 0,.int .i64 0,.bool false,.int .i64 0,.int .i64 0,.int .i64 0,.int .i64 0,.int .i64 0,.int .i64 0,.int .i64 0,.int .i64 0,.int .i64 0,.bool false,.int .i64 0,.int .i64 0,.int .i64 0,.int .i64 0,.int .i64 0,.int .i64 0,.int .i64 0,.int .i64 0,.int .i64 0,.bool false,.int .i64 0,.int .i64 0,.int .i64 0,.int .i64 0,.int .i64 0,.int .i64 0,.int .i64 0,.int .i64 0,.int .i64 0,.bool false,.int .i64 0,.int .i64 0,.int .i64 0,.int .i64 0,.int .i64 0,.int .i64 0,.int .i64 0,.int .i64 0,.int .i64 0,.bool false,.int .i64 0,.int .i64 0,.int .i64 0,.int .i64 0,.int .i64 0,.int .i64 0,.int .i64 0,.int .i64 0,.int .i64 0,.bool false,.int .i64 0,.int .i64 0,.int .i64 0,.int .i64 0,.int .i64 0,.int .i64 0,.int .i64 0,.int .i64 0,.int .i64 0,.int .i64 0,.int .i64 0,.int .i64 0,.int .i64 0,.int .i64 0,.int .i64 0,.int .i64 0,.int .i64 0,.int .i64 0,.int .i64 0,.int .i64 0,.int .i64 0,.int .i64 0,.int .i64 0,.int .i64 0,.int .i64 0,.int .i64 0,.int .i64 0,.int .i64 0,.int .i64 0,.int .i64 0,.int .i64 0,.int .i64 0,.int .i64 0,.int .i64 0,.int .i64 0,.int .i64 0,.int .i64 0,.int .i64 0,.int .i64 0,.int .i64 0]:=Eo
instance:ST prog 252 255 8 64:=⟨Bv⟩
instance:SV prog 254 1 [(0,252)]:=Fe
instance:ZV prog 254 [.slice none 0 0]:=Eo
instance:AT prog 255 8 34 1:=⟨Bv⟩
instance:AG prog 255 8:=Xm
instance:ZV prog 255 [.int .u64 0,.int .u64 0,.int .u64 0,.int .u64 0,.int .u64 0,.int .u64 0,.int .u64 0,.int .u64 0]:=Eo
instance:MT prog 276 3 79:=⟨Bv⟩
instance:SV prog 278 1 [(0,276)]:=Fe
instance:ZV prog 278 [.map none]:=Eo
instance:ST prog 281 310 3 24:=⟨Bv⟩
instance:SV prog 283 1 [(0,281)]:=Fe
instance:ZV prog 283 [.slice none 0 0]:=Eo
instance:SV prog 293 18 [(0,125),(1,3),(2,57),(14,61),(16,61)]:=Fe
instance:ZV prog 293 [.pointer none,.int .i64 0,.int .i64 0,.int .i64 0,.int .i64 0,.int .i64 0,.int .i64 0,.int .i64 0,.int .i64 0,.int .u64 0,.int .u64 0,.int .u64 0,.int .u64 0,.int .u64 0,.int .i64 0,.int .i64 0,.int .i64 0,.int .i64 0]:=Eo
instance:SV prog 302 5 [(0,3),(1,3),(2,3),(3,4),(4,4)]:=Fe
instance:ZV prog 302 [.int .i64 0,.int .i64 0,.int .i64 0,.bool false,.bool false]:=Eo
instance:PT prog 308 400:=Md
instance:SV prog 310 3 [(0,3),(1,3),(2,308)]:=Fe
instance:ZV prog 310 [.int .i64 0,.int .i64 0,.pointer none]:=Eo
instance:AT prog 315 64 3 1:=⟨Bv⟩
instance:SV prog 317 66 [(0,3),(1,315),(65,43)]:=Fe
instance:ZV prog 317 [.int .i64 0,.int .i64 0,.int .i64 0,.int .i64 0,.int .i64 0,.int .i64 0,.int .i64 0,.int .i64 0,.int .i64 0,.int .i64 0,.int .i64 0,.int .i64 0,.int .i64 0,.int .i64 0,.int .i64 0,.int .i64 0,.int .i64 0,.int .i64 0,.int .i64 0,.int .i64 0,.int .i64 0,.int .i64 0,.int .i64 0,.int .i64 0,.int .i64 0,.int .i64 0,.int .i64 0,.int .i64 0,.int .i64 0,.int .i64 0,.int .i64 0,.int .i64 0,.int .i64 0,.int .i64 0,.int .i64 0,.int .i64 0,.int .i64 0,.int .i64 0,.int .i64 0,.int .i64 0,.int .i64 0,.int .i64 0,.int .i64 0,.int .i64 0,.int .i64 0,.int .i64 0,.int .i64 0,.int .i64 0,.int .i64 0,.int .i64 0,.int .i64 0,.int .i64 0,.int .i64 0,.int .i64 0,.int .i64 0,.int .i64 0,.int .i64 0,.int .i64 0,.int .i64 0,.int .i64 0,.int .i64 0,.int .i64 0,.int .i64 0,.int .i64 0,.int .i64 0,.slice none 0 0]:=Eo
instance:PT prog 326 331:=Md
instance:MT prog 327 61 326:=⟨Bv⟩
instance:SV prog 329 2 [(0,326),(1,327)]:=Fe
instance:ZV prog 329 [.pointer none,.map none]:=Eo
instance:SV prog 331 5 [(0,61),(2,3),(3,326),(4,326)]:=Fe
instance:ZV prog 331 [.int .i64 0,.int .i64 0,.int .i64 0,.pointer none,.pointer none]:=Eo
instance:AT prog 338 8 40 1:=⟨Bv⟩
instance:SV prog 340 8 [(0,338)]:=Fe
instance:ZV prog 340 [.slice none 0 0,.slice none 0 0,.slice none 0 0,.slice none 0 0,.slice none 0 0,.slice none 0 0,.slice none 0 0,.slice none 0 0]:=Eo
instance:MT prog 343 3 352:=⟨Bv⟩
instance:SV prog 345 1 [(0,343)]:=Fe
instance:ZV prog 345 [.map none]:=Eo
instance:PT prog 352 354:=Md
instance:SV prog 354 2 [(0,40),(1,4)]:=Fe
instance:ZV prog 354 [.slice none 0 0,.bool false]:=Eo
instance:SV prog 361 3 [(0,3),(1,3),(2,3)]:=Fe
instance:ZV prog 361 [.int .i64 0,.int .i64 0,.int .i64 0]:=Eo
instance:SV prog 390 5 [(0,4),(1,4),(2,4),(3,4),(4,3)]:=Fe
instance:ZV prog 390 [.bool false,.bool false,.bool false,.bool false,.int .i64 0]:=Eo
instance:AT prog 395 2 302 5:=⟨Bv⟩
instance:AG prog 395 10:=Xm
instance:SV prog 397 11 [(0,395),(10,3)]:=Fe
instance:AT prog 398 4 397 11:=⟨Bv⟩
instance:SV prog 400 44 [(0,398)]:=Fe
instance:ZV prog 400 [.int .i64 0,.int .i64 0,.int .i64 0,.bool false,.bool false,.int .i64 0,.int .i64 0,.int .i64 0,.bool false,.bool false,.int .i64 0,.int .i64 0,.int .i64 0,.int .i64 0,.bool false,.bool false,.int .i64 0,.int .i64 0,.int .i64 0,.bool false,.bool false,.int .i64 0,.int .i64 0,.int .i64 0,.int .i64 0,.bool false,.bool false,.int .i64 0,.int .i64 0,.int .i64 0,.bool false,.bool false,.int .i64 0,.int .i64 0,.int .i64 0,.int .i64 0,.bool false,.bool false,.int .i64 0,.int .i64 0,.int .i64 0,.bool false,.bool false,.int .i64 0]:=Eo
instance:MT prog 404 3 405:=⟨Bv⟩
instance:ST prog 405 74 8 64:=⟨Bv⟩
instance:SV prog 407 1 [(0,404)]:=Fe
instance:ZV prog 407 [.map none]:=Eo
instance:SV prog 425 4 [(0,3),(1,3),(2,3),(3,3)]:=Fe
instance:ZV prog 425 [.int .i64 0,.int .i64 0,.int .i64 0,.int .i64 0]:=Eo
instance:SV prog 443 3 [(0,61),(2,3)]:=Fe
instance:ZV prog 443 [.int .i64 0,.int .i64 0,.int .i64 0]:=Eo
instance:SV prog 458 3 [(0,61),(2,3)]:=Fe
instance:ZV prog 458 [.int .i64 0,.int .i64 0,.int .i64 0]:=Eo
instance:AT prog 474 2 4 1:=⟨Bv⟩
instance:ZV prog 474 [.bool false,.bool false]:=Eo
instance:SV prog 492 1 [(0,64)]:=Fe
instance:ZV prog 492 [.slice none 0 0]:=Eo
instance:ST prog 498 458 3 24:=⟨Bv⟩
instance:AT prog 505 4 504 1:=⟨Bv⟩
instance:AG prog 505 4:=Xm
instance:ZV prog 505 [.pointer none,.pointer none,.pointer none,.pointer none]:=Eo
instance:SV prog 511 2 [(0,34),(1,29)]:=Fe
instance:ZV prog 511 [.int .u64 0,.int .i64 0]:=Eo
abbrev uH:Nat:=0x7fffffffffffffffffffffffffffffffffffffdfffffffffffffffffffffffffffffffffffffffffffffffffffffffffff8
theorem jk:mkA (enB prog) uH 395=true:=Bv
instance(t:Nat)[h:Vl (Nat.land (Nat.shiftRight uH t) 1) 1]:EN prog t:=enB.en (S9 Bv jk h.e)
abbrev tr:Nat:=0x8603fffbff7ff3df7e7effbfff97df3fdb8f77f3e0717ffdaf8f9fce3f0ffc51b1a8b639dffea1ff8f3fdbffbb23eee7fbff3fcdaffe17cdb7fe7bff7098388207f067f30123e
theorem Y3:mkA (ocB prog) tr 564=true:=Bv
instance(t:Nat)[h:Vl (Nat.land (Nat.shiftRight tr t) 1) 1]:OC prog t:=⟨(Bool.and_eq_true_iff.1 (S9 Bv Y3 h.e)).1⟩
instance(t:Nat)(z:Value)[h:Vl (Nat.land (Nat.shiftRight tr t) 1) 1][hz:ZV prog t [z]]:ZO prog t z:=ocB.zo (S9 Bv Y3 h.e) hz
abbrev uI:Nat:=0xc2001800040006000c00030000c1f86000000306031c0f00386060300c600000e0070c0000000cc00180000c0300001e030000180000f63c33df80f980c02000
theorem jl:mkA (zoB prog nJ) uI 512=true:=Bv
instance(t:Nat)(l:List Value)[h:Vl (Nat.land (Nat.shiftRight uI t) 1) 1][hz:ZV prog t l]:ZO prog t (.agg (toArray l)):=agB.zo (S9 Bv jl h.e) hz
abbrev qM:Nat:=0x84008000000000900040002000000002000004000040000000001800000400012000000000000000002c00000000000611003fc00000020800000000000000000000008000000
theorem dF:mkA (zoB prog (zeB (.pointer none))) qM 564=true:=Bv
instance(t:Nat)[h:Vl (Nat.land (Nat.shiftRight qM t) 1) 1]:ZV prog t [.pointer none]:=zeB.zv (S9 Bv dF h.e)
abbrev qN:Nat:=0x40000000000000000000000200000000000000000000000000000020000001000000000000004000020000000000000000002000400010000790041000000
theorem dG:mkA (zoB prog (zeB (.slice none 0 0))) qN 499=true:=Bv
instance(t:Nat)[h:Vl (Nat.land (Nat.shiftRight qN t) 1) 1]:ZV prog t [.slice none 0 0]:=zeB.zv (S9 Bv dG h.e)
end Go.Proofs.YtlkgekpmileobaaGreat
