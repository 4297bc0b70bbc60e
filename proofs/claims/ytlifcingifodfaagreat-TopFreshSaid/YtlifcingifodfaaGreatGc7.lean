/- Laws that the statement's proof leans on (joined out of several texts). -/
import Derived.Test.YtlifcingifodfaaGreatGc6
import Derived.Test.YtlifcingifodfaaGreatProg
import Derived.KernelRfl
set_option maxHeartbeats 4000000
set_option linter.unusedVariables false
set_option linter.unusedSimpArgs false
namespace Go.Proofs.YtlifcingifodfaaGreat
open Tryz
open List(toArray)
open Go.RowKit
variable{e n kk yb b since cap:Nat}{k:IntKind}{a:Int}{α:Type}{Q:Value->Ad->Prop}{l':Ad}{seen:Array Nat}{p:Option Addr}
abbrev Lx:=Int×Value×Nat
def NH(k:IntKind)(x:Lx):MapEntry:={key:= .int k x.1,val:=x.2.1,born:=x.2.2}
abbrev FU(k:IntKind)(es:List Lx)(clock:Nat):Obj:= .map (toArray (es.map (NH k))) clock
def yI(P:Program)(t:Nat):Option Value:=match P.info? t with
 |some i=>i.zero
 |none=>none
class ZO(P:Program)(t:Nat)(z:outParam Value):Prop where out:yI P t=some z
def GY(a:Int):List Lx->Nat->Option (Nat×Value)
 |[],_=>none
 |e::es,i=>if a=e.1 then some (i,e.2.1) else GY a es (i+1)
def Li(a:Int)(es:List Lx):Option Value:=(GY a es 0).map Prod.snd
def N2(a:Int)(v:Value)(clock:Nat)(es:List Lx):List Lx×Nat:=match GY a es 0 with
 |some (i,_)=>(es.modify i λx=>(x.1,v,x.2.2),clock)
 |none=>(es++[(a,v,clock)],clock+1)
def Py(a:Int)(es:List Lx):List Lx:=match GY a es 0 with
 |some (i,_)=>es.eraseIdx i
 |none=>es
theorem MS{a:Int}: ∀{es:List Lx} {i:Nat},GY a es i=none<-> ∀e∈es,e.1≠a
 |[],i=>by simp[GY]
 |e::es,i=>by
  unfold GY
  split
  ·rename_i h;subst h;simp
  ·rename_i h;rw[MS];simp only[At,forall_eq_or_imp];exact⟨λh2=>⟨λe'=>h e'.symm,h2⟩,λh2=>h2.2⟩
theorem Pz{a:Int}: ∀{es:List Lx} {i k:Nat} {v:Value},GY a es i=some (k,v)->i<=k/\ ∃e,es[k-i]?=some e/\e.1=a/\e.2.1=v/\ ∀j,j<k-i-> ∀e',es[j]?=some e'->e'.1≠a
 |[],i,k,v,h=>by simp[GY] at h
 |e::es,i,k,v,h=>by
  unfold GY at h
  split at h
  ·rename_i ha;cases h;exact⟨Bd _,e,by simp,ha.symm,rfl,λj hj=>by omega⟩
  ·rename_i ha;obtain⟨h1,e',h2,h3,h4,h5⟩:=Pz h;refine⟨Af,e',?_,h3,h4,λj hj e2 he2=>?_⟩
   ·rw[show k-i=(k-(i+1))+1 by omega];simpa using h2
   ·cases j with
    |zero=>simp only[Da,I3] at he2;subst he2;exact λe'=>ha e'.symm
    |succ j=>exact h5 j Af e2 (by simpa using he2)
theorem Td(k:IntKind)(a:Int): ∀(es:List Lx) (i:Nat),Instr.findNow (.int k) (.int k a) (es.map (NH k)) i=some (GY a es i)
 |[],i=>rfl
 |e::es,i=>by
  rw[AJ];unfold Instr.findNow;simp only[NH,Instr.sameNow,C6];unfold GY;by_cases h:a=e.1
  ·rw[show(a==e.1)=true by simpa using h,Ac h]
  ·rw[show(a==e.1)=false by simpa using h,Ab h];exact Td k a es (i+1)
section
variable{P:Program}{ro:Option Nat}{N:Nat}{fr:Fr}{R l:Ad}{d:Option Nat}{ty:TypeId}{pos:String}{aft:Array Edge}{g:Option (Nat×Bool)}{x y z:Operand}{v u w:Value}{m:Nat}{t t2 T kt et:TypeId}{es:List Lx}{clock:Nat}
theorem Jc{T k:Nat}(h:mtV P T=some (k,e)):P.underlying T=some (.map k e):=by unfold mtV at h;split at h<;>simp_all
theorem Te{t:Nat}(h:p8 P t=some k):P.underlying t=some (.int k):=by unfold p8 at h;split at h<;>simp_all
theorem FC{Q:α->Ad->Prop}(a:α):sl P (Sem.pure a) l Q<->Q a l:=DF
theorem fX{Q:α->Ad->Prop}{f:Nat->Sem α}{q:Question}:sl P (choose q>>=f) l Q<-> ∀t,sl P (f (if q.forced=true then 0 else q.cut t)) l Q:=DF
theorem Ly{Q:Unit->Ad->Prop}{empty:Bool}(h:p8 P kt=some k):sl P (Instr.checkKey empty (n+1) kt (.int k a)) l Q<->Q () l:=by unfold Instr.checkKey;rw[Cc (Te h)];exact DF
theorem MU{Q:Option (Nat×Value)->Ad->Prop}(h:p8 P kt=some k):sl P (Instr.findKey kt (.int k a) (es.map (NH k))) l Q<->Q (GY a es 0) l:=by unfold Instr.findKey;rw[Cc (Te h),Td];exact DF
theorem Wu{zv:Value}(h:yI P et=some zv):sl P (zeroValue et) l Q<->Q zv l:=by
 unfold yI at h
 split at h
 ·rename_i i hi;unfold zeroValue;rw[JN hi,h];exact DF
 ·cases h
theorem km{zv:Value}(hx:ev fr x=some (.map (some m)))(hy:ev fr y=some (.int k a))[c:MT P T kt et][ci:IT P kt k][cz:ZO P et zv](hm:(m,FU k es clock)∈R):OpQ P ro N fr R ⟨d,.lookup T x y false,ty,pos,aft,g⟩ ((Li a es).getD zv):=BM rfl λρ l hρ hR=>by
 simp only[execOp,hρ x _ hx,hρ y _ hy,AC];unfold Instr.lookup;rw[Cc (Jc c.out)];simp only[AC];refine⟨_,hR _ hm,rfl,?_⟩;simp only[Bn,FC,AC];rw[Ly ci.out,MU ci.out];unfold Li;cases h:GY a es 0 with
 |none=>simp only[AC];rw[Wu cz.out];exact⟨rfl,rfl⟩
 |some p=>exact⟨rfl,rfl⟩
theorem fY{zv:Value}(hx:ev fr x=some (.map (some m)))(hy:ev fr y=some (.int k a))[c:MT P T kt et][ci:IT P kt k][cz:ZO P et zv](hm:(m,FU k es clock)∈R):OpQ P ro N fr R ⟨d,.lookup T x y true,ty,pos,aft,g⟩ (.tuple #[(Li a es).getD zv,.bool (Li a es).isSome]):=BM rfl λρ l hρ hR=>by
 simp only[execOp,hρ x _ hx,hρ y _ hy,AC];unfold Instr.lookup;rw[Cc (Jc c.out)];simp only[AC];refine⟨_,hR _ hm,rfl,?_⟩;simp only[Bn,FC,AC];rw[Ly ci.out,MU ci.out];unfold Li;cases h:GY a es 0 with
 |none=>simp only[AC];rw[Wu cz.out];exact⟨rfl,rfl⟩
 |some p=>exact⟨rfl,rfl⟩
theorem OM:OpE P ro N fr l ⟨d,.makeMap T none,ty,pos,aft,g⟩ (λv' l'=> ∃b,(∀c,c∈l->c.1≠b)/\v'= .map (some b)/\l'=(b,.map #[] 0)::l):=DM rfl λρ hρ=>by simp only[execOp,AC];unfold Instr.makeMap;simp only[DJ,AC,Bn];intro b hb;exact⟨b,hb,rfl,rfl⟩
theorem XZ:sl P (Instr.keyThatStays (.int k a) (.int k a)) l Q<->Q (.int k a) l:=by unfold Instr.keyThatStays;rw[Ac (by simp[Instr.sameBits])];exact DF
theorem Z8(es:List Lx)(i:Nat)(v:Value)(e:Lx)(he:es[i]?=some e):(toArray (es.map (NH k))).modify i (λx=>{key:= .int k e.1,val:=v,born:=x.born})=toArray ((es.modify i λx=>(x.1,v,x.2.2)).map (NH k)):=by
 apply BU.1;rw[Ib];simp only;apply Dl;intro j;rw[List.getElem?_modify,A5,A5,List.getElem?_modify];by_cases h:i=j
 ·subst h;rw[he];simp[NH]
 ·cases es[j]?<;>simp[h]
theorem Lz(hx:ev fr x=some (.map (some m)))(hy:ev fr y=some (.int k a))(hz:ev fr z=some v)[c:MT P T kt et][ci:IT P kt k](hu:Upd l m (FU k es clock) (FU k (N2 a v clock es).1 (N2 a v clock es).2) l'):
 OpE P ro N fr l ⟨d,.mapUpdate T x y z,ty,pos,aft,g⟩ (λv' l2=>v'=undef/\l2=l'):=DM rfl λρ hρ=>by
 simp only[execOp,hρ x _ hx,hρ y _ hy,hρ z _ hz];rw[AC];unfold Instr.mapUpdate;rw[Cc (Jc c.out)];simp only[AC];refine⟨_,hu.mem,rfl,?_⟩;simp only[Bn,FC,AC];rw[Ly ci.out,MU ci.out];unfold N2 at hu;cases h:GY a es 0 with
 |none=>
  rw[h] at hu;simp only at hu⊢;refine⟨FU k es clock,l',?_,rfl,⟨rfl,rfl⟩⟩;have e:(toArray (es.map (NH k))).push {key:= .int k a,val:=v,born:=clock}=toArray ((es++[(a,v,clock)]).map (NH k)):=by simp[NH]
  rw[e];exact hu
 |some p=>
  obtain⟨i,u⟩:=p;rw[h] at hu;simp only at hu⊢;obtain⟨_,e,he,h1,_,_⟩:=Pz h;rw[Nat.sub_zero] at he;subst h1;have hk:(((toArray (es.map (NH k)))[i]?).map (·.key)).getD (.int k e.1)= .int k e.1:=by simp[he,NH]
  simp only[AC];rw[hk,XZ];refine⟨FU k es clock,l',?_,rfl,⟨rfl,rfl⟩⟩;rw[Z8 es i v e he];exact hu
theorem Tf{T2:TypeId}(hx:ev fr x=some (.map (some m)))(hy:ev fr y=some (.int k a))[c:MT P T kt et][ci:IT P kt k](hu:Upd l m (FU k es clock) (FU k (Py a es) clock) l'):
 OpE P ro N fr l ⟨d,.call {callee:= .builtin .delete,args:=#[x,y],argTypes:=#[T,T2]},ty,pos,aft,g⟩ (λv' l2=>v'= .tuple #[]/\l2=l'):=DM rfl λρ hρ=>by
 simp only[execOp,resolve,AC,Bn,invoke,builtin,Dj,AJ,CQ,hρ x _ hx,hρ y _ hy];unfold Builtin.delete_;simp only[AF,Da,C9,AC];rw[E0 (Jc c.out)];simp only[AC];refine⟨_,hu.mem,rfl,?_⟩;simp only[Bn,FC,AC];rw[Ly ci.out,MU ci.out];unfold Py at hu;cases h:GY a es 0 with
 |none=>rw[h] at hu;exact⟨FU k es clock,l',hu,rfl,⟨rfl,rfl⟩⟩
 |some p=>
  obtain⟨i,u⟩:=p;rw[h] at hu;refine⟨FU k es clock,l',?_,rfl,⟨rfl,rfl⟩⟩;have e:(toArray (es.map (NH k))).eraseIdxIfInBounds i=toArray ((es.eraseIdx i).map (NH k)):=by apply BU.1;simp only[Jo];rw[Dp,Dp,Aq,G4,List.map_drop]
  rw[e];exact hu
theorem dd(hx:ev fr x=some (.map (some m)))[c:MT P T kt et](hm:(m,FU k es clock)∈l):OpE P ro N fr l ⟨d,.range T x,ty,pos,aft,g⟩ (λv' l'=> ∃b,(∀c,c∈l->c.1≠b)/\v'= .pointer (some ⟨b,0,none⟩)/\l'=(b,.mapIter (some m) clock #[] clock)::l):=DM rfl λρ hρ=>by simp only[execOp,hρ x _ hx,AC];unfold Instr.range;rw[AC,E0 (Jc c.out)];simp only[AC];refine⟨_,hm,rfl,?_⟩;simp only[Bn,FC,AC];intro b hb;exact⟨b,hb,rfl,rfl⟩
theorem ko{F:Ad}{last:Nat}(hx:ev fr x=some (.pointer (some ⟨b,0,none⟩)))(hm:(m,FU k es clock)∈F)(hold: ∀e∈es,e.2.2<since)(yh:since<=last):
 OpE P ro N fr ((b,.mapIter (some m) since seen last)::F) ⟨d,.next x false,ty,pos,aft,g⟩ (λv' l'=>(v'= .tuple #[.bool false]/\l'=(b,.mapIter (some m) since seen last)::F/\ ∀e∈es,e.2.2∈seen.toList)\/
  ∃e∈es,e.2.2∉seen.toList/\v'= .tuple #[.bool true,.int k e.1,e.2.1]/\l'=(b,.mapIter (some m) since (seen.push e.2.2) clock)::F):=DM rfl λρ hρ=>by
 simp only[execOp,hρ x _ hx,AC];unfold Instr.next;simp only[AC];refine⟨_,Ak,rfl,?_⟩;simp only[Bn,FC,AC];refine⟨_,An _ hm,rfl,?_⟩;simp only[Bn,FC,AC];have NN: ∀y:MapEntry,y∈es.map (NH k)->y.born<since:=λy hy=>by rw[Au] at hy;obtain⟨e,he,rfl⟩:=hy;exact hold e he
 have Acs:(!seen.isEmpty&&!(toArray (es.map (NH k))).isEmpty&&(toArray (es.map (NH k))).all (λe=>decide (e.born>=last)))=false:=by
  cases s9:es with
  |nil=>simp
  |cons e0 r=>
   have:=hold e0 (by rw[s9];exact Ak);have Dc:¬last<=e0.2.2:=by omega
   simp[NH,Dc]
 rw[Acs];simp only[Bl,C3];obtain⟨L,hL⟩: ∃L:List Lx,L=es.filter λe=>!seen.contains e.2.2:=⟨_,rfl⟩
 have eL:(toArray (es.map (NH k))).filter (λe=>!seen.contains e.born)=toArray (L.map (NH k)):=by apply BU.1;rw[Array.toList_filter];simp only[hL,List.filter_map];congr 1
 have hLm: ∀y:MapEntry,y∈L.map (NH k)->y.born<since:=λy hy=>by rw[Au] at hy;obtain⟨e,he,rfl⟩:=hy;rw[hL] at he;exact hold e (Co.1 he).1
 rw[eL];have e1:(toArray (L.map (NH k))).filter (λx=>decide (x.born<since))=toArray (L.map (NH k)):=Array.filter_eq_self.2 λy hy=>by simpa using hLm y (by simpa using hy)
 have e2:(toArray (L.map (NH k))).filter (λx=>decide (x.born>=since))=#[]:=by rw[Array.filter_eq_empty_iff];intro y hy;have:=hLm y (by simpa using hy);simp;omega
 simp only[e1,e2,KG];rw[fX];intro tp;cases hLL:L with
 |nil=>
  have uP:es.filter (λe=>!seen.contains e.2.2)=[]:=by rw[<-hL,hLL]
  have hq:(Question.mapNext 1).forced=true:=by simp[Question.forced]
  simp[hq];refine .inl ⟨rfl,rfl,λe1 e2 e3 he=>?_⟩;have:=List.filter_eq_nil_iff.1 uP (e1,e2,e3) he;simpa using this
 |cons e0 r=>
  have G5:(toArray ((e0::r).map (NH k))).isEmpty=false:=by simp
  simp only[G5,Bl,C3,KH,Array.size_map];obtain⟨j,hj,hjlt⟩: ∃j,(if(Question.mapNext (toArray ((e0::r).map (NH k))).size).forced=true then 0 else(Question.mapNext (toArray ((e0::r).map (NH k))).size).cut tp)=j/\j<(e0::r).length:=by
   refine⟨_,rfl,?_⟩
   split
   ·simp
   ·simp only[Question.cut,Bt,A7];exact Hi _ (by simp)
  rw[hj];have RO:((toArray ((e0::r).map (NH k))).map some)[j]?=some (some (NH k (e0::r)[j])):=by rw[Array.getElem?_map,AF,A5,Al hjlt];rfl
  rw[RO];have NO:(e0::r)[j]∈L:=by rw[hLL];exact HK hjlt
  rw[hL] at NO;obtain⟨uS,hi2⟩:=Co.1 NO;refine⟨.mapIter (some m) since seen last,_,.here,rfl,.inr ⟨_,uS,by simpa using hi2,rfl,rfl⟩⟩
theorem Vk: ∀{es:List Lx} {e:Lx},e∈es->(es.map (·.2.2)).Nodup->(es.map (NH k)).find? (λx=>x.born==e.2.2)=some (NH k e)
 |[],e,h,_=>by cases h
 |e0::es,e,h,hn=>by
  rw[AJ,AP] at hn;rw[AJ,BG];rcases At.1 h with rfl|h
  ·simp[NH]
  ·have G5:((NH k e0).born==e.2.2)=false:=by
    have:e0.2.2≠e.2.2:=λh2=>hn.1 (by rw[h2];exact Au.2 ⟨e,h,rfl⟩);simpa[NH] using this
   rw[G5];exact Vk h hn.2
theorem de{e:Lx}(hx:ev fr x=some (.pointer (some ⟨b,0,none⟩)))(hi:(b,.mapIter (some m) since (seen.push e.2.2) clock)∈R)(hm:(m,FU k es clock)∈R)(he:e∈es)(hn:(es.map (·.2.2)).Nodup):
 OpQ P ro N fr R ⟨d,.entry x,ty,pos,aft,g⟩ (.tuple #[.int k e.1,e.2.1]):=BM rfl λρ l hρ hR=>by
 simp only[execOp,hρ x _ hx,AC];unfold Instr.entry;simp only[AC];refine⟨_,hR _ hi,rfl,?_⟩;simp only[Bn,FC,Array.back?_push,AC];refine⟨_,hR _ hm,rfl,?_⟩;have hf:(toArray (es.map (NH k))).find? (·.born==e.2.2)=some (NH k e):=by rw[<-Array.find?_toList];exact Vk he hn
 simp only[Bn,FC,bne_self_eq_false,Bl,C3,hf];exact⟨rfl,trivial⟩
theorem fZ(hx:ev fr x=some (.slice p n cap))(hy:ev fr y=some (.slice none 0 0))[c:ST P t e kk yb]:OpQ P ro N fr R ⟨d,.binOp .eql t x y t2,ty,pos,aft,g⟩ (.bool p.isNone):=BM rfl λρ l hρ _=>by obtain⟨Hp,u1,_⟩:=E7 c.out;simp only[execOp,hρ x _ hx,hρ y _ hy,AC,ZY,Bn,binOp];unfold Op.equal Op.maxDepth Op.equalIn;rw[Cc u1];cases p<;>exact⟨rfl,rfl⟩
theorem kq{T:Nat}[c:ST P T e kk yb]:OpE P ro N fr l ⟨d,.buildSlice T 0 #[],ty,pos,aft,g⟩ (λv' l'=> ∃b,(∀c,c∈l->c.1≠b)/\v'= .slice (some ⟨b,0,none⟩) 0 0/\l'=(b,.cells #[] e (0,0))::l):=DM rfl λρ hρ=>by
 obtain⟨Hp,u1,u2,_⟩:=E7 c.out;simp only[execOp,AC];unfold Instr.buildSlice;rw[Cc u1];simp only;rw[Fe u2];simp only[GG,C6,AC];rw[Ab Af];have hf:Instr.fill (λi=>some (i*Hp.size,Hp.size)) (Array.map (λx=>(#[]:Array Value)[x%(#[]:Array Value).size]!) (Array.range 0)) ((#[]:Array (Nat×Operand)).map λx=>(x.1,ρ x.2)).toList=some #[]:=by simp[Instr.fill]
 simp only[Bn,AC,newRow];rw[hf];simp only[Bn,AC];intro b hb;exact⟨b,hb,rfl,rfl⟩
theorem OwnSl.empty{k:Nat}:OwnSl e k (.slice (some ⟨b,0,none⟩) 0 0) 0 [] [(b,.cells #[] e (0,0))]:=
 ⟨by simp,.inr ⟨b,0,[],rfl,rfl,Af,by unfold maxLen;omega,by simp⟩⟩
theorem X5{s:Operand}{T:Nat}(hs:ev fr s=some (.slice p n cap))(hx:ev fr x=some (.slice none 0 0))[c:ST P T e kk yb](hn:n<=cap):
 OpQ P ro N fr R ⟨d,.call {callee:= .builtin .append,args:=#[s,x],argTypes:=#[T,T]},ty,pos,aft,g⟩ (.slice p n cap):=BM rfl λρ l hρ _=>by
 obtain⟨Hp,u1,u2,_⟩:=E7 c.out;simp only[execOp,resolve,AC,Bn,invoke,builtin,Dj,AJ,CQ,hρ s _ hs,hρ x _ hx];unfold Builtin.append_;simp only[AF,Da,C9,AC];rw[E0 u1];simp only;rw[Fe u2];simp only[AC];rw[E0 u1];simp only[Bn,Bl,C3,Builtin.lenOf,Hj,C6,CP,Ac hn,AC,Builtin.firstCells];cases p with
 |none=>exact⟨rfl,rfl⟩
 |some a=>exact⟨rfl,rfl⟩
end
end Go.Proofs.YtlifcingifodfaaGreat
namespace Go.Proofs.YtlifcingifodfaaGreat
open Tryz
open List(toArray)
variable{P:Program}{t n f:Nat}{l:List (Nat×Nat)}
class Vl(a:Nat)(r:outParam Nat):Prop where e:a=r
instance(a:Nat):Vl a a:=⟨rfl⟩
def mkA(p:Nat->Bool)(m:Nat):Nat->Bool
 |0=>true
 |n+1=>(Nat.land (Nat.shiftRight m n) 1==0||p n)&&mkA p m n
theorem mkA.at'{p:Nat->Bool}{m f:Nat}(h:Nat.land (Nat.shiftRight m f) 1=1): ∀n,mkA p m n=true->f<n->p f=true
 |n+1,ha,hf=>by
  unfold mkA at ha;simp only[AW] at ha;rcases Nat.lt_succ_iff_lt_or_eq.1 hf with h1|h1
  ·exact mkA.at' h n ha.2 h1
  ·subst h1;have:=ha.1;rw[h] at this;exact this
theorem Vm{p:Nat->Bool}{m:Nat}(hm:Nat.shiftRight m n=0)(ha:mkA p m n=true)(h:Nat.land (Nat.shiftRight m f) 1=1):p f=true:=by
 by_cases hf:f<n
 ·exact mkA.at' h n ha hf
 ·have h2:m>>>f=0:=by
   rw[show f=n+(f-n) by omega,Nat.shiftRight_add,show m>>>n=0 from hm,Nat.zero_shiftRight]
  rw[show Nat.shiftRight m f=0 from h2] at h;cases h
def enB(P:Program)(f:Nat):Bool:=match P.funcs[f]? with
 |some fn=>!(fn.name== "runtime.NumGoroutine")&&!fn.body.isNone
 |none=>false
theorem enB.en(h:enB P f=true):EN P f:=by
 unfold enB at h;cases e:P.funcs[f]? with
 |none=>rw[e] at h;cases h
 |some fn=>rw[e] at h;simp only[AW,Ef] at h;refine⟨λargs w=>?_⟩;simp[callFunc,go_sem,e];rw[Ab λh2=>by rw[h2] at h;simp at h,Ab λh2=>by rw[h2] at h;simp at h]
def zoB(P:Program)(q:Value->Bool)(t:Nat):Bool:=match yI P t with
 |some z=>q z
 |none=>false
def vV:Value->Bool
 | .agg _=>true
 |_=>false
def ocB(P:Program)(t:Nat):Bool:=p7 P t&&zoB P (λz=>!vV z) t
def zeB:Value->Value->Bool
 | .nilFunc,.nilFunc=>true
 | .pointer none,.pointer none=>true
 | .slice none 0 0,.slice none 0 0=>true
 | .map none,.map none=>true
 |_,_=>false
theorem zoB.out{q:Value->Bool}(h:zoB P q t=true): ∃z,q z=true/\yI P t=some z/\vM P t=some z.cells.toList:=by
 unfold zoB at h
 split at h
 ·rename_i z hz;refine⟨z,h,hz,?_⟩;unfold yI at hz;unfold vM;cases hi:P.info? t with
  |none=>rw[hi] at hz;cases hz
  |some i=>rw[hi] at hz;have hz':i.zero=some z:=hz;show(match i.zero with|some z=>some z.cells.toList|none=>none)=_;rw[hz']
 ·cases h
theorem zeB.zv{v:Value}(h:zoB P (zeB v) t=true):ZV P t [v]:=by
 obtain⟨z,h1,_,h3⟩:=zoB.out h;refine⟨?_⟩;rw[h3];unfold zeB at h1
 split at h1<;>first|rfl|cases h1
theorem ocB.zo{z:Value}(h:ocB P t=true)(hz:ZV P t [z]):ZO P t z:=by unfold ocB at h;rw[AW] at h;obtain⟨y,h1,h2,h3⟩:=zoB.out h.2;refine⟨?_⟩;rw[h2];have h4:=hz.out;rw[h3] at h4;cases y<;>first|(cases h1;done)|(cases h4;rfl)
theorem agB.zo{l:Ap}(h:zoB P vV t=true)(hz:ZV P t l):ZO P t (.agg (toArray l)):=by obtain⟨y,h1,h2,h3⟩:=zoB.out h;refine⟨?_⟩;rw[h2];have h4:=hz.out;rw[h3] at h4;cases y<;>first|(cases h1;done)|(cases h4;rfl)
def svB(P:Program)(t n:Nat)(l:List (Nat×Nat)):Bool:=match P.underlying t,P.info? t with
 |some (.struct fs),some j=>fs.toList.map (λf=>(f.offset,f.type))==l&&fs.toList.all (λf=>match P.info? f.type with
  |some i=>!(i.size==0)
  |none=>false)&&j.size==n
 |_,_=>false
class SV(P:Program)(t:Nat)(n:outParam Nat)(l:outParam (List (Nat×Nat))):Prop where out:svB P t n l=true
class LG(l:List (Nat×Nat))(i:Nat)(x:outParam (Nat×Nat)):Prop where out:l[i]?=some x
instance(a:Nat×Nat)(l:List (Nat×Nat)):LG (a::l) 0 a:=⟨rfl⟩
instance(a b:Nat×Nat)(l:List (Nat×Nat))(i:Nat)[h:LG l i b]:LG (a::l) (i+1) b:=⟨h.out⟩
theorem svB.out(h:svB P t n l=true): ∃fs j,P.underlying t=some (.struct fs)/\P.info? t=some j/\j.size=n/\fs.toList.map (λf=>(f.offset,f.type))=l/\ ∀f,f∈fs.toList-> ∃i,P.info? f.type=some i/\i.size≠0:=by
 unfold svB at h
 split at h
 ·rename_i fs j h1 h2;rw[AW,AW,A3] at h;refine⟨fs,j,h1,h2,by simpa using h.2,by simpa using h.1.1,λf hf=>?_⟩;have h3:=h.1.2 f hf
  split at h3
  ·rename_i i hi;exact⟨i,hi,by simpa using h3⟩
  ·cases h3
 ·cases h
theorem LG.at'(h:SV P t n l){x:Nat×Nat}(hx:LG l f x): ∃(fs:Array Field) (fd:Field) (i:TypeInfo),P.underlying t=some (.struct fs)/\fs[f]?=some fd/\fd.offset=x.1/\fd.type=x.2/\P.info? fd.type=some i/\i.size≠0:=by
 obtain⟨fs,j,h1,h2,h3,h4,h5⟩:=svB.out h.out;have h6:=hx.out;rw[<-h4,A5] at h6;cases e:fs.toList[f]? with
 |none=>rw[e] at h6;cases h6
 |some fd=>rw[e] at h6;cases h6;obtain⟨i,hi,hz⟩:=h5 fd (A6 e);exact⟨fs,fd,i,h1,by simpa using e,rfl,rfl,hi,hz⟩
instance(P:Program)(s n f k t:Nat)(l:List (Nat×Nat))[h:SV P s n l][hx:LG l f (k,t)]:FV P s f k t:=⟨by obtain⟨fs,fd,i,h1,h2,h3,h4,_⟩:=LG.at' h hx;unfold fvV;rw[h1];simp only[h2,BQ,h3,h4]⟩
instance(P:Program)(s n f k t:Nat)(l:List (Nat×Nat))[h:SV P s n l][hx:LG l f (k,t)]:FO P s f k:=⟨by obtain⟨fs,fd,i,h1,h2,h3,h4,h5,h6⟩:=LG.at' h hx;unfold foV;rw[h1];simp only[h2,h5,Ab h6,h3]⟩
instance(P:Program)(t n:Nat)(l:List (Nat×Nat))[h:SV P t n l]:BT P t:=⟨by obtain⟨fs,j,h1,_,_,_,h5⟩:=svB.out h.out;unfold btV;rw[h1];show fs.all _=true;rw[<-Array.all_toList,A3];intro f hf;obtain⟨i,hi,_⟩:=h5 f hf;rw[hi];rfl⟩
instance(P:Program)(t n:Nat)(l:List (Nat×Nat))[h:SV P t n l]:AG P t n:=⟨by obtain⟨fs,j,h1,h2,h3,_⟩:=svB.out h.out;unfold vO;rw[h1,h2];exact BO some h3⟩
theorem EU{t z}(h:vM prog t=some z:=by kernel_rfl):ZV prog t z:=⟨h⟩
theorem Z9{t z}(h:vO prog t=some z:=by kernel_rfl):AG prog t z:=⟨h⟩
theorem Ny{t z}(h:ptV prog t=some z:=by kernel_rfl):PT prog t z:=⟨h⟩
theorem FN{t n l}(h:svB prog t n l=true:=by kernel_rfl):SV prog t n l:=⟨h⟩
instance:IT prog 3 .i64:=⟨BB⟩
instance:ZV prog 3 [.int .i64 0]:=EU
instance:ZV prog 4 [.bool false]:=EU
instance:SV prog 23 4 [(0,3),(1,3),(2,3),(3,4)]:=FN
instance:ZV prog 23 [.int .i64 0,.int .i64 0,.int .i64 0,.bool false]:=EU
instance:ST prog 24 39 15 120:=⟨BB⟩
instance:PT prog 27 120:=Ny
instance:ZV prog 29 [.int .i64 0]:=EU
instance:ST prog 30 69 12 96:=⟨BB⟩
instance:SV prog 32 2 [(0,29),(1,30)]:=FN
instance:ZV prog 32 [.int .i64 0,.slice none 0 0]:=EU
instance:IT prog 34 .u64:=⟨BB⟩
instance:ZV prog 34 [.int .u64 0]:=EU
instance:AT prog 35 6 34 1:=⟨BB⟩
instance:AG prog 35 6:=Z9
instance:ZV prog 35 [.int .u64 0,.int .u64 0,.int .u64 0,.int .u64 0,.int .u64 0,.int .u64 0]:=EU
instance:SV prog 37 7 [(0,34),(1,35)]:=FN
instance:ZV prog 37 [.int .u64 0,.int .u64 0,.int .u64 0,.int .u64 0,.int .u64 0,.int .u64 0,.int .u64 0]:=EU
instance:SV prog 39 15 [(0,3),(1,3),(2,3),(3,37),(10,34),(11,34),(12,3),(13,3),(14,3)]:=FN
instance:ZV prog 39 [.int .i64 0,.int .i64 0,.int .i64 0,.int .u64 0,.int .u64 0,.int .u64 0,.int .u64 0,.int .u64 0,.int .u64 0,.int .u64 0,.int .u64 0,.int .u64 0,.int .i64 0,.int .i64 0,.int .i64 0]:=EU
instance:ST prog 40 3 1 8:=⟨BB⟩
instance:ST prog 43 100 9 72:=⟨BB⟩
instance:ST prog 44 131 10 80:=⟨BB⟩
instance:ST prog 45 129 3 24:=⟨BB⟩
instance:ST prog 46 79 24 176:=⟨BB⟩
instance:AT prog 47 4 3 1:=⟨BB⟩
instance:AG prog 47 4:=Z9
instance:ZV prog 47 [.int .i64 0,.int .i64 0,.int .i64 0,.int .i64 0]:=EU
instance:SV prog 49 10 [(0,3),(1,4),(2,47),(6,47)]:=FN
instance:ZV prog 49 [.int .i64 0,.bool false,.int .i64 0,.int .i64 0,.int .i64 0,.int .i64 0,.int .i64 0,.int .i64 0,.int .i64 0,.int .i64 0]:=EU
instance:AT prog 50 8 49 10:=⟨BB⟩
instance:AG prog 50 80:=Z9
instance:ZV prog 50 [.int .i64 0,.bool false,.int .i64 0,.int .i64 0,.int .i64 0,.int .i64 0,.int .i64 0,.int .i64 0,.int .i64 0,.int .i64 0,.int .i64 0,.bool false,.int .i64 0,.int .i64 0,.int .i64 0,.int .i64 0,.int .i64 0,.int .i64 0,.int .i64 0,.int .i64 0,.int .i64 0,.bool false,.int .i64 0,.int .i64 0,.int .i64 0,.int .i64 0,.int .i64 0,.int .i64 0,.int .i64 0,.int .i64 0,.int .i64 0,.bool false,.int .i64 0,.int .i64 0,.int .i64 0,.int .i64 0,.int .i64 0,.int .i64 0,.int .i64 0,.int .i64 0,.int .i64 0,.bool false,.int .i64 0,.int .i64 0,.int .i64 0,.int .i64 0,.int .i64 0,.int .i64 0,.int .i64 0,.int .i64 0,.int .i64 0,.bool false,.int .i64 0,.int .i64 0,.int .i64 0,.int .i64 0,.int .i64 0,.int .i64 0,.int .i64 0,.int .i64 0,.int .i64 0,.bool false,.int .i64 0,.int .i64 0,.int .i64 0,.int .i64 0,.int .i64 0,.int .i64 0,.int .i64 0,.int .i64 0,.int .i64 0,.bool false,.int .i64 0,.int .i64 0,.int .i64 0,.int .i64 0,.int .i64 0,.int .i64 0,.int .i64 0,.int .i64 0]:=EU
instance:SV prog 52 86 [(0,43),(1,44),(2,45),(3,46),(4,50),(84,40),(85,40)]:=FN
instance:ZV prog 52 [.slice none 0 0,.slice none 0 0,.slice none 0 0,.slice none 0 0,.int .i64 0,.bool false,.int .i64 0,.int .i64 0,.int .i64 0,.int .i64 0,.int .i64 0,.int .i64 0,.int .i64 0,.int .i64 0,.int .i64 0,.bool false,.int .i64 0,.int .i64 0,.int .i64 0,.int .i64 0,.int .i64 0,.int .i64 0,.int .i64 0,.int .i64 0,.int .i64 0,.bool false,.int .i64 0,.int .i64 0,.int .i64 0,.int .i64 0,.int .i64 0,.int .i64 0,.int .i64 0,.int .i64 0,.int .i64 0,.bool false,.int .i64 0,.int .i64 0,.int .i64 0,.int .i64 0,.int .i64 0,.int .i64 0,.int .i64 0,.int .i64 0,.int .i64 0,.bool false,.int .i64 0,.int .i64 0,.int .i64 0,.int .i64 0,.int .i64 0,.int .i64 0,.int .i64 0,.int .i64 0,.int .i64 0,.bool false,.int .i64 0,.int .i64 0,.int .i64 0,.int .i64 0,.int .i64 0,.int .i64 0,.int .i64 0,.int .i64 0,.int .i64 0,.bool false,.int .i64 0,.int .i64 0,.int .i64 0,.int .i64 0,.int .i64 0,.int .i64 0,.int .i64 0,.int .i64 0,.int .i64 0,.bool false,.int .i64 0,.int .i64 0,.int .i64 0,.int .i64 0,.int .i64 0,.int .i64 0,.int .i64 0,.int .i64 0,.slice none 0 0,.slice none 0 0]:=EU
instance:AT prog 54 3 3 1:=⟨BB⟩
instance:ZV prog 54 [.int .i64 0,.int .i64 0,.int .i64 0]:=EU
instance:AT prog 55 4 34 1:=⟨BB⟩
instance:AG prog 55 4:=Z9
instance:ZV prog 55 [.int .u64 0,.int .u64 0,.int .u64 0,.int .u64 0]:=EU
instance:SV prog 57 12 [(0,3),(1,3),(2,3),(3,3),(4,54),(7,34),(8,55)]:=FN
instance:ZV prog 57 [.int .i64 0,.int .i64 0,.int .i64 0,.int .i64 0,.int .i64 0,.int .i64 0,.int .i64 0,.int .u64 0,.int .u64 0,.int .u64 0,.int .u64 0,.int .u64 0]:=EU
instance:SV prog 61 2 [(0,3),(1,3)]:=FN
instance:ZV prog 61 [.int .i64 0,.int .i64 0]:=EU
instance:ST prog 64 61 2 16:=⟨BB⟩
instance:SV prog 67 3 [(0,3),(1,34),(2,4)]:=FN
instance:ZV prog 67 [.int .i64 0,.int .u64 0,.bool false]:=EU
instance:SV prog 69 12 [(0,3),(1,29),(2,34),(3,55),(7,34),(8,4),(9,67)]:=FN
instance:ZV prog 69 [.int .i64 0,.int .i64 0,.int .u64 0,.int .u64 0,.int .u64 0,.int .u64 0,.int .u64 0,.int .u64 0,.bool false,.int .i64 0,.int .u64 0,.bool false]:=EU
instance:SV prog 74 8 [(0,3),(1,3),(2,3),(3,34),(4,3),(5,3),(6,3),(7,3)]:=FN
instance:ZV prog 74 [.int .i64 0,.int .i64 0,.int .i64 0,.int .u64 0,.int .i64 0,.int .i64 0,.int .i64 0,.int .i64 0]:=EU
instance:SV prog 77 4 [(0,4),(1,4),(2,34),(3,34)]:=FN
instance:ZV prog 77 [.bool false,.bool false,.int .u64 0,.int .u64 0]:=EU
instance:SV prog 79 24 [(0,3),(1,3),(2,3),(3,55),(7,34),(8,4),(9,3),(10,3),(11,55),(15,34),(16,3),(17,3),(18,4),(19,4),(20,77)]:=FN
instance:ZV prog 79 [.int .i64 0,.int .i64 0,.int .i64 0,.int .u64 0,.int .u64 0,.int .u64 0,.int .u64 0,.int .u64 0,.bool false,.int .i64 0,.int .i64 0,.int .u64 0,.int .u64 0,.int .u64 0,.int .u64 0,.int .u64 0,.int .i64 0,.int .i64 0,.bool false,.bool false,.bool false,.bool false,.int .u64 0,.int .u64 0]:=EU
instance:ST prog 82 32 2 32:=⟨BB⟩
instance:ST prog 97 34 1 8:=⟨BB⟩
instance:SV prog 100 9 [(0,3),(1,3),(2,3),(3,3),(4,3),(5,3),(6,3),(7,3),(8,3)]:=FN
instance:ZV prog 100 [.int .i64 0,.int .i64 0,.int .i64 0,.int .i64 0,.int .i64 0,.int .i64 0,.int .i64 0,.int .i64 0,.int .i64 0]:=EU
instance:PT prog 118 152:=Ny
instance:SV prog 120 3 [(0,118),(1,40),(2,82)]:=FN
instance:ZV prog 120 [.pointer none,.slice none 0 0,.slice none 0 0]:=EU
instance:IT prog 123 .u64:=⟨BB⟩
instance:PT prog 124 162:=Ny
instance:SV prog 129 3 [(0,61),(2,3)]:=FN
instance:ZV prog 129 [.int .i64 0,.int .i64 0,.int .i64 0]:=EU
instance:SV prog 131 10 [(0,61),(2,74)]:=FN
instance:ZV prog 131 [.int .i64 0,.int .i64 0,.int .i64 0,.int .i64 0,.int .i64 0,.int .u64 0,.int .i64 0,.int .i64 0,.int .i64 0,.int .i64 0]:=EU
instance:SV prog 152 1 [(0,124)]:=FN
instance:ZV prog 152 [.pointer none]:=EU
instance:PT prog 153 253:=Ny
instance:PT prog 154 282:=Ny
instance:PT prog 155 316:=Ny
instance:PT prog 156 234:=Ny
instance:PT prog 157 241:=Ny
instance:PT prog 158 277:=Ny
instance:PT prog 159 339:=Ny
instance:PT prog 160 344:=Ny
instance:SV prog 162 9 [(0,153),(1,154),(2,155),(3,156),(4,157),(5,158),(6,159),(7,160),(8,40)]:=FN
instance:ZV prog 162 [.pointer none,.pointer none,.pointer none,.pointer none,.pointer none,.pointer none,.pointer none,.pointer none,.slice none 0 0]:=EU
instance:PT prog 171 3:=Ny
instance:ST prog 172 183 4 32:=⟨BB⟩
instance:PT prog 180 183:=Ny
instance:SV prog 183 4 [(0,34),(1,34),(2,171),(3,181)]:=FN
instance:ZV prog 183 [.int .u64 0,.int .u64 0,.pointer none,.pointer none]:=EU
instance:ST prog 193 202 5 40:=⟨BB⟩
instance:SV prog 198 3 [(0,3),(1,3),(2,3)]:=FN
instance:ZV prog 198 [.int .i64 0,.int .i64 0,.int .i64 0]:=EU
instance:SV prog 202 5 [(0,3),(1,3),(2,3),(3,3),(4,3)]:=FN
instance:ZV prog 202 [.int .i64 0,.int .i64 0,.int .i64 0,.int .i64 0,.int .i64 0]:=EU
instance:PT prog 230 406:=Ny
instance:PT prog 232 328:=Ny
instance:SV prog 234 2 [(0,230),(1,232)]:=FN
instance:ZV prog 234 [.pointer none,.pointer none]:=EU
instance:AT prog 239 32 3 1:=⟨BB⟩
instance:SV prog 241 112 [(0,50),(80,239)]:=FN
instance:ZV prog 241 [.int .i64 0,.bool false,.int .i64 0,.int .i64 0,.int .i64 0,.int .i64 0,.int .i64 0,.int .i64 0,.int .i64 0,.int .i64 0,.int .i64 0,.bool false,.int .i64 0,.int .i64 0,.int .i64 0,.int .i64 0,.int .i64 0,.int .i64 0,.int .i64 0,.int .i64 0,.int .i64 0,.bool false,.int .i64 0,.int .i64 0,.int .i64 0,.int .i64 0,.int .i64 0,.int .i64 0,.int .i64 0,.int .i64 0,.int .i64 0,.bool false,.int .i64 0,.int .i64 0,.int .i64 0,.int .i64 0,.int .i64 0,.int .i64 0,.int .i64 0,.int .i64 0,.int .i64 0,.bool false,.int .i64 0,.int .i64 0,.int .i64 0,.int .i64 0,.int .i64 0,.int .i64 0,.int .i64 0,.int .i64 0,.int .i64 0,.bool false,.int .i64 0,.int .i64 0,.int .i64 0,.int .i64 0,.int .i64 0,.int .i64 0,.int .i64 0,.int .i64 0,.int .i64 0,.bool false,.int .i64 0,.int .i64 0,.int .i64 0,.int .i64 0,.int .i64 0,.int .i64 0,.int .i64 0,.int .i64 0,.int .i64 0,.bool false,.int .i64 0,.int .i64 0,.int .i64 0,.int .i64 0,.int .i64 0,.int .i64 0,.int .i64 0,.int .i64 0,.int .i64 0,.int .i64 0,.int .i64 0,.int .i64 0,.int .i64 0,.int .i64 0,.int .i64 0,.int .i64 0,.int .i64 0,.int .i64 0,.int .i64 0,.int .i64 0,.int .i64 0,.int .i64 0,.int .i64 0,.int .i64 0,.int .i64 0,.int .i64 0,.int .i64 0,.int .i64 0,.int .i64 0,.int .i64 0,.int .i64 0,.int .i64 0,.int .i64 0,.int .i64 0,.int .i64 0,.int .i64 0,.int .i64 0,.int .i64 0,.int .i64 0,.int .i64 0]:=EU
instance:ST prog 251 254 8 64:=⟨BB⟩
instance:SV prog 253 1 [(0,251)]:=FN
instance:ZV prog 253 [.slice none 0 0]:=EU
instance:AT prog 254 8 34 1:=⟨BB⟩
instance:AG prog 254 8:=Z9
instance:ZV prog 254 [.int .u64 0,.int .u64 0,.int .u64 0,.int .u64 0,.int .u64 0,.int .u64 0,.int .u64 0,.int .u64 0]:=EU
instance:MT prog 275 3 79:=⟨BB⟩
instance:SV prog 277 1 [(0,275)]:=FN
instance:ZV prog 277 [.map none]:=EU
instance:ST prog 280 309 3 24:=⟨BB⟩
instance:SV prog 282 1 [(0,280)]:=FN
instance:ZV prog 282 [.slice none 0 0]:=EU
instance:SV prog 292 18 [(0,124),(1,3),(2,57),(14,61),(16,61)]:=FN
instance:ZV prog 292 [.pointer none,.int .i64 0,.int .i64 0,.int .i64 0,.int .i64 0,.int .i64 0,.int .i64 0,.int .i64 0,.int .i64 0,.int .u64 0,.int .u64 0,.int .u64 0,.int .u64 0,.int .u64 0,.int .i64 0,.int .i64 0,.int .i64 0,.int .i64 0]:=EU
instance:SV prog 301 5 [(0,3),(1,3),(2,3),(3,4),(4,4)]:=FN
instance:ZV prog 301 [.int .i64 0,.int .i64 0,.int .i64 0,.bool false,.bool false]:=EU
instance:PT prog 307 399:=Ny
instance:SV prog 309 3 [(0,3),(1,3),(2,307)]:=FN
instance:ZV prog 309 [.int .i64 0,.int .i64 0,.pointer none]:=EU
instance:AT prog 314 64 3 1:=⟨BB⟩
instance:SV prog 316 66 [(0,3),(1,314),(65,43)]:=FN
instance:ZV prog 316 [.int .i64 0,.int .i64 0,.int .i64 0,.int .i64 0,.int .i64 0,.int .i64 0,.int .i64 0,.int .i64 0,.int .i64 0,.int .i64 0,.int .i64 0,.int .i64 0,.int .i64 0,.int .i64 0,.int .i64 0,.int .i64 0,.int .i64 0,.int .i64 0,.int .i64 0,.int .i64 0,.int .i64 0,.int .i64 0,.int .i64 0,.int .i64 0,.int .i64 0,.int .i64 0,.int .i64 0,.int .i64 0,.int .i64 0,.int .i64 0,.int .i64 0,.int .i64 0,.int .i64 0,.int .i64 0,.int .i64 0,.int .i64 0,.int .i64 0,.int .i64 0,.int .i64 0,.int .i64 0,.int .i64 0,.int .i64 0,.int .i64 0,.int .i64 0,.int .i64 0,.int .i64 0,.int .i64 0,.int .i64 0,.int .i64 0,.int .i64 0,.int .i64 0,.int .i64 0,.int .i64 0,.int .i64 0,.int .i64 0,.int .i64 0,.int .i64 0,.int .i64 0,.int .i64 0,.int .i64 0,.int .i64 0,.int .i64 0,.int .i64 0,.int .i64 0,.int .i64 0,.slice none 0 0]:=EU
instance:PT prog 325 330:=Ny
instance:MT prog 326 61 325:=⟨BB⟩
instance:SV prog 328 2 [(0,325),(1,326)]:=FN
instance:ZV prog 328 [.pointer none,.map none]:=EU
instance:SV prog 330 5 [(0,61),(2,3),(3,325),(4,325)]:=FN
instance:ZV prog 330 [.int .i64 0,.int .i64 0,.int .i64 0,.pointer none,.pointer none]:=EU
instance:AT prog 337 8 40 1:=⟨BB⟩
instance:SV prog 339 8 [(0,337)]:=FN
instance:ZV prog 339 [.slice none 0 0,.slice none 0 0,.slice none 0 0,.slice none 0 0,.slice none 0 0,.slice none 0 0,.slice none 0 0,.slice none 0 0]:=EU
instance:MT prog 342 3 351:=⟨BB⟩
instance:SV prog 344 1 [(0,342)]:=FN
instance:ZV prog 344 [.map none]:=EU
instance:PT prog 351 353:=Ny
instance:SV prog 353 2 [(0,40),(1,4)]:=FN
instance:ZV prog 353 [.slice none 0 0,.bool false]:=EU
instance:SV prog 360 3 [(0,3),(1,3),(2,3)]:=FN
instance:ZV prog 360 [.int .i64 0,.int .i64 0,.int .i64 0]:=EU
instance:SV prog 389 5 [(0,4),(1,4),(2,4),(3,4),(4,3)]:=FN
instance:ZV prog 389 [.bool false,.bool false,.bool false,.bool false,.int .i64 0]:=EU
instance:AT prog 394 2 301 5:=⟨BB⟩
instance:AG prog 394 10:=Z9
instance:SV prog 396 11 [(0,394),(10,3)]:=FN
instance:AT prog 397 4 396 11:=⟨BB⟩
instance:SV prog 399 44 [(0,397)]:=FN
instance:ZV prog 399 [.int .i64 0,.int .i64 0,.int .i64 0,.bool false,.bool false,.int .i64 0,.int .i64 0,.int .i64 0,.bool false,.bool false,.int .i64 0,.int .i64 0,.int .i64 0,.int .i64 0,.bool false,.bool false,.int .i64 0,.int .i64 0,.int .i64 0,.bool false,.bool false,.int .i64 0,.int .i64 0,.int .i64 0,.int .i64 0,.bool false,.bool false,.int .i64 0,.int .i64 0,.int .i64 0,.bool false,.bool false,.int .i64 0,.int .i64 0,.int .i64 0,.int .i64 0,.bool false,.bool false,.int .i64 0,.int .i64 0,.int .i64 0,.bool false,.bool false,.int .i64 0]:=EU
instance:MT prog 403 3 404:=⟨BB⟩
instance:ST prog 404 74 8 64:=⟨BB⟩
instance:SV prog 406 1 [(0,403)]:=FN
instance:ZV prog 406 [.map none]:=EU
instance:SV prog 424 4 [(0,3),(1,3),(2,3),(3,3)]:=FN
instance:ZV prog 424 [.int .i64 0,.int .i64 0,.int .i64 0,.int .i64 0]:=EU
instance:SV prog 442 3 [(0,61),(2,3)]:=FN
instance:ZV prog 442 [.int .i64 0,.int .i64 0,.int .i64 0]:=EU
instance:SV prog 457 3 [(0,61),(2,3)]:=FN
instance:ZV prog 457 [.int .i64 0,.int .i64 0,.int .i64 0]:=EU
instance:AT prog 473 2 4 1:=⟨BB⟩
instance:ZV prog 473 [.bool false,.bool false]:=EU
instance:SV prog 491 1 [(0,64)]:=FN
instance:ZV prog 491 [.slice none 0 0]:=EU
instance:ST prog 497 457 3 24:=⟨BB⟩
instance:AT prog 504 4 503 1:=⟨BB⟩
instance:AG prog 504 4:=Z9
instance:ZV prog 504 [.pointer none,.pointer none,.pointer none,.pointer none]:=EU
instance:SV prog 510 2 [(0,34),(1,29)]:=FN
instance:ZV prog 510 [.int .u64 0,.int .i64 0]:=EU
abbrev tmE:Nat:=0x3fffffffffffffffffffffffffffffffffffffefffffffffffffffffffffffffffffffffffffffffffffffffffffffffff8
theorem qn:mkA (enB prog) tmE 394=true:=BB
instance(t:Nat)[h:Vl (Nat.land (Nat.shiftRight tmE t) 1) 1]:EN prog t:=enB.en (Vm BB qn h.e)
abbrev tmO:Nat:=0x4301fffdffbff9efbf3f7fdfffcbef9fedc7bbf9f038bffed7c7cfe71f87fe28d8d45b1cefff50ffc79fedffdd91f773fdff9fe6d7ff0be6d7fe7bff7098388207f067f30123e
theorem df:mkA (ocB prog) tmO 563=true:=BB
instance(t:Nat)[h:Vl (Nat.land (Nat.shiftRight tmO t) 1) 1]:OC prog t:=⟨(Bool.and_eq_true_iff.1 (Vm BB df h.e)).1⟩
instance(t:Nat)(z:Value)[h:Vl (Nat.land (Nat.shiftRight tmO t) 1) 1][hz:ZV prog t [z]]:ZO prog t z:=ocB.zo (Vm BB df h.e) hz
abbrev tmG:Nat:=0x61000c0002000300060001800060fc3000000183018e07801c30301806300000700386000000066000c000060180000f018000180000f63c33df80f980c02000
theorem qo:mkA (zoB prog vV) tmG 511=true:=BB
instance(t:Nat)(l:Ap)[h:Vl (Nat.land (Nat.shiftRight tmG t) 1) 1][hz:ZV prog t l]:ZO prog t (.agg (toArray l)):=agB.zo (Vm BB qo h.e) hz
abbrev Aaj:Nat:=0x42004000000000480020001000000001000002000020000000000c00000200009000000000000000001600000000000308801fe00000010400000000000000000000008000000
theorem ku:mkA (zoB prog (zeB (.pointer none))) Aaj 563=true:=BB
instance(t:Nat)[h:Vl (Nat.land (Nat.shiftRight Aaj t) 1) 1]:ZV prog t [.pointer none]:=zeB.zv (Vm BB ku h.e)
abbrev Aak:Nat:=0x20000000000000000000000100000000000000000000000000000010000000800000000000002000010000000000000000002000400010000790041000000
theorem kv:mkA (zoB prog (zeB (.slice none 0 0))) Aak 498=true:=BB
instance(t:Nat)[h:Vl (Nat.land (Nat.shiftRight Aak t) 1) 1]:ZV prog t [.slice none 0 0]:=zeB.zv (Vm BB kv h.e)
end Go.Proofs.YtlifcingifodfaaGreat
