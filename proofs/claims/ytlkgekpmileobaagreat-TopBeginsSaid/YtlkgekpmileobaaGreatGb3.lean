/- Laws that the statement's proof leans on (joined out of several texts). -/
import Derived.Test.YtlkgekpmileobaaGreatGb2
import Derived.Test.YtlkgekpmileobaaGreatGb1
set_option linter.unusedVariables false
set_option linter.unusedSimpArgs false
namespace Go.Proofs.YtlkgekpmileobaaGreat
open List(toArray)
open Go.RowKit
variable{t n e k f b i s off' yb cap N off m:Nat}{T ty src dst:TypeId}{cs ws:Array Value}{v u w:Value}{l' l R:List Ab}{vs r cs':List Value}{α:Type}{fz:Nat×Nat}{xs:List Operand}{ki k':IntKind}{P:Program}{p:Option Addr}{o:Obj}{ro:Option Nat}{fr:Fr}{K:Value->List Ab->Prop}{pos:String}{g:Option (Nat×Bool)}{x y z:Operand}{q:Bool}
def sD(P:Program)(s f:Nat):Option Nat:=match P.underlying s with
 |some (.struct fs)=>match fs[f]? with
  |some fd=>match P.info? fd.type with
   |some i=>if i.size=0 then none else some fd.offset
   |none=>none
  |none=>none
 |_=>none
def sE(P:Program)(s f:Nat):Option (Nat×Nat):=match P.underlying s with
 |some (.struct fs)=>(fs[f]?).map λfd=>(fd.offset,fd.type)
 |_=>none
def tf(P:Program)(t:Nat):Option (Nat×Nat×Nat):=match P.underlying t with
 |some (.array n e)=>(P.info? e).map λi=>(n,e,i.size)
 |_=>none
def sF(P:Program)(t:Nat):Option (Nat×Nat×Nat):=match P.underlying t with
 |some (.slice e)=>(P.info? e).map λi=>(e,i.size,i.bytes)
 |_=>none
def nz(P:Program)(t:Nat):Option (List Value):=match P.info? t with
 |some i=>match i.zero with
  |some z=>some z.cells.toList
  |none=>none
 |none=>none
def i7(P:Program)(t:Nat):Bool:=match P.underlying t with
 |some (.struct _)=>false
 |some (.array ..)=>false
 |some _=>(P.info? t).any λi=>i.size==1
 |none=>false
def nA(P:Program)(t:Nat):Option Nat:=match P.underlying t with
 |some (.struct _)=>(P.info? t).map (·.size)
 |some (.array ..)=>(P.info? t).map (·.size)
 |_=>none
def i8(P:Program)(t:Nat):Option IntKind:=match P.underlying t with
 |some (.int k)=>some k
 |_=>none
def sG(P:Program)(t:Nat):Option Nat:=match P.underlying t with
 |some (.pointer e)=>some e
 |_=>none
def tg(P:Program)(t:Nat):Option (Nat×Nat):=match P.underlying t with
 |some (.map k e)=>some (k,e)
 |_=>none
class FO(P:Program)(s f:Nat)(k:outParam Nat):Prop where out:sD P s f=some k
class FV(P:Program)(s f:Nat)(k t:outParam Nat):Prop where out:sE P s f=some (k,t)
class AT(P:Program)(t:Nat)(n e z:outParam Nat):Prop where out:tf P t=some (n,e,z)
class ST(P:Program)(t:Nat)(e z y:outParam Nat):Prop where out:sF P t=some (e,z,y)
class ZV(P:Program)(t:Nat)(z:outParam (List Value)):Prop where out:nz P t=some z
class OC(P:Program)(t:Nat):Prop where out:i7 P t=true
class AG(P:Program)(t:Nat)(z:outParam Nat):Prop where out:nA P t=some z
class IT(P:Program)(t:Nat)(k:outParam IntKind):Prop where out:i8 P t=some k
class PT(P:Program)(t:Nat)(e:outParam Nat):Prop where out:sG P t=some e
class MT(P:Program)(t:Nat)(k e:outParam Nat):Prop where out:tg P t=some (k,e)
class EN(P:Program)(f:Nat):Prop where out: ∀args w,(callFunc f args).run P w= .ok (.enter f args) w
section
variable{Q:α->List Ab->Prop}
theorem BX{d:TypeDesc}{f:TypeDesc->Sem α}(h:P.underlying t=some d):sl P (underlying t>>=f) l Q<->sl P (f d) l Q:=by rw[AB];show sl P (match P.underlying t with|some d=>pure d|none=>stuck "no such type") l _<->_;rw[h];rfl
theorem EU{Q:TypeDesc->List Ab->Prop}{d:TypeDesc}(h:P.underlying t=some d):sl P (underlying t) l Q<->Q d l:=by show sl P (match P.underlying t with|some d=>pure d|none=>stuck "no such type") l _<->_;rw[h];rfl
theorem IQ{i:TypeInfo}{f:TypeInfo->Sem α}(h:P.info? t=some i):sl P (typeInfo t>>=f) l Q<->sl P (f i) l Q:=by rw[AB];show sl P (match P.info? t with|some i=>pure i|none=>stuck "no such type") l _<->_;rw[h];rfl
theorem EW{i:TypeInfo}{f:Nat->Sem α}(h:P.info? t=some i):sl P (sizeOf t>>=f) l Q<->sl P (f i.size) l Q:=by rw[AB];show sl P (typeInfo t>>=λi=>pure i.size) l _<->_;rw[IQ h];rfl
theorem GG{Q:Nat->List Ab->Prop}{i:TypeInfo}(h:P.info? t=some i):sl P (sizeOf t) l Q<->Q i.size l:=by show sl P (typeInfo t>>=λi=>pure i.size) l _<->_;rw[IQ h];rfl
theorem NR{f:Program->Sem α}:sl P (program>>=f) l Q<->sl P (f P) l Q:=Di
def Mp:TypeDesc->Bool
 | .struct _=>true
 | .array _ _=>true
 |_=>false
theorem Mq{d:TypeDesc}{f:Bool->Sem α}(h:P.underlying t=some d):sl P (isAgg t>>=f) l Q<->sl P (f (Mp d)) l Q:=by rw[AB];show sl P (underlying t>>=λd=>match d with| .struct _| .array _ _=>pure true|_=>pure false) l _<->_;rw[BX h];cases d<;>rfl
end
theorem Gf(b off n:Nat):(⟨b,off,none⟩:Addr).add n=⟨b,off+n,none⟩:=by
 unfold Addr.add
 split
 ·rename_i h;subst h;rfl
 ·rfl
section
variable{d:Option Nat}{aft:Array Edge}
theorem BL{o:Oper}(hd:Ie o.op=true)(h: ∀ρ l,Agrees fr ρ->(∀c,c∈R->c∈l)->sl P (execOp ρ o) l (λnx l'=>nx= .value v/\l'=l)):OpQ P ro N fr R o v:=
 ⟨λl hl=>Do hd λρ hρ=>i4 (λnx l' ⟨h1,h2⟩=>by rw[h1];exact⟨rfl,h2⟩) _ _ (h ρ l hρ hl)⟩
theorem nB(hx:ev fr x=some v):OpQ P ro N fr R ⟨d,.move x,ty,pos,aft,g⟩ v:=BL rfl λρ l hρ _=>⟨by rw[hρ x v hx],rfl⟩
theorem dk(hx:ev fr x=some v):OpQ P ro N fr R ⟨d,.assign x,ty,pos,aft,g⟩ v:=BL rfl λρ l hρ _=>⟨by rw[hρ x v hx],rfl⟩
theorem dl(hx:ev fr x=some (.bool true))(hy:ev fr y=some v):OpQ P ro N fr R ⟨d,.pick x y z,ty,pos,aft,g⟩ v:=BL rfl λρ l hρ _=>by simp only[execOp,hρ x _ hx,asBool];exact⟨by simp[hρ y _ hy],rfl⟩
theorem dm(hx:ev fr x=some (.bool false))(hz:ev fr z=some v):OpQ P ro N fr R ⟨d,.pick x y z,ty,pos,aft,g⟩ v:=BL rfl λρ l hρ _=>by simp only[execOp,hρ x _ hx,asBool];exact⟨by simp[hρ z _ hz],rfl⟩
theorem W9{a:Addr}(hx:ev fr x=some (.pointer (some a))):OpQ P ro N fr R ⟨d,.nilCheck x,ty,pos,aft,g⟩ (.pointer (some a)):=BL rfl λρ l hρ _=>by simp only[execOp,hρ x _ hx];exact⟨rfl,rfl⟩
theorem dq(h:sD P s f=some k): ∃fs fd i,P.underlying s=some (.struct fs)/\fs[f]?=some fd/\P.info? fd.type=some i/\i.size≠0/\fd.offset=k:=by
 unfold sD at h
 split at h
 ·rename_i fs hu
  split at h
  ·rename_i fd hf
   split at h
   ·rename_i i hi
    split at h
    ·cases h
    ·rename_i hz;cases h;exact⟨fs,fd,i,hu,hf,hi,hz,rfl⟩
   ·cases h
  ·cases h
 ·cases h
theorem Vo(hx:ev fr x=some (.pointer (some ⟨b,off,none⟩)))[c:FO P s f k](ho:off+k=off'):OpQ P ro N fr R ⟨d,.fieldAddr s x f,ty,pos,aft,g⟩ (.pointer (some ⟨b,off',none⟩)):=BL rfl λρ l hρ _=>by subst ho;obtain⟨fs,fd,i,h1,h2,h3,h4,h5⟩:=dq c.out;simp only[execOp,hρ x _ hx,Instr.fieldAt,AB];rw[<-AB,BX h1];simp only[h2,AB,Bj,Instr.sureAddr,fieldPlace];rw[<-AB,EW h3];simp only[h4,CS,Bj,Gf,h5];exact⟨trivial,trivial⟩
theorem Mr(h:tf P t=some (n,e,k)): ∃i,P.underlying t=some (.array n e)/\P.info? e=some i/\i.size=k:=by
 unfold tf at h
 split at h
 ·rename_i hu;obtain⟨i,hi,h2⟩:=DJ.1 h;cases h2;exact⟨i,hu,hi,rfl⟩
 ·cases h
theorem Ev{y:Nat}(h:sF P t=some (e,k,y)): ∃i,P.underlying t=some (.slice e)/\P.info? e=some i/\i.size=k/\i.bytes=y:=by
 unfold sF at h
 split at h
 ·rename_i hu;obtain⟨i,hi,h2⟩:=DJ.1 h;cases h2;exact⟨i,hu,hi,rfl,rfl⟩
 ·cases h
theorem QN{i:Int}(hx:ev fr x=some (.pointer (some ⟨b,off,none⟩)))(hy:ev fr y=some (.int ki i))[c:AT P t n e k](hi:0<=i/\i<(n:Int)):
 OpQ P ro N fr R ⟨d,.indexAddr t x y,ty,pos,aft,g⟩ (.pointer (some ⟨b,off+i.toNat*k,none⟩)):=BL rfl λρ l hρ _=>by
 obtain⟨inf,h1,h2,h3⟩:=Mr c.out;simp only[execOp,hρ x _ hx,hρ y _ hy,Instr.indexAt,AB,asIntOf,Bj];rw[<-AB,BX h1];simp only[AB,Bj,Instr.sureAddr];rw[<-AB,BX h1];simp only[Ae hi,AB,Bj];rw[GG h2];simp only[Gf,h3];exact⟨trivial,trivial⟩
theorem Vp(hx:ev fr x=some (.pointer (some ⟨b,off,none⟩)))(hy:ev fr y=some (.int ki (m:Nat)))[c:AT P t n e k](hi:m<n)(ho:off+m*k=off'):
 OpQ P ro N fr R ⟨d,.indexAddr t x y,ty,pos,aft,g⟩ (.pointer (some ⟨b,off',none⟩)):=by
 subst ho;have:=QN (P:=P) (ro:=ro) (N:=N) (R:=R) (d:=d) (ty:=ty) (pos:=pos) (aft:=aft) (g:=g) (c:=c) hx hy ⟨Af,Af⟩;simpa using this
theorem SU{i:Int}(hx:ev fr x=some (.slice (some ⟨b,off,none⟩) n cap))(hy:ev fr y=some (.int ki i))[c:ST P t e k yb](hi:0<=i/\i<(n:Int)):
 OpQ P ro N fr R ⟨d,.indexAddr t x y,ty,pos,aft,g⟩ (.pointer (some ⟨b,off+i.toNat*k,none⟩)):=BL rfl λρ l hρ _=>by
 obtain⟨inf,h1,h2,h3,_⟩:=Ev c.out;simp only[execOp,hρ x _ hx,hρ y _ hy,Instr.indexAt,AB,asIntOf,Bj];rw[<-AB,BX h1];simp only[AB,Bj];rw[<-AB,BX h1];simp only[Ae hi,AB,Bj];rw[GG h2];simp only[Gf,h3];exact⟨trivial,trivial⟩
theorem Xa(hx:ev fr x=some (.slice (some ⟨b,off,none⟩) n cap))(hy:ev fr y=some (.int ki (m:Nat)))[c:ST P t e k yb](hi:m<n)(ho:off+m*k=off'):
 OpQ P ro N fr R ⟨d,.indexAddr t x y,ty,pos,aft,g⟩ (.pointer (some ⟨b,off',none⟩)):=by
 subst ho;have:=SU (P:=P) (ro:=ro) (N:=N) (R:=R) (d:=d) (ty:=ty) (pos:=pos) (aft:=aft) (g:=g) (c:=c) hx hy ⟨Af,Af⟩;simpa using this
def Xb:List Value->Nat->Option Value
 |[],_=>none
 |x::_,0=>some x
 |_::r,n+1=>Xb r n
theorem i9(l:List Value): ∀i,Xb l i=l[i]?:=by
 induction l with
 |nil=>intro i;cases i<;>rfl
 |cons x r ih=>intro i;cases i with
  |zero=>rfl
  |succ n=>simp only[Xb,C9];exact ih n
theorem Vq{l:List Value}(h:Xb l i=some v):(toArray l)[i]?=some v:=by rw[AE,<-i9];exact h
inductive LGet:List Value->Nat->Value->Prop
 |zero {x:Value} {r:List Value}:LGet (x::r) 0 x
 |succ {x v:Value} {r:List Value} {n:Nat}:LGet r n v->LGet (x::r) (n+1) v
theorem LGet.spec{l:List Value}(h:LGet l i v):Xb l i=some v:=by
 induction h with
 |zero=>rfl
 |succ _ ih=>exact ih
theorem Ms{l:List Value}(h:LGet l i v):(toArray l)[i]?=some v:=Vq h.spec
inductive LSet:List Value->Nat->Value->List Value->Prop
 |zero {x v:Value} {r:List Value}:LSet (x::r) 0 v (v::r)
 |succ {x v:Value} {r r':List Value} {n:Nat}:LSet r n v r'->LSet (x::r) (n+1) v (x::r')
theorem LSet.spec{l l':List Value}(h:LSet l i v l'):l.set i v=l'/\i<l.length:=by
 induction h with
 |zero=>simp
 |succ _ ih=>simp[ih.1,ih.2]
inductive LSub:List Value->Nat->Nat->List Value->Prop
 |done {l:List Value}:LSub l 0 0 []
 |take {x:Value} {l r:List Value} {n:Nat}:LSub l 0 n r->LSub (x::l) 0 (n+1) (x::r)
 |drop {x:Value} {l r:List Value} {k n:Nat}:LSub l k n r->LSub (x::l) (k+1) n r
theorem LSub.spec{l:List Value}(h:LSub l k n r):(l.drop k).take n=r/\k+n<=l.length:=by
 induction h with
 |done=>simp
 |take _ ih=>simp only[List.drop_zero] at ih⊢;simp[ih.1];omega
 |drop _ ih=>simp only[List.drop_succ_cons,Bi];exact⟨ih.1,Af⟩
inductive LSetA:List Value->Nat->List Value->List Value->Prop
 |done {l:List Value}:LSetA l 0 [] l
 |put {x v:Value} {l r vs:List Value}:LSetA l 0 vs r->LSetA (x::l) 0 (v::vs) (v::r)
 |skip {x:Value} {l r vs:List Value} {k:Nat}:LSetA l k vs r->LSetA (x::l) (k+1) vs (x::r)
theorem K3(h:i7 P t=true): ∃u i,P.underlying t=some u/\Mp u=false/\P.info? t=some i/\i.size=1:=by
 unfold i7 at h
 split at h
 ·cases h
 ·cases h
 ·rename_i u hn1 hn2 hu;cases hi:P.info? t with
  |none=>rw[hi] at h;cases h
  |some i=>rw[hi] at h;refine⟨u,i,hu,?_,rfl,by simpa using h⟩;cases u<;>first|rfl|exact(hn1 _ rfl).elim|exact(hn2 _ _ rfl).elim
 ·cases h
theorem Vr{Q:α->List Ab->Prop}{f:Value->Sem α}(hc:i7 P t=true)(hm:(b,Obj.cells cs T fz)∈l)(hv:cs[off]?=some v)(h:sl P (f v) l Q):sl P (loadVar t ⟨b,off,none⟩>>=f) l Q:=by obtain⟨u,i,h1,h2,_,_⟩:=K3 hc;rw[AB];unfold loadVar;rw[Mq h1,h2];exact⟨cs,T,fz,v,hm,rfl,hv,h⟩
theorem Dv(hx:ev fr x=some (.pointer (some ⟨b,off,none⟩)))[c:OC P t](hm:(b,Obj.cells cs T fz)∈R)(hv:cs[off]?=some v):OpQ P ro N fr R ⟨d,.load t x,ty,pos,aft,g⟩ v:=BL rfl λρ l hρ hR=>by simp only[execOp,hρ x _ hx,Instr.loadAt,AB,Instr.sureAddr,Bj];have:=Vr (P:=P) (f:=λv=>(pure v:Sem Value)) (Q:=λa l'=>Next.value a= .value v/\l'=l) c.out (hR _ hm) hv ⟨rfl,rfl⟩;rw[AB] at this;exact this
theorem Oh{α:Type}{Q:α->List Ab->Prop}{f:Array Value->Sem α}{cs:Array Value}{T:TypeId}{fz:Nat×Nat}(hm:(b,Obj.cells cs T fz)∈l): ∀(n i:Nat) (acc:Array Value),off+i+n<=cs.size->sl P (f (acc++cs.extract (off+i) (off+i+n))) l Q->sl P (loadCellsFrom ⟨b,off,none⟩ i n acc>>=f) l Q
 |0,i,acc,_,h=>by
  have e:cs.extract (off+i) (off+i+0)=#[]:=by simp;omega
  rw[e,JB] at h;exact h
 |n+1,i,acc,hle,h=>by
  unfold loadCellsFrom;rw[AB,AB];show sl P (load ((⟨b,off,none⟩:Addr).add i)) l _;rw[Gf];have hlt:off+i<cs.size:=by omega
  refine⟨cs,T,fz,cs[off+i],hm,rfl,Cw hlt,?_⟩;show sl P (loadCellsFrom ⟨b,off,none⟩ (i+1) n (acc.push cs[off+i])) l _;rw[<-AB];refine Oh hm n (i+1) _ Af ?_;have e:acc.push cs[off+i]++cs.extract (off+(i+1)) (off+(i+1)+n)=acc++cs.extract (off+i) (off+i+(n+1)):=by apply BJ.1;simp only[Array.toList_append,Ka,Gw,Cx,Al,Ca];congr 1;rw[show off+i+(n+1)-(off+i)=n+1 by omega,show off+(i+1)+n-(off+(i+1))=n by omega];rw[CX (i:=off+i) (by simpa using hlt),List.take_succ_cons];simp[IP]
  rw[e];exact h
theorem JJ(h:nA P t=some n): ∃u i,P.underlying t=some u/\Mp u=true/\P.info? t=some i/\i.size=n:=by
 unfold nA at h
 split at h
 ·rename_i hu;obtain⟨i,hi,h2⟩:=DJ.1 h;exact⟨_,i,hu,rfl,hi,h2⟩
 ·rename_i hu;obtain⟨i,hi,h2⟩:=DJ.1 h;exact⟨_,i,hu,rfl,hi,h2⟩
 ·cases h
theorem Vs{Q:α->List Ab->Prop}{f:Value->Sem α}(hc:nA P t=some n)(hm:(b,Obj.cells cs T fz)∈l)(hle:off+n<=cs.size)(h:sl P (f (.agg (cs.extract off (off+n)))) l Q):sl P (loadVar t ⟨b,off,none⟩>>=f) l Q:=by obtain⟨u,i,h1,h2,h3,h4⟩:=JJ hc;rw[AB];unfold loadVar;rw[Mq h1,h2];simp only[CT];rw[EW h3,h4];refine Oh hm n 0 #[] Af ?_;simp only[CN,JC];exact h
theorem Dm(hx:ev fr x=some (.pointer (some ⟨b,off,none⟩)))[c:AG P t n](hm:(b,Obj.cells cs T fz)∈R){wc:Array Value}(hle:off+n<=cs.size)(hv:cs.extract off (off+n)=wc):OpQ P ro N fr R ⟨d,.load t x,ty,pos,aft,g⟩ (.agg wc):=BL rfl λρ l hρ hR=>by subst hv;simp only[execOp,hρ x _ hx,Instr.loadAt,AB,Instr.sureAddr,Bj];have:=Vs (P:=P) (f:=λv=>(pure v:Sem Value)) (Q:=λa l'=>Next.value a= .value (.agg (cs.extract off (off+n)))/\l'=l) c.out (hR _ hm) hle ⟨rfl,rfl⟩;rw[AB] at this;exact this
theorem IR{cs:List Value}(hx:ev fr x=some (.pointer (some ⟨b,off,none⟩)))[c:AG P t n](hm:(b,Obj.cells (toArray cs) T fz)∈R){wc:List Value}(hv:LSub cs off n wc):OpQ P ro N fr R ⟨d,.load t x,ty,pos,aft,g⟩ (.agg (toArray wc)):=
 Dm hx hm (by simpa using hv.spec.2) (by apply BJ.1;rw[Gw,Cx];simpa using hv.spec.1)
end
section
variable{d:Option Nat}{aft:Array Edge}{t t2:TypeId}
def ja(k:IntKind):Int:=if k.signed then-(2^(k.bits-1):Int) else 0
def jc(k:IntKind):Int:=if k.signed then(2^(k.bits-1):Int)-1 else(2^k.bits:Int)-1
theorem YR(k:IntKind)(n:Int)(h1:ja k<=n)(h2:n<=jc k):k.wrap n=n:=by unfold IntKind.wrap ja jc at*;cases k<;>simp[IntKind.signed,IntKind.bits] at* <;>(try split)<;>omega
theorem nD(n:Int)(h: -9223372036854775808<=n/\n<=9223372036854775807):IntKind.i64.wrap n=n:=YR _ _ (by simpa[ja,IntKind.signed,IntKind.bits] using h.1) (by simpa[jc,IntKind.signed,IntKind.bits] using h.2)
def dr(k:IntKind)(n:Int):Prop:=match k with
 | .i64=> -9223372036854775808<=n/\n<=9223372036854775807
 | .u64=>0<=n/\n<=18446744073709551615
 | .u8=>0<=n/\n<=255
 | .i32=> -2147483648<=n/\n<=2147483647
 | .u32=>0<=n/\n<=4294967295
 |_=>False
theorem K4{k:IntKind}{n:Int}(h:dr k n):k.wrap n=n:=by cases k<;>simp only[dr] at h<;>first|exact h.elim|exact YR _ _ (by simpa[ja,IntKind.signed,IntKind.bits] using h.1) (by simpa[jc,IntKind.signed,IntKind.bits] using h.2)
theorem Qa{n:Int}(h1: -9223372036854775808<=n)(h2:n<=9223372036854775807):dr .i64 n:=⟨h1,h2⟩
theorem Oi{n:Int}(h1:0<=n)(h2:n<18446744073709551616):dr .u64 n:=⟨h1,Af⟩
theorem CQ(op:BinOp)(k k':IntKind)(i j:Int):eqGuard op t x y (.int k i) (.int k' j)=pure ():=by unfold eqGuard;split<;>rfl
theorem Oj(op:BinOp)(i j:Bool):eqGuard op t x y (.bool i) (.bool j)=pure ():=by unfold eqGuard;split<;>rfl
theorem I6(op:BinOp)(i j:Option Addr):eqGuard op t x y (.pointer i) (.pointer j)=pure ():=by unfold eqGuard;split<;>rfl
theorem Xc(op:BinOp)(i j:Option Addr)(a b c e:Nat):eqGuard op t x y (.slice i a b) (.slice j c e)=pure ():=by unfold eqGuard;split<;>rfl
theorem HN{op:BinOp}(hx:ev fr x=some u)(hy:ev fr y=some w)(hg: ∀x y,eqGuard op t x y u w=pure ())(h:binOp op t u w=pure v):OpQ P ro N fr R ⟨d,.binOp op t x y t2,ty,pos,aft,g⟩ v:=BL rfl λρ l hρ _=>by simp only[execOp,hρ x _ hx,hρ y _ hy,AB,hg,h];exact⟨rfl,rfl⟩
variable{k:IntKind}{i j:Int}
theorem qp(hx:ev fr x=some (.int k i))(hy:ev fr y=some (.int k j))(h:dr k (i+j)):OpQ P ro N fr R ⟨d,.binOp .add t x y t2,ty,pos,aft,g⟩ (.int k (i+j)):=
 HN hx hy (λ_ _=>CQ _ _ _ _ _) (by simp[binOp,Op.intArith,K4 h])
theorem lZ(hx:ev fr x=some (.int k i))(hy:ev fr y=some (.int k j))(h:dr k (i-j)):OpQ P ro N fr R ⟨d,.binOp .sub t x y t2,ty,pos,aft,g⟩ (.int k (i-j)):=
 HN hx hy (λ_ _=>CQ _ _ _ _ _) (by simp[binOp,Op.intArith,K4 h])
theorem qq(hx:ev fr x=some (.int k i))(hy:ev fr y=some (.int k j))(h:dr k (i*j)):OpQ P ro N fr R ⟨d,.binOp .mul t x y t2,ty,pos,aft,g⟩ (.int k (i*j)):=
 HN hx hy (λ_ _=>CQ _ _ _ _ _) (by simp[binOp,Op.intArith,K4 h])
theorem jd(hx:ev fr x=some (.int k i))(hy:ev fr y=some (.int k j)):OpQ P ro N fr R ⟨d,.binOp .add t x y t2,ty,pos,aft,g⟩ (.int k (k.wrap (i+j))):=
 HN hx hy (λ_ _=>CQ _ _ _ _ _) (by simp[binOp,Op.intArith])
theorem je(hx:ev fr x=some (.int k i))(hy:ev fr y=some (.int k j)):OpQ P ro N fr R ⟨d,.binOp .mul t x y t2,ty,pos,aft,g⟩ (.int k (k.wrap (i*j))):=
 HN hx hy (λ_ _=>CQ _ _ _ _ _) (by simp[binOp,Op.intArith])
theorem qt(hx:ev fr x=some (.int k i))(hy:ev fr y=some (.int k j))(h0:0<=i)(h1:0<j)(h:dr k i):OpQ P ro N fr R ⟨d,.binOp .quo t x y t2,ty,pos,aft,g⟩ (.int k (i/j)):=
 HN hx hy (λ_ _=>CQ _ _ _ _ _) (by
  have e:i.tdiv j=i/j:=Int.tdiv_eq_ediv_of_nonneg h0;have h2:i/j<=i:=Int.ediv_le_self _ h0;have h3:0<=i/j:=Int.ediv_nonneg h0 Af;have hr:dr k (i/j):=by cases k<;>simp only[dr] at h⊢ <;>first|exact h|omega
  simp[binOp,Op.intDiv,show ¬j=0 by omega,e,K4 hr])
theorem qv(hx:ev fr x=some (.int k i))(hy:ev fr y=some (.int k j))(h0:0<=i)(h1:0<j):OpQ P ro N fr R ⟨d,.binOp .rem t x y t2,ty,pos,aft,g⟩ (.int k (i%j)):=
 HN hx hy (λ_ _=>CQ _ _ _ _ _) (by have e:i.tmod j=i%j:=Int.tmod_eq_emod_of_nonneg h0;simp[binOp,Op.intDiv,show ¬j=0 by omega,e])
theorem qw(hx:ev fr x=some (.int k i))(hy:ev fr y=some (.int k j)):OpQ P ro N fr R ⟨d,.binOp .lss t x y t2,ty,pos,aft,g⟩ (.bool (decide (i<j))):=
 HN hx hy (λ_ _=>CQ _ _ _ _ _) (by simp[binOp,Op.intCmp])
theorem qx(hx:ev fr x=some (.int k i))(hy:ev fr y=some (.int k j)):OpQ P ro N fr R ⟨d,.binOp .leq t x y t2,ty,pos,aft,g⟩ (.bool (decide (i<=j))):=
 HN hx hy (λ_ _=>CQ _ _ _ _ _) (by simp[binOp,Op.intCmp])
theorem qy(hx:ev fr x=some (.int k i))(hy:ev fr y=some (.int k j)):OpQ P ro N fr R ⟨d,.binOp .gtr t x y t2,ty,pos,aft,g⟩ (.bool (decide (j<i))):=
 HN hx hy (λ_ _=>CQ _ _ _ _ _) (by simp[binOp,Op.intCmp])
theorem qz(hx:ev fr x=some (.int k i))(hy:ev fr y=some (.int k j)):OpQ P ro N fr R ⟨d,.binOp .geq t x y t2,ty,pos,aft,g⟩ (.bool (decide (j<=i))):=
 HN hx hy (λ_ _=>CQ _ _ _ _ _) (by simp[binOp,Op.intCmp])
theorem qA(hx:ev fr x=some (.int k i))(hy:ev fr y=some (.int k j)):OpQ P ro N fr R ⟨d,.binOp .eql t x y t2,ty,pos,aft,g⟩ (.bool (decide (i=j))):=
 HN hx hy (λ_ _=>CQ _ _ _ _ _) (by simp[binOp,Op.intCmp];rfl)
theorem qB(hx:ev fr x=some (.int k i))(hy:ev fr y=some (.int k j)):OpQ P ro N fr R ⟨d,.binOp .neq t x y t2,ty,pos,aft,g⟩ (.bool (decide (¬i=j))):=
 HN hx hy (λ_ _=>CQ _ _ _ _ _) (by simp[binOp,Op.intCmp,bne];rfl)
theorem qD{bb:Bool}(hx:ev fr x=some (.bool bb)):OpQ P ro N fr R ⟨d,.unOp .not t x,ty,pos,aft,g⟩ (.bool (!bb)):=BL rfl λρ l hρ _=>by simp only[execOp,hρ x _ hx,Op.unary,AB];exact⟨rfl,rfl⟩
theorem nE(hx:ev fr x=some (.int k i))[c1:IT P src k][c2:IT P dst k'](h:dr k' i):OpQ P ro N fr R ⟨d,.convert src dst x,ty,pos,aft,g⟩ (.int k' i):=BL rfl λρ l hρ _=>by
 have h1:P.underlying src=some (.int k):=by have:=c1.out;unfold i8 at this;split at this<;>simp_all
 have h2:P.underlying dst=some (.int k'):=by have:=c2.out;unfold i8 at this;split at this<;>simp_all
 simp only[execOp,hρ x _ hx,convert,AB];rw[EU h1,EU h2];exact⟨by rw[K4 h],rfl⟩
theorem Ol(hx:ev fr x=some (.int k i))[c1:IT P src k][c2:IT P dst k']:OpQ P ro N fr R ⟨d,.convert src dst x,ty,pos,aft,g⟩ (.int k' (k'.wrap i)):=BL rfl λρ l hρ _=>by
 have h1:P.underlying src=some (.int k):=by have:=c1.out;unfold i8 at this;split at this<;>simp_all
 have h2:P.underlying dst=some (.int k'):=by have:=c2.out;unfold i8 at this;split at this<;>simp_all
 simp only[execOp,hρ x _ hx,convert,AB];rw[EU h1,EU h2];exact⟨rfl,rfl⟩
theorem Mt{t:Nat}(h:sG P t=some e):P.underlying t=some (.pointer e):=by unfold sG at h;split at h<;>simp_all
theorem jf(hx:ev fr x=some (.pointer p))(hy:ev fr y=some (.pointer none))[c:PT P t e]:OpQ P ro N fr R ⟨d,.binOp .eql t x y t2,ty,pos,aft,g⟩ (.bool p.isNone):=BL rfl λρ l hρ _=>by simp only[execOp,hρ x _ hx,hρ y _ hy,AB,I6,Bj,binOp];unfold Op.equal Op.maxDepth Op.equalIn;rw[BX (Mt c.out)];cases p<;>exact⟨rfl,rfl⟩
theorem jg(hx:ev fr x=some (.pointer p))(hy:ev fr y=some (.pointer none))[c:PT P t e]:OpQ P ro N fr R ⟨d,.binOp .neq t x y t2,ty,pos,aft,g⟩ (.bool p.isSome):=BL rfl λρ l hρ _=>by simp only[execOp,hρ x _ hx,hρ y _ hy,AB,I6,Bj,binOp];unfold Op.equal Op.maxDepth Op.equalIn;rw[BX (Mt c.out)];cases p<;>exact⟨rfl,rfl⟩
theorem qE{p:Bool}(hx:ev fr x=some (.bool p))(hy:ev fr y=some (.bool q))(ht:P.underlying t=some .bool):OpQ P ro N fr R ⟨d,.binOp .eql t x y t2,ty,pos,aft,g⟩ (.bool (p==q)):=BL rfl λρ l hρ _=>by simp only[execOp,hρ x _ hx,hρ y _ hy,AB,Oj,Bj,binOp];unfold Op.equal Op.maxDepth Op.equalIn;rw[BX ht];exact⟨rfl,rfl⟩
theorem qF{p:Bool}(hx:ev fr x=some (.bool p))(hy:ev fr y=some (.bool q))(ht:P.underlying t=some .bool):OpQ P ro N fr R ⟨d,.binOp .neq t x y t2,ty,pos,aft,g⟩ (.bool (!(p==q))):=BL rfl λρ l hρ _=>by simp only[execOp,hρ x _ hx,hρ y _ hy,AB,Oj,Bj,binOp];unfold Op.equal Op.maxDepth Op.equalIn;rw[BX ht];exact⟨rfl,rfl⟩
theorem aq{vs:Array Value}{ix:Nat}(hx:ev fr x=some (.tuple vs))(hv:vs[ix]?=some v):OpQ P ro N fr R ⟨d,.extract x ix,ty,pos,aft,g⟩ v:=BL rfl λρ l hρ _=>by simp only[execOp,hρ x _ hx,AB,Instr.extract,hv];exact⟨rfl,rfl⟩
theorem Xd(hx:PX fr xs=some vs):OpQ P ro N fr R ⟨d,.makeFunc (.func f) #[] xs.toArray,ty,pos,aft,g⟩ (.func (.func f) #[] vs.toArray):=BL rfl λρ l hρ _=>by simp only[execOp,AB,Instr.makeFunc,Da,hρ.list hx];exact⟨rfl,rfl⟩
theorem Vt{k t:Nat}(h:sE P s f=some (k,t)): ∃fs fd,P.underlying s=some (.struct fs)/\fs[f]?=some fd/\fd.offset=k/\fd.type=t:=by
 unfold sE at h
 split at h
 ·rename_i fs hu;obtain⟨fd,hf,h2⟩:=DJ.1 h;cases h2;exact⟨fs,fd,hu,hf,rfl,rfl⟩
 ·cases h
theorem dt{Q:α->List Ab->Prop}{f:Value->Sem α}{t:Nat}(hc:i7 P t=true)(hv:cs[off]?=some v)(h:sl P (f v) l Q):sl P (part t cs off>>=f) l Q:=by obtain⟨u,i,h1,h2,_,_⟩:=K3 hc;rw[AB];unfold part;rw[Mq h1,h2];simp only[Bg,CS,hv];exact h
theorem du{kk:Nat}(hx:ev fr x=some (.slice p n cap))[c:ST P t e kk yb]:OpQ P ro N fr R ⟨d,.call {callee:= .builtin .len,args:=#[x],argTypes:=#[t]},ty,pos,aft,g⟩ (.int .i64 (n:Nat)):=BL rfl λρ l hρ _=>by obtain⟨inf,h1,_⟩:=Ev c.out;simp only[execOp,resolve,AB,Bj,invoke,builtin,Da,AJ,CY,hρ x _ hx,Builtin.len_];show sl P (underlying t>>=_) l _;rw[BX h1];exact⟨rfl,rfl⟩
theorem CZ{fs:Array Value}{at_:Array TypeId}(hx:ev fr x=some (.func (.func f) fs cs))(hy:PX fr xs=some vs)[c:EN P f](h:Fn P f (fs.toList++vs++cs.toList) l K):OpE P ro N fr l ⟨d,.call {callee:= .value x,args:=xs.toArray,argTypes:=at_},ty,pos,aft,g⟩ K:=by
 refine⟨rfl,λE a W hf hs=>?_⟩;have hρ:=hf.agrees;unfold OpVal;have e:(execOp a.eval ⟨d,.call {callee:= .value x,args:=xs.toArray,argTypes:=at_},ty,pos,aft,g⟩).run P W= .ok (.enter f (fs.toList++vs++cs.toList).toArray) W:=by simp only[execOp,resolve,Da,hρ.list hy,hρ x _ hx,Deferred.ofValue,Sem.run_bind];simp only[Sem.run_pure,Result.andThen,invoke];rw[c.out];congr 2;apply BJ.1;simp
 rw[e];refine Ll ((h.run E W hs).mono ?_);rintro e W'' ⟨v,l'',rfl,hk,hs''⟩;exact⟨v,rfl,l'',hk,hs''⟩
theorem Az{at_:Array TypeId}(hx:ev fr x=some (.func (.func f) #[] #[]))(hy:PX fr xs=some vs)[c:EN P f](h:Fn P f vs l K):OpE P ro N fr l ⟨d,.call {callee:= .value x,args:=xs.toArray,argTypes:=at_},ty,pos,aft,g⟩ K:=
 CZ hx hy (by simpa using h)
theorem AK{at_:Array TypeId}(hx:ev fr x=some (.func (.func f) #[] #[]))(hy:PX fr xs=some vs)[c:EN P f](h: ∀l,(∀c,c∈R->c∈l)->Fn P f vs l (λv' l'=>v'=v/\l'=l)):OpQ P ro N fr R ⟨d,.call {callee:= .value x,args:=xs.toArray,argTypes:=at_},ty,pos,aft,g⟩ v:=
 ⟨λl hl=>Az hx hy (h l hl)⟩
theorem CK{r:Nat}{at_:Array TypeId}(hx:ev fr x=some (.func (.yield r) #[] #[]))(hy:PX fr xs=some vs)(h:Mn P r vs l K):OpE P ro N fr l ⟨d,.call {callee:= .value x,args:=xs.toArray,argTypes:=at_},ty,pos,aft,g⟩ K:=by
 refine⟨rfl,λE a W hf hs=>?_⟩;have hρ:=hf.agrees;unfold OpVal;obtain⟨fn,tmps,assign,body,hy2,hR⟩:=h.run E W hs;have e:(execOp a.eval ⟨d,.call {callee:= .value x,args:=xs.toArray,argTypes:=at_},ty,pos,aft,g⟩).run P W= .ok (.round r fn tmps assign body) W:=by simp only[execOp,resolve,Da,hρ.list hy,hρ x _ hx,Deferred.ofValue,Sem.run_bind];simp only[Sem.run_pure,Result.andThen,invoke];rw[<-hy2];congr 1;simp
 rw[e];refine W8 (hR.mono ?_);rintro e W'' ⟨v,l'',rfl,hk,hs''⟩;exact⟨v,rfl,l'',hk,hs''⟩
theorem I7{t:Nat}{z:List Value}(h:nz P t=some z): ∃i zv,P.info? t=some i/\i.zero=some zv/\zv.cells.toList=z:=by
 unfold nz at h
 split at h
 ·rename_i i hi
  split at h
  ·rename_i zv hz;cases h;exact⟨i,zv,hi,hz,rfl⟩
  ·cases h
 ·cases h
theorem e_alloc{zs:List Value}[c:ZV P t zs]:OpE P ro N fr l ⟨d,.alloc t,ty,pos,aft,g⟩ (λv l'=> ∃b,(∀c,c∈l->c.1≠b)/\v= .pointer (some ⟨b,0,none⟩)/\l'=(b,.cells zs.toArray t (0,0))::l):=Do rfl λρ hρ=>by obtain⟨i,zv,h1,h2,h3⟩:=I7 c.out;simp only[execOp,AB,Instr.alloc,zeroValue];rw[<-AB,IQ h1,h2];simp only[Bj,newVar,newRow,AB];intro b hb;exact⟨b,hb,rfl,by rw[<-h3]⟩
theorem l5(hx:ev fr x=some v):OpE P ro N fr l ⟨d,.box e x,ty,pos,aft,g⟩ (λv' l'=> ∃b,(∀c,c∈l->c.1≠b)/\v'= .pointer (some ⟨b,0,none⟩)/\l'=(b,.cells v.cells e (0,0))::l):=Do rfl λρ hρ=>by simp only[execOp,AB,Instr.box,hρ x _ hx,newVar,newRow];intro b hb;exact⟨b,hb,rfl,rfl⟩
theorem M9(h:v.oneCell'=true):v.cells=#[v]:=by cases v<;>first|rfl|(simp[Value.oneCell'] at h)
theorem Ue{Q:α->List Ab->Prop}{f:Unit->Sem α}(hc:i7 P t=true)(h1:v.oneCell'=true)(hlt:off<cs.size)(hu:Upd l b (.cells cs T (0,0)) (.cells (cs.setIfInBounds off v) T (0,0)) l')(h:sl P (f ()) l' Q):sl P (storeVar t ⟨b,off,none⟩ v>>=f) l Q:=by obtain⟨u,i,_,_,h3,h4⟩:=K3 hc;rw[AB];unfold storeVar;rw[EW h3,M9 h1,h4];exact⟨h1,cs,T,(0,0),l',hu,rfl,hlt,by simp[Addr.add],h⟩
theorem C7(hx:ev fr x=some (.pointer (some ⟨b,off,none⟩)))(hy:ev fr y=some v)[c:OC P t](h1:v.oneCell'=true)(hu:Upd l b (.cells cs T (0,0)) (.cells (cs.setIfInBounds off v) T (0,0)) l')(hlt:off<cs.size):OpE P ro N fr l ⟨d,.store t x y,ty,pos,aft,g⟩ (λv' l2=>v'=undef/\l2=l'):=Do rfl λρ hρ=>by simp only[execOp,hρ x _ hx,hρ y _ hy,Instr.storeAt,AB,Instr.sureAddr,Bj];have:=Ue (P:=P) (f:=λv=>(pure v:Sem Unit)) (Q:=λa l2=>Vn P (λv' l2=>v'=undef/\l2=l') Next.skip l2) c.out h1 hlt hu ⟨rfl,rfl⟩;rw[AB] at this;exact this
theorem DZ(hx:ev fr x=some v)(h1:v.oneCell'=true):OpE P ro N fr l ⟨d,.box e x,ty,pos,aft,g⟩ (λv' l'=> ∃b,(∀c,c∈l->c.1≠b)/\v'= .pointer (some ⟨b,0,none⟩)/\l'=(b,.cells (toArray [v]) e (0,0))::l):=
 (l5 hx).mono λv' l' ⟨b,h0,h1',h2⟩=>⟨b,h0,h1',by rw[h2,M9 h1]⟩
theorem CR(hx:ev fr x=some (.agg ws)):OpE P ro N fr l ⟨d,.box e x,ty,pos,aft,g⟩ (λv' l'=> ∃b,(∀c,c∈l->c.1≠b)/\v'= .pointer (some ⟨b,0,none⟩)/\l'=(b,.cells ws e (0,0))::l):=l5 hx
theorem FP{cs:List Value}(hx:ev fr x=some (.pointer (some ⟨b,off,none⟩)))(hy:ev fr y=some v)[c:OC P t](h1:v.oneCell'=true)(hm:(b,Obj.cells (toArray cs) T (0,0))∈l)(hs:LSet cs off v cs')(hu:Upd l b (.cells (toArray cs) T (0,0)) (.cells (toArray cs') T (0,0)) l'):OpE P ro N fr l ⟨d,.store t x y,ty,pos,aft,g⟩ (λv' l2=>v'=undef/\l2=l'):=by refine C7 hx hy h1 (cs:=toArray cs) (T:=T) ?_ (by simpa using hs.spec.2);rw[Bq,hs.spec.1];exact hu
def CO(cs:Array Value)(off:Nat):List Value->Array Value
 |[]=>cs
 |v::r=>CO (cs.setIfInBounds off v) (off+1) r
theorem Upd.mid{l'':List Ab}{o'':Obj}(o':Obj)(h:Upd l b o o'' l''): ∃l',Upd l b o o' l'/\Upd l' b o' o'' l'':=by
 induction h with
 |here=>exact⟨_,.here,.here⟩
 |there _ ih=>obtain⟨l',h1,h2⟩:=ih;exact⟨_,.there h1,.there h2⟩
theorem Upd.same'{o':Obj}(h:Upd l b o o' l')(e:o=o'):l'=l:=by
 induction h with
 |here=>rw[e]
 |there _ ih=>rw[ih e]
theorem Upd.same(h:Upd l b o o l'):l'=l:=h.same' rfl
theorem KG{α:Type}{Q:α->List Ab->Prop}{f:Unit->Sem α}{T:TypeId}: ∀(vs:List Value) (i:Nat) (cs:Array Value) (l l':List Ab),(∀v,v∈vs->v.oneCell'=true)->off+i+vs.length<=cs.size->Upd l b (.cells cs T (0,0)) (.cells (CO cs (off+i) vs) T (0,0)) l'->sl P (f ()) l' Q->sl P (storeCells ⟨b,off,none⟩ vs i>>=f) l Q
 |[],i,cs,l,l',_,_,hu,h=>by have:=hu.same;subst this;exact h
 |v::r,i,cs,l,l',hv,hle,hu,h=>by unfold storeCells;rw[AB,AB];show sl P (store ((⟨b,off,none⟩:Addr).add i) v) l _;rw[Gf];obtain⟨l1,h1,h2⟩:=hu.mid (.cells (cs.setIfInBounds (off+i) v) T (0,0));simp only[Bi] at hle;refine⟨hv v Ak,cs,T,(0,0),l1,h1,rfl,by simp only;omega,by simp,?_⟩;show sl P (storeCells ⟨b,off,none⟩ r (i+1)) l1 _;rw[<-AB];exact KG r (i+1) _ l1 l' (λu hu=>hv u (An _ hu)) (by simp;omega) h2 h
theorem LSetA.spec{l:List Value}{k:Nat}(h:LSetA l k vs r):CO (toArray l) k vs=toArray r/\k+vs.length<=l.length:=by
 have key: ∀(vs:List Value) (pre l:List Value) (k:Nat),CO (toArray (pre++l)) (pre.length+k) vs=toArray (pre++(CO (toArray l) k vs).toList):=by
  intro vs
  induction vs with
  |nil=>intro pre l k;simp[CO]
  |cons v vs ih=>intro pre l k;simp only[CO,Bq];rw[Cg _ _ Af,show pre.length+k-pre.length=k by omega,show pre.length+k+1=pre.length+(k+1) by omega];exact ih pre _ _
 induction h with
 |done=>exact⟨rfl,Bf _⟩
 |put h ih=>rename_i x v l r vs;refine⟨?_,by have:=ih.2;simp only[Bi];omega⟩;simp only[CO,Bq,EX];have:=key vs [v] l 0;simp only[Bl,Ca,Bw,CN] at this⊢;rw[this,ih.1]
 |skip h ih=>rename_i x l r vs k;refine⟨?_,by have:=ih.2;simp only[Bi];omega⟩;have:=key vs [x] l k;simp only[Bl,Ca] at this;rw[Js k 1,this,ih.1]
theorem Ee(hx:ev fr x=some (.pointer (some ⟨b,off,none⟩)))(hy:ev fr y=some (.agg ws))[c:AG P t n](hn:ws.size=n)(h1: ∀v,v∈ws.toList->v.oneCell'=true)(hu:Upd l b (.cells cs T (0,0)) (.cells (CO cs off ws.toList) T (0,0)) l')(hlt:off+n<=cs.size):OpE P ro N fr l ⟨d,.store t x y,ty,pos,aft,g⟩ (λv' l2=>v'=undef/\l2=l'):=Do rfl λρ hρ=>by obtain⟨u,i,_,_,h3,h4⟩:=JJ c.out;simp only[execOp,hρ x _ hx,hρ y _ hy,Instr.storeAt,AB,Instr.sureAddr,Bj];unfold storeVar;rw[EW h3,h4];have e:(Value.agg ws).cells=ws:=rfl;rw[e,hn];simp only[ne_eq,not_true,CS];have:=KG (P:=P) (f:=λv=>(pure v:Sem Unit)) (Q:=λa l2=>Vn P (λv' l2=>v'=undef/\l2=l') Next.skip l2) ws.toList 0 cs l l' h1 (by simp;omega) hu ⟨rfl,rfl⟩;rw[AB] at this;exact this
theorem SW{cs ws:List Value}(hx:ev fr x=some (.pointer (some ⟨b,off,none⟩)))(hy:ev fr y=some (.agg (toArray ws)))[c:AG P t n](hn:ws.length=n)(h1: ∀v,v∈ws->v.oneCell'=true)(hm:(b,Obj.cells (toArray cs) T (0,0))∈l)(hs:LSetA cs off ws cs')(hu:Upd l b (.cells (toArray cs) T (0,0)) (.cells (toArray cs') T (0,0)) l'):OpE P ro N fr l ⟨d,.store t x y,ty,pos,aft,g⟩ (λv' l2=>v'=undef/\l2=l'):=by refine Ee hx hy (cs:=toArray cs) (T:=T) (by simpa using hn) (by simpa using h1) ?_ (by have:=hs.spec.2;simp;omega);have e:=hs.spec.1;simp only at e⊢;rw[e];exact hu
end
end Go.Proofs.YtlkgekpmileobaaGreat
