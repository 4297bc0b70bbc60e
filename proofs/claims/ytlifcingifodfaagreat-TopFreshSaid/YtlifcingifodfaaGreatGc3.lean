/- Laws that the statement's proof leans on (joined out of several texts). -/
import Derived.Test.YtlifcingifodfaaGreatGc2
set_option maxHeartbeats 4000000
set_option linter.unusedVariables false
set_option linter.unusedSimpArgs false
namespace Go.Proofs.YtlifcingifodfaaGreat
open List(toArray)
open Go.RowKit
variable{t n e k f b s i off' yb cap N m:Nat}{cs ws:Array Value}{T ty src dst:TypeId}{v u:Value}{l' l R:Ad}{vs r cs':Ap}{α:Type}{fz:Nat×Nat}{xs:List Operand}{ki k':IntKind}{P:Program}{p:Option Addr}{o:Obj}{ro:Option Nat}{K:Value->Ad->Prop}{pos:String}{g:Option (Nat×Bool)}{x y z:Operand}{q:Bool}
def foV(P:Program)(s f:Nat):Option Nat:=match P.underlying s with
 |some (.struct fs)=>match fs[f]? with
  |some fd=>match P.info? fd.type with
   |some i=>if i.size=0 then none else some fd.offset
   |none=>none
  |none=>none
 |_=>none
def fvV(P:Program)(s f:Nat):Option (Nat×Nat):=match P.underlying s with
 |some (.struct fs)=>(fs[f]?).map λfd=>(fd.offset,fd.type)
 |_=>none
def atV(P:Program)(t:Nat):Option (Nat×Nat×Nat):=match P.underlying t with
 |some (.array n e)=>(P.info? e).map λi=>(n,e,i.size)
 |_=>none
def stV(P:Program)(t:Nat):Option (Nat×Nat×Nat):=match P.underlying t with
 |some (.slice e)=>(P.info? e).map λi=>(e,i.size,i.bytes)
 |_=>none
def vM(P:Program)(t:Nat):Option (Ap):=match P.info? t with
 |some i=>match i.zero with
  |some z=>some z.cells.toList
  |none=>none
 |none=>none
def p7(P:Program)(t:Nat):Bool:=match P.underlying t with
 |some (.struct _)=>false
 |some (.array ..)=>false
 |some _=>(P.info? t).any λi=>i.size==1
 |none=>false
def vO(P:Program)(t:Nat):Option Nat:=match P.underlying t with
 |some (.struct _)=>(P.info? t).map (·.size)
 |some (.array ..)=>(P.info? t).map (·.size)
 |_=>none
def p8(P:Program)(t:Nat):Option IntKind:=match P.underlying t with
 |some (.int k)=>some k
 |_=>none
def ptV(P:Program)(t:Nat):Option Nat:=match P.underlying t with
 |some (.pointer e)=>some e
 |_=>none
def mtV(P:Program)(t:Nat):Option (Nat×Nat):=match P.underlying t with
 |some (.map k e)=>some (k,e)
 |_=>none
class FO(P:Program)(s f:Nat)(k:outParam Nat):Prop where out:foV P s f=some k
class FV(P:Program)(s f:Nat)(k t:outParam Nat):Prop where out:fvV P s f=some (k,t)
class AT(P:Program)(t:Nat)(n e z:outParam Nat):Prop where out:atV P t=some (n,e,z)
class ST(P:Program)(t:Nat)(e z y:outParam Nat):Prop where out:stV P t=some (e,z,y)
class ZV(P:Program)(t:Nat)(z:outParam (Ap)):Prop where out:vM P t=some z
class OC(P:Program)(t:Nat):Prop where out:p7 P t=true
class AG(P:Program)(t:Nat)(z:outParam Nat):Prop where out:vO P t=some z
class IT(P:Program)(t:Nat)(k:outParam IntKind):Prop where out:p8 P t=some k
class PT(P:Program)(t:Nat)(e:outParam Nat):Prop where out:ptV P t=some e
class MT(P:Program)(t:Nat)(k e:outParam Nat):Prop where out:mtV P t=some (k,e)
class EN(P:Program)(f:Nat):Prop where out: ∀args w,(callFunc f args).run P w= .ok (.enter f args) w
section
variable{Q:α->Ad->Prop}
theorem Cc{d:TypeDesc}{f:TypeDesc->Sem α}(h:P.underlying t=some d):sl P (underlying t>>=f) l Q<->sl P (f d) l Q:=by rw[AC];show sl P (match P.underlying t with|some d=>pure d|none=>stuck "no such type") l _<->_;rw[h];rfl
theorem E0{Q:TypeDesc->Ad->Prop}{d:TypeDesc}(h:P.underlying t=some d):sl P (underlying t) l Q<->Q d l:=by show sl P (match P.underlying t with|some d=>pure d|none=>stuck "no such type") l _<->_;rw[h];rfl
theorem JN{i:TypeInfo}{f:TypeInfo->Sem α}(h:P.info? t=some i):sl P (typeInfo t>>=f) l Q<->sl P (f i) l Q:=by rw[AC];show sl P (match P.info? t with|some i=>pure i|none=>stuck "no such type") l _<->_;rw[h];rfl
theorem Fe{i:TypeInfo}{f:Nat->Sem α}(h:P.info? t=some i):sl P (sizeOf t>>=f) l Q<->sl P (f i.size) l Q:=by rw[AC];show sl P (typeInfo t>>=λi=>pure i.size) l _<->_;rw[JN h];rfl
theorem Hr{Q:Nat->Ad->Prop}{i:TypeInfo}(h:P.info? t=some i):sl P (sizeOf t) l Q<->Q i.size l:=by show sl P (typeInfo t>>=λi=>pure i.size) l _<->_;rw[JN h];rfl
theorem Pw{f:Program->Sem α}:sl P (program>>=f) l Q<->sl P (f P) l Q:=DF
def NV:TypeDesc->Bool
 | .struct _=>true
 | .array _ _=>true
 |_=>false
theorem NW{d:TypeDesc}{f:Bool->Sem α}(h:P.underlying t=some d):sl P (isAgg t>>=f) l Q<->sl P (f (NV d)) l Q:=by rw[AC];show sl P (underlying t>>=λd=>match d with| .struct _| .array _ _=>pure true|_=>pure false) l _<->_;rw[Cc h];cases d<;>rfl
end
theorem Gw(b off n:Nat):(⟨b,off,none⟩:Addr).add n=⟨b,off+n,none⟩:=by
 unfold Addr.add
 split
 ·rename_i h;subst h;rfl
 ·rfl
section
variable{fr:Fr}{d:Option Nat}{aft:Array Edge}{w:Value}{off:Nat}
theorem BM{o:Oper}(hd:I9 o.op=true)(h: ∀ρ l,Agrees fr ρ->(∀c,c∈R->c∈l)->sl P (execOp ρ o) l (λnx l'=>nx= .value v/\l'=l)):OpQ P ro N fr R o v:=
 ⟨λl hl=>DM hd λρ hρ=>pX (λnx l' ⟨h1,h2⟩=>by rw[h1];exact⟨rfl,h2⟩) _ _ (h ρ l hρ hl)⟩
theorem vP(hx:ev fr x=some v):OpQ P ro N fr R ⟨d,.move x,ty,pos,aft,g⟩ v:=BM rfl λρ l hρ _=>⟨by rw[hρ x v hx],rfl⟩
theorem jU(hx:ev fr x=some v):OpQ P ro N fr R ⟨d,.assign x,ty,pos,aft,g⟩ v:=BM rfl λρ l hρ _=>⟨by rw[hρ x v hx],rfl⟩
theorem jV(hx:ev fr x=some (.bool true))(hy:ev fr y=some v):OpQ P ro N fr R ⟨d,.pick x y z,ty,pos,aft,g⟩ v:=BM rfl λρ l hρ _=>by simp only[execOp,hρ x _ hx,asBool];exact⟨by simp[hρ y _ hy],rfl⟩
theorem jW(hx:ev fr x=some (.bool false))(hz:ev fr z=some v):OpQ P ro N fr R ⟨d,.pick x y z,ty,pos,aft,g⟩ v:=BM rfl λρ l hρ _=>by simp only[execOp,hρ x _ hx,asBool];exact⟨by simp[hρ z _ hz],rfl⟩
theorem ZU{a:Addr}(hx:ev fr x=some (.pointer (some a))):OpQ P ro N fr R ⟨d,.nilCheck x,ty,pos,aft,g⟩ (.pointer (some a)):=BM rfl λρ l hρ _=>by simp only[execOp,hρ x _ hx];exact⟨rfl,rfl⟩
theorem jX(h:foV P s f=some k): ∃fs fd i,P.underlying s=some (.struct fs)/\fs[f]?=some fd/\P.info? fd.type=some i/\i.size≠0/\fd.offset=k:=by
 unfold foV at h
 split at h
 ·rename_i fs hu
  split at h
  ·rename_i fd hf
   split at h
   ·rename_i i hi
    split at h
    ·cases h
    ·rename_i hz;cases h;exact⟨fs,fd,i,hu,hf,hi,hz,rfl⟩
   ·cases h
  ·cases h
 ·cases h
theorem XN(hx:ev fr x=some (.pointer (some ⟨b,off,none⟩)))[c:FO P s f k](ho:off+k=off'):OpQ P ro N fr R ⟨d,.fieldAddr s x f,ty,pos,aft,g⟩ (.pointer (some ⟨b,off',none⟩)):=BM rfl λρ l hρ _=>by subst ho;obtain⟨fs,fd,i,h1,h2,h3,h4,h5⟩:=jX c.out;simp only[execOp,hρ x _ hx,Instr.fieldAt,AC];rw[<-AC,Cc h1];simp only[h2,AC,Bn,Instr.sureAddr,fieldPlace];rw[<-AC,Fe h3];simp only[h4,C3,Bn,Gw,h5];exact⟨trivial,trivial⟩
theorem Mn(h:atV P t=some (n,e,k)): ∃i,P.underlying t=some (.array n e)/\P.info? e=some i/\i.size=k:=by
 unfold atV at h
 split at h
 ·rename_i hu;obtain⟨i,hi,h2⟩:=D9.1 h;cases h2;exact⟨i,hu,hi,rfl⟩
 ·cases h
theorem E7{y:Nat}(h:stV P t=some (e,k,y)): ∃i,P.underlying t=some (.slice e)/\P.info? e=some i/\i.size=k/\i.bytes=y:=by
 unfold stV at h
 split at h
 ·rename_i hu;obtain⟨i,hi,h2⟩:=D9.1 h;cases h2;exact⟨i,hu,hi,rfl,rfl⟩
 ·cases h
theorem SY{i:Int}(hx:ev fr x=some (.pointer (some ⟨b,off,none⟩)))(hy:ev fr y=some (.int ki i))[c:AT P t n e k](hi:0<=i/\i<(n:Int)):
 OpQ P ro N fr R ⟨d,.indexAddr t x y,ty,pos,aft,g⟩ (.pointer (some ⟨b,off+i.toNat*k,none⟩)):=BM rfl λρ l hρ _=>by
 obtain⟨Hp,h1,h2,h3⟩:=Mn c.out;simp only[execOp,hρ x _ hx,hρ y _ hy,Instr.indexAt,AC,asIntOf,Bn];rw[<-AC,Cc h1];simp only[AC,Bn,Instr.sureAddr];rw[<-AC,Cc h1];simp only[Ac hi,AC,Bn];rw[Hr h2];simp only[Gw,h3];exact⟨trivial,trivial⟩
theorem XO(hx:ev fr x=some (.pointer (some ⟨b,off,none⟩)))(hy:ev fr y=some (.int ki (m:Nat)))[c:AT P t n e k](hi:m<n)(ho:off+m*k=off'):
 OpQ P ro N fr R ⟨d,.indexAddr t x y,ty,pos,aft,g⟩ (.pointer (some ⟨b,off',none⟩)):=by
 subst ho;have:=SY (P:=P) (ro:=ro) (N:=N) (R:=R) (d:=d) (ty:=ty) (pos:=pos) (aft:=aft) (g:=g) (c:=c) hx hy ⟨Af,Af⟩;simpa using this
theorem Vd{i:Int}(hx:ev fr x=some (.slice (some ⟨b,off,none⟩) n cap))(hy:ev fr y=some (.int ki i))[c:ST P t e k yb](hi:0<=i/\i<(n:Int)):
 OpQ P ro N fr R ⟨d,.indexAddr t x y,ty,pos,aft,g⟩ (.pointer (some ⟨b,off+i.toNat*k,none⟩)):=BM rfl λρ l hρ _=>by
 obtain⟨Hp,h1,h2,h3,_⟩:=E7 c.out;simp only[execOp,hρ x _ hx,hρ y _ hy,Instr.indexAt,AC,asIntOf,Bn];rw[<-AC,Cc h1];simp only[AC,Bn];rw[<-AC,Cc h1];simp only[Ac hi,AC,Bn];rw[Hr h2];simp only[Gw,h3];exact⟨trivial,trivial⟩
theorem ZW(hx:ev fr x=some (.slice (some ⟨b,off,none⟩) n cap))(hy:ev fr y=some (.int ki (m:Nat)))[c:ST P t e k yb](hi:m<n)(ho:off+m*k=off'):
 OpQ P ro N fr R ⟨d,.indexAddr t x y,ty,pos,aft,g⟩ (.pointer (some ⟨b,off',none⟩)):=by
 subst ho;have:=Vd (P:=P) (ro:=ro) (N:=N) (R:=R) (d:=d) (ty:=ty) (pos:=pos) (aft:=aft) (g:=g) (c:=c) hx hy ⟨Af,Af⟩;simpa using this
def ZX:Ap->Nat->Option Value
 |[],_=>none
 |x::_,0=>some x
 |_::r,n+1=>ZX r n
theorem p9(l:Ap): ∀i,ZX l i=l[i]?:=by
 induction l with
 |nil=>intro i;cases i<;>rfl
 |cons x r ih=>intro i;cases i with
  |zero=>rfl
  |succ n=>simp only[ZX,C9];exact ih n
theorem XP{l:Ap}(h:ZX l i=some v):(toArray l)[i]?=some v:=by rw[AF,<-p9];exact h
inductive LGet:Ap->Nat->Value->Prop
 |zero {x:Value} {r:Ap}:LGet (x::r) 0 x
 |succ {x v:Value} {r:Ap} {n:Nat}:LGet r n v->LGet (x::r) (n+1) v
theorem LGet.spec{l:Ap}(h:LGet l i v):ZX l i=some v:=by
 induction h with
 |zero=>rfl
 |succ _ ih=>exact ih
theorem NX{l:Ap}(h:LGet l i v):(toArray l)[i]?=some v:=XP h.spec
inductive LSet:Ap->Nat->Value->Ap->Prop
 |zero {x v:Value} {r:Ap}:LSet (x::r) 0 v (v::r)
 |succ {x v:Value} {r r':Ap} {n:Nat}:LSet r n v r'->LSet (x::r) (n+1) v (x::r')
theorem LSet.spec{l l':Ap}(h:LSet l i v l'):l.set i v=l'/\i<l.length:=by
 induction h with
 |zero=>simp
 |succ _ ih=>simp[ih.1,ih.2]
inductive LSub:Ap->Nat->Nat->Ap->Prop
 |done {l:Ap}:LSub l 0 0 []
 |take {x:Value} {l r:Ap} {n:Nat}:LSub l 0 n r->LSub (x::l) 0 (n+1) (x::r)
 |drop {x:Value} {l r:Ap} {k n:Nat}:LSub l k n r->LSub (x::l) (k+1) n r
theorem LSub.spec{l:Ap}(h:LSub l k n r):(l.drop k).take n=r/\k+n<=l.length:=by
 induction h with
 |done=>simp
 |take _ ih=>simp only[List.drop_zero] at ih⊢;simp[ih.1];omega
 |drop _ ih=>simp only[List.drop_succ_cons,BC];exact⟨ih.1,Af⟩
inductive LSetA:Ap->Nat->Ap->Ap->Prop
 |done {l:Ap}:LSetA l 0 [] l
 |put {x v:Value} {l r vs:Ap}:LSetA l 0 vs r->LSetA (x::l) 0 (v::vs) (v::r)
 |skip {x:Value} {l r vs:Ap} {k:Nat}:LSetA l k vs r->LSetA (x::l) (k+1) vs (x::r)
theorem Mo(h:p7 P t=true): ∃u i,P.underlying t=some u/\NV u=false/\P.info? t=some i/\i.size=1:=by
 unfold p7 at h
 split at h
 ·cases h
 ·cases h
 ·rename_i u ZC jz hu;cases hi:P.info? t with
  |none=>rw[hi] at h;cases h
  |some i=>rw[hi] at h;refine⟨u,i,hu,?_,rfl,by simpa using h⟩;cases u<;>first|rfl|exact(ZC _ rfl).elim|exact(jz _ _ rfl).elim
 ·cases h
theorem XQ{Q:α->Ad->Prop}{f:Value->Sem α}(hc:p7 P t=true)(hm:(b,Obj.cells cs T fz)∈l)(hv:cs[off]?=some v)(h:sl P (f v) l Q):sl P (loadVar t ⟨b,off,none⟩>>=f) l Q:=by obtain⟨u,i,h1,h2,_,_⟩:=Mo hc;rw[AC];unfold loadVar;rw[NW h1,h2];exact⟨cs,T,fz,v,hm,rfl,hv,h⟩
theorem DP(hx:ev fr x=some (.pointer (some ⟨b,off,none⟩)))[c:OC P t](hm:(b,Obj.cells cs T fz)∈R)(hv:cs[off]?=some v):OpQ P ro N fr R ⟨d,.load t x,ty,pos,aft,g⟩ v:=BM rfl λρ l hρ hR=>by simp only[execOp,hρ x _ hx,Instr.loadAt,AC,Instr.sureAddr,Bn];have:=XQ (P:=P) (f:=λv=>(pure v:Sem Value)) (Q:=λa l'=>Next.value a= .value v/\l'=l) c.out (hR _ hm) hv ⟨rfl,rfl⟩;rw[AC] at this;exact this
theorem P1{α:Type}{Q:α->Ad->Prop}{f:Array Value->Sem α}{cs:Array Value}{T:TypeId}{fz:Nat×Nat}(hm:(b,Obj.cells cs T fz)∈l): ∀(n i:Nat) (acc:Array Value),off+i+n<=cs.size->sl P (f (acc++cs.extract (off+i) (off+i+n))) l Q->sl P (loadCellsFrom ⟨b,off,none⟩ i n acc>>=f) l Q
 |0,i,acc,_,h=>by
  have e:cs.extract (off+i) (off+i+0)=#[]:=by simp;omega
  rw[e,KG] at h;exact h
 |n+1,i,acc,Lr,h=>by
  unfold loadCellsFrom;rw[AC,AC];show sl P (load ((⟨b,off,none⟩:Addr).add i)) l _;rw[Gw];have Dc:off+i<cs.size:=by omega
  refine⟨cs,T,fz,cs[off+i],hm,rfl,CJ Dc,?_⟩;show sl P (loadCellsFrom ⟨b,off,none⟩ (i+1) n (acc.push cs[off+i])) l _;rw[<-AC];refine P1 hm n (i+1) _ Af ?_;have e:acc.push cs[off+i]++cs.extract (off+(i+1)) (off+(i+1)+n)=acc++cs.extract (off+i) (off+i+(n+1)):=by apply BU.1;simp only[Array.toList_append,Ln,Hh,Cp,Am,Ci];congr 1;rw[show off+i+(n+1)-(off+i)=n+1 by omega,show off+(i+1)+n-(off+(i+1))=n by omega];rw[Dh (i:=off+i) (by simpa using Dc),List.take_succ_cons];simp[JM]
  rw[e];exact h
theorem KR(h:vO P t=some n): ∃u i,P.underlying t=some u/\NV u=true/\P.info? t=some i/\i.size=n:=by
 unfold vO at h
 split at h
 ·rename_i hu;obtain⟨i,hi,h2⟩:=D9.1 h;exact⟨_,i,hu,rfl,hi,h2⟩
 ·rename_i hu;obtain⟨i,hi,h2⟩:=D9.1 h;exact⟨_,i,hu,rfl,hi,h2⟩
 ·cases h
theorem XR{Q:α->Ad->Prop}{f:Value->Sem α}(hc:vO P t=some n)(hm:(b,Obj.cells cs T fz)∈l)(Lr:off+n<=cs.size)(h:sl P (f (.agg (cs.extract off (off+n)))) l Q):sl P (loadVar t ⟨b,off,none⟩>>=f) l Q:=by obtain⟨u,i,h1,h2,h3,h4⟩:=KR hc;rw[AC];unfold loadVar;rw[NW h1,h2];simp only[C6];rw[Fe h3,h4];refine P1 hm n 0 #[] Af ?_;simp only[CP,KH];exact h
theorem Dt(hx:ev fr x=some (.pointer (some ⟨b,off,none⟩)))[c:AG P t n](hm:(b,Obj.cells cs T fz)∈R){wc:Array Value}(Lr:off+n<=cs.size)(hv:cs.extract off (off+n)=wc):OpQ P ro N fr R ⟨d,.load t x,ty,pos,aft,g⟩ (.agg wc):=BM rfl λρ l hρ hR=>by subst hv;simp only[execOp,hρ x _ hx,Instr.loadAt,AC,Instr.sureAddr,Bn];have:=XR (P:=P) (f:=λv=>(pure v:Sem Value)) (Q:=λa l'=>Next.value a= .value (.agg (cs.extract off (off+n)))/\l'=l) c.out (hR _ hm) Lr ⟨rfl,rfl⟩;rw[AC] at this;exact this
theorem Jb{cs:Ap}(hx:ev fr x=some (.pointer (some ⟨b,off,none⟩)))[c:AG P t n](hm:(b,Obj.cells (toArray cs) T fz)∈R){wc:Ap}(hv:LSub cs off n wc):OpQ P ro N fr R ⟨d,.load t x,ty,pos,aft,g⟩ (.agg (toArray wc)):=
 Dt hx hm (by simpa using hv.spec.2) (by apply BU.1;rw[Hh,Cp];simpa using hv.spec.1)
end
section
variable{fr:Fr}{d:Option Nat}{aft:Array Edge}{w:Value}{off:Nat}{t t2:TypeId}
def qb(k:IntKind):Int:=if k.signed then-(2^(k.bits-1):Int) else 0
def qc(k:IntKind):Int:=if k.signed then(2^(k.bits-1):Int)-1 else(2^k.bits:Int)-1
theorem cU(k:IntKind)(n:Int)(h1:qb k<=n)(h2:n<=qc k):k.wrap n=n:=by unfold IntKind.wrap qb qc at*;cases k<;>simp[IntKind.signed,IntKind.bits] at* <;>(try split)<;>omega
theorem vQ(n:Int)(h: -9223372036854775808<=n/\n<=9223372036854775807):IntKind.i64.wrap n=n:=cU _ _ (by simpa[qb,IntKind.signed,IntKind.bits] using h.1) (by simpa[qc,IntKind.signed,IntKind.bits] using h.2)
def jY(k:IntKind)(n:Int):Prop:=match k with
 | .i64=> -9223372036854775808<=n/\n<=9223372036854775807
 | .u64=>0<=n/\n<=18446744073709551615
 | .u8=>0<=n/\n<=255
 | .i32=> -2147483648<=n/\n<=2147483647
 | .u32=>0<=n/\n<=4294967295
 |_=>False
theorem Mp{k:IntKind}{n:Int}(h:jY k n):k.wrap n=n:=by cases k<;>simp only[jY] at h<;>first|exact h.elim|exact cU _ _ (by simpa[qb,IntKind.signed,IntKind.bits] using h.1) (by simpa[qc,IntKind.signed,IntKind.bits] using h.2)
theorem Sd{n:Int}(h1: -9223372036854775808<=n)(h2:n<=9223372036854775807):jY .i64 n:=⟨h1,h2⟩
theorem P2{n:Int}(h1:0<=n)(h2:n<18446744073709551616):jY .u64 n:=⟨h1,Af⟩
theorem Db(op:BinOp)(k k':IntKind)(i j:Int):eqGuard op t x y (.int k i) (.int k' j)=pure ():=by unfold eqGuard;split<;>rfl
theorem P3(op:BinOp)(i j:Bool):eqGuard op t x y (.bool i) (.bool j)=pure ():=by unfold eqGuard;split<;>rfl
theorem JZ(op:BinOp)(i j:Option Addr):eqGuard op t x y (.pointer i) (.pointer j)=pure ():=by unfold eqGuard;split<;>rfl
theorem ZY(op:BinOp)(i j:Option Addr)(a b c e:Nat):eqGuard op t x y (.slice i a b) (.slice j c e)=pure ():=by unfold eqGuard;split<;>rfl
theorem IK{op:BinOp}(hx:ev fr x=some u)(hy:ev fr y=some w)(hg: ∀x y,eqGuard op t x y u w=pure ())(h:binOp op t u w=pure v):OpQ P ro N fr R ⟨d,.binOp op t x y t2,ty,pos,aft,g⟩ v:=BM rfl λρ l hρ _=>by simp only[execOp,hρ x _ hx,hρ y _ hy,AC,hg,h];exact⟨rfl,rfl⟩
variable{k:IntKind}{i j:Int}
theorem zQ(hx:ev fr x=some (.int k i))(hy:ev fr y=some (.int k j))(h:jY k (i+j)):OpQ P ro N fr R ⟨d,.binOp .add t x y t2,ty,pos,aft,g⟩ (.int k (i+j)):=
 IK hx hy (λ_ _=>Db _ _ _ _ _) (by simp[binOp,Op.intArith,Mp h])
theorem tH(hx:ev fr x=some (.int k i))(hy:ev fr y=some (.int k j))(h:jY k (i-j)):OpQ P ro N fr R ⟨d,.binOp .sub t x y t2,ty,pos,aft,g⟩ (.int k (i-j)):=
 IK hx hy (λ_ _=>Db _ _ _ _ _) (by simp[binOp,Op.intArith,Mp h])
theorem zR(hx:ev fr x=some (.int k i))(hy:ev fr y=some (.int k j))(h:jY k (i*j)):OpQ P ro N fr R ⟨d,.binOp .mul t x y t2,ty,pos,aft,g⟩ (.int k (i*j)):=
 IK hx hy (λ_ _=>Db _ _ _ _ _) (by simp[binOp,Op.intArith,Mp h])
theorem qd(hx:ev fr x=some (.int k i))(hy:ev fr y=some (.int k j)):OpQ P ro N fr R ⟨d,.binOp .add t x y t2,ty,pos,aft,g⟩ (.int k (k.wrap (i+j))):=
 IK hx hy (λ_ _=>Db _ _ _ _ _) (by simp[binOp,Op.intArith])
theorem qe(hx:ev fr x=some (.int k i))(hy:ev fr y=some (.int k j)):OpQ P ro N fr R ⟨d,.binOp .mul t x y t2,ty,pos,aft,g⟩ (.int k (k.wrap (i*j))):=
 IK hx hy (λ_ _=>Db _ _ _ _ _) (by simp[binOp,Op.intArith])
theorem zS(hx:ev fr x=some (.int k i))(hy:ev fr y=some (.int k j))(h0:0<=i)(h1:0<j)(h:jY k i):OpQ P ro N fr R ⟨d,.binOp .quo t x y t2,ty,pos,aft,g⟩ (.int k (i/j)):=
 IK hx hy (λ_ _=>Db _ _ _ _ _) (by
  have e:i.tdiv j=i/j:=Int.tdiv_eq_ediv_of_nonneg h0;have h2:i/j<=i:=Int.ediv_le_self _ h0;have h3:0<=i/j:=Int.ediv_nonneg h0 Af;have hr:jY k (i/j):=by cases k<;>simp only[jY] at h⊢ <;>first|exact h|omega
  simp[binOp,Op.intDiv,show ¬j=0 by omega,e,Mp hr])
theorem zT(hx:ev fr x=some (.int k i))(hy:ev fr y=some (.int k j))(h0:0<=i)(h1:0<j):OpQ P ro N fr R ⟨d,.binOp .rem t x y t2,ty,pos,aft,g⟩ (.int k (i%j)):=
 IK hx hy (λ_ _=>Db _ _ _ _ _) (by have e:i.tmod j=i%j:=Int.tmod_eq_emod_of_nonneg h0;simp[binOp,Op.intDiv,show ¬j=0 by omega,e])
theorem zU(hx:ev fr x=some (.int k i))(hy:ev fr y=some (.int k j)):OpQ P ro N fr R ⟨d,.binOp .lss t x y t2,ty,pos,aft,g⟩ (.bool (decide (i<j))):=
 IK hx hy (λ_ _=>Db _ _ _ _ _) (by simp[binOp,Op.intCmp])
theorem zV(hx:ev fr x=some (.int k i))(hy:ev fr y=some (.int k j)):OpQ P ro N fr R ⟨d,.binOp .leq t x y t2,ty,pos,aft,g⟩ (.bool (decide (i<=j))):=
 IK hx hy (λ_ _=>Db _ _ _ _ _) (by simp[binOp,Op.intCmp])
theorem zW(hx:ev fr x=some (.int k i))(hy:ev fr y=some (.int k j)):OpQ P ro N fr R ⟨d,.binOp .gtr t x y t2,ty,pos,aft,g⟩ (.bool (decide (j<i))):=
 IK hx hy (λ_ _=>Db _ _ _ _ _) (by simp[binOp,Op.intCmp])
theorem zX(hx:ev fr x=some (.int k i))(hy:ev fr y=some (.int k j)):OpQ P ro N fr R ⟨d,.binOp .geq t x y t2,ty,pos,aft,g⟩ (.bool (decide (j<=i))):=
 IK hx hy (λ_ _=>Db _ _ _ _ _) (by simp[binOp,Op.intCmp])
theorem zY(hx:ev fr x=some (.int k i))(hy:ev fr y=some (.int k j)):OpQ P ro N fr R ⟨d,.binOp .eql t x y t2,ty,pos,aft,g⟩ (.bool (decide (i=j))):=
 IK hx hy (λ_ _=>Db _ _ _ _ _) (by simp[binOp,Op.intCmp];rfl)
theorem zZ(hx:ev fr x=some (.int k i))(hy:ev fr y=some (.int k j)):OpQ P ro N fr R ⟨d,.binOp .neq t x y t2,ty,pos,aft,g⟩ (.bool (decide (¬i=j))):=
 IK hx hy (λ_ _=>Db _ _ _ _ _) (by simp[binOp,Op.intCmp,bne];rfl)
theorem Aaa{bb:Bool}(hx:ev fr x=some (.bool bb)):OpQ P ro N fr R ⟨d,.unOp .not t x,ty,pos,aft,g⟩ (.bool (!bb)):=BM rfl λρ l hρ _=>by simp only[execOp,hρ x _ hx,Op.unary,AC];exact⟨rfl,rfl⟩
theorem vR(hx:ev fr x=some (.int k i))[c1:IT P src k][c2:IT P dst k'](h:jY k' i):OpQ P ro N fr R ⟨d,.convert src dst x,ty,pos,aft,g⟩ (.int k' i):=BM rfl λρ l hρ _=>by
 have h1:P.underlying src=some (.int k):=by have:=c1.out;unfold p8 at this;split at this<;>simp_all
 have h2:P.underlying dst=some (.int k'):=by have:=c2.out;unfold p8 at this;split at this<;>simp_all
 simp only[execOp,hρ x _ hx,convert,AC];rw[E0 h1,E0 h2];exact⟨by rw[Mp h],rfl⟩
theorem P4(hx:ev fr x=some (.int k i))[c1:IT P src k][c2:IT P dst k']:OpQ P ro N fr R ⟨d,.convert src dst x,ty,pos,aft,g⟩ (.int k' (k'.wrap i)):=BM rfl λρ l hρ _=>by
 have h1:P.underlying src=some (.int k):=by have:=c1.out;unfold p8 at this;split at this<;>simp_all
 have h2:P.underlying dst=some (.int k'):=by have:=c2.out;unfold p8 at this;split at this<;>simp_all
 simp only[execOp,hρ x _ hx,convert,AC];rw[E0 h1,E0 h2];exact⟨rfl,rfl⟩
theorem NY{t:Nat}(h:ptV P t=some e):P.underlying t=some (.pointer e):=by unfold ptV at h;split at h<;>simp_all
theorem qf(hx:ev fr x=some (.pointer p))(hy:ev fr y=some (.pointer none))[c:PT P t e]:OpQ P ro N fr R ⟨d,.binOp .eql t x y t2,ty,pos,aft,g⟩ (.bool p.isNone):=BM rfl λρ l hρ _=>by simp only[execOp,hρ x _ hx,hρ y _ hy,AC,JZ,Bn,binOp];unfold Op.equal Op.maxDepth Op.equalIn;rw[Cc (NY c.out)];cases p<;>exact⟨rfl,rfl⟩
theorem qh(hx:ev fr x=some (.pointer p))(hy:ev fr y=some (.pointer none))[c:PT P t e]:OpQ P ro N fr R ⟨d,.binOp .neq t x y t2,ty,pos,aft,g⟩ (.bool p.isSome):=BM rfl λρ l hρ _=>by simp only[execOp,hρ x _ hx,hρ y _ hy,AC,JZ,Bn,binOp];unfold Op.equal Op.maxDepth Op.equalIn;rw[Cc (NY c.out)];cases p<;>exact⟨rfl,rfl⟩
theorem Aab{p:Bool}(hx:ev fr x=some (.bool p))(hy:ev fr y=some (.bool q))(ht:P.underlying t=some .bool):OpQ P ro N fr R ⟨d,.binOp .eql t x y t2,ty,pos,aft,g⟩ (.bool (p==q)):=BM rfl λρ l hρ _=>by simp only[execOp,hρ x _ hx,hρ y _ hy,AC,P3,Bn,binOp];unfold Op.equal Op.maxDepth Op.equalIn;rw[Cc ht];exact⟨rfl,rfl⟩
theorem Aac{p:Bool}(hx:ev fr x=some (.bool p))(hy:ev fr y=some (.bool q))(ht:P.underlying t=some .bool):OpQ P ro N fr R ⟨d,.binOp .neq t x y t2,ty,pos,aft,g⟩ (.bool (!(p==q))):=BM rfl λρ l hρ _=>by simp only[execOp,hρ x _ hx,hρ y _ hy,AC,P3,Bn,binOp];unfold Op.equal Op.maxDepth Op.equalIn;rw[Cc ht];exact⟨rfl,rfl⟩
theorem fV{vs:Array Value}{ix:Nat}(hx:ev fr x=some (.tuple vs))(hv:vs[ix]?=some v):OpQ P ro N fr R ⟨d,.extract x ix,ty,pos,aft,g⟩ v:=BM rfl λρ l hρ _=>by simp only[execOp,hρ x _ hx,AC,Instr.extract,hv];exact⟨rfl,rfl⟩
theorem ZZ(hx:RS fr xs=some vs):OpQ P ro N fr R ⟨d,.makeFunc (.func f) #[] xs.toArray,ty,pos,aft,g⟩ (.func (.func f) #[] vs.toArray):=BM rfl λρ l hρ _=>by simp only[execOp,AC,Instr.makeFunc,Dj,hρ.list hx];exact⟨rfl,rfl⟩
theorem SZ{k t:Nat}(h:fvV P s f=some (k,t)): ∃fs fd,P.underlying s=some (.struct fs)/\fs[f]?=some fd/\fd.offset=k/\fd.type=t:=by
 unfold fvV at h
 split at h
 ·rename_i fs hu;obtain⟨fd,hf,h2⟩:=D9.1 h;cases h2;exact⟨fs,fd,hu,hf,rfl,rfl⟩
 ·cases h
theorem XS{Q:α->Ad->Prop}{f:Value->Sem α}{t:Nat}(hc:p7 P t=true)(hv:cs[off]?=some v)(h:sl P (f v) l Q):sl P (part t cs off>>=f) l Q:=by obtain⟨u,i,h1,h2,_,_⟩:=Mo hc;rw[AC];unfold part;rw[NW h1,h2];simp only[Bl,C3,hv];exact h
theorem qi{k ft:Nat}(hx:ev fr x=some (.agg cs))[c:FV P s f k ft][c2:OC P ft](hv:cs[k]?=some v):OpQ P ro N fr R ⟨d,.field s x f,ty,pos,aft,g⟩ v:=BM rfl λρ l hρ _=>by obtain⟨fs,fd,h1,h2,h3,h4⟩:=SZ c.out;simp only[execOp,hρ x _ hx,AC,Instr.field];rw[<-AC,Cc h1];simp only[h2,asAgg,AC,Bn,h3,h4];have:=XS (P:=P) (l:=l) (f:=λv=>(pure v:Sem Value)) (Q:=λa l'=>Next.value a= .value v/\l'=l) c2.out hv ⟨rfl,rfl⟩;rw[AC] at this;exact this
theorem jZ{kk:Nat}(hx:ev fr x=some (.slice p n cap))[c:ST P t e kk yb]:OpQ P ro N fr R ⟨d,.call {callee:= .builtin .len,args:=#[x],argTypes:=#[t]},ty,pos,aft,g⟩ (.int .i64 (n:Nat)):=BM rfl λρ l hρ _=>by obtain⟨Hp,h1,_⟩:=E7 c.out;simp only[execOp,resolve,AC,Bn,invoke,builtin,Dj,AJ,CQ,hρ x _ hx,Builtin.len_];show sl P (underlying t>>=_) l _;rw[Cc h1];exact⟨rfl,rfl⟩
theorem Dn{fs:Array Value}{at_:Array TypeId}(hx:ev fr x=some (.func (.func f) fs cs))(hy:RS fr xs=some vs)[c:EN P f](h:Fn P f (fs.toList++vs++cs.toList) l K):OpE P ro N fr l ⟨d,.call {callee:= .value x,args:=xs.toArray,argTypes:=at_},ty,pos,aft,g⟩ K:=by
 refine⟨rfl,λE a W hf hs=>?_⟩;have hρ:=hf.agrees;unfold OpVal;have e:(execOp a.eval ⟨d,.call {callee:= .value x,args:=xs.toArray,argTypes:=at_},ty,pos,aft,g⟩).run P W= .ok (.enter f (fs.toList++vs++cs.toList).toArray) W:=by simp only[execOp,resolve,Dj,hρ.list hy,hρ x _ hx,Deferred.ofValue,Sem.run_bind];simp only[Sem.run_pure,Result.andThen,invoke];rw[c.out];congr 2;apply BU.1;simp
 rw[e];refine ML ((h.run E W hs).mono ?_);rintro e W'' ⟨v,sZ,rfl,hk,hs''⟩;exact⟨v,rfl,sZ,hk,hs''⟩
theorem AA{at_:Array TypeId}(hx:ev fr x=some (.func (.func f) #[] #[]))(hy:RS fr xs=some vs)[c:EN P f](h:Fn P f vs l K):OpE P ro N fr l ⟨d,.call {callee:= .value x,args:=xs.toArray,argTypes:=at_},ty,pos,aft,g⟩ K:=
 Dn hx hy (by simpa using h)
theorem AL{at_:Array TypeId}(hx:ev fr x=some (.func (.func f) #[] #[]))(hy:RS fr xs=some vs)[c:EN P f](h: ∀l,(∀c,c∈R->c∈l)->Fn P f vs l (λv' l'=>v'=v/\l'=l)):OpQ P ro N fr R ⟨d,.call {callee:= .value x,args:=xs.toArray,argTypes:=at_},ty,pos,aft,g⟩ v:=
 ⟨λl hl=>AA hx hy (h l hl)⟩
theorem C0{r:Nat}{at_:Array TypeId}(hx:ev fr x=some (.func (.yield r) #[] #[]))(hy:RS fr xs=some vs)(h:NT P r vs l K):OpE P ro N fr l ⟨d,.call {callee:= .value x,args:=xs.toArray,argTypes:=at_},ty,pos,aft,g⟩ K:=by
 refine⟨rfl,λE a W hf hs=>?_⟩;have hρ:=hf.agrees;unfold OpVal;obtain⟨fn,tmps,assign,body,SM,hR⟩:=h.run E W hs;have e:(execOp a.eval ⟨d,.call {callee:= .value x,args:=xs.toArray,argTypes:=at_},ty,pos,aft,g⟩).run P W= .ok (.round r fn tmps assign body) W:=by simp only[execOp,resolve,Dj,hρ.list hy,hρ x _ hx,Deferred.ofValue,Sem.run_bind];simp only[Sem.run_pure,Result.andThen,invoke];rw[<-SM];congr 1;simp
 rw[e];refine ZT (hR.mono ?_);rintro e W'' ⟨v,sZ,rfl,hk,hs''⟩;exact⟨v,rfl,sZ,hk,hs''⟩
theorem J0{t:Nat}{z:Ap}(h:vM P t=some z): ∃i zv,P.info? t=some i/\i.zero=some zv/\zv.cells.toList=z:=by
 unfold vM at h
 split at h
 ·rename_i i hi
  split at h
  ·rename_i zv hz;cases h;exact⟨i,zv,hi,hz,rfl⟩
  ·cases h
 ·cases h
theorem e_alloc{zs:Ap}[c:ZV P t zs]:OpE P ro N fr l ⟨d,.alloc t,ty,pos,aft,g⟩ (λv l'=> ∃b,(∀c,c∈l->c.1≠b)/\v= .pointer (some ⟨b,0,none⟩)/\l'=(b,.cells zs.toArray t (0,0))::l):=DM rfl λρ hρ=>by obtain⟨i,zv,h1,h2,h3⟩:=J0 c.out;simp only[execOp,AC,Instr.alloc,zeroValue];rw[<-AC,JN h1,h2];simp only[Bn,newVar,newRow,AC];intro b hb;exact⟨b,hb,rfl,by rw[<-h3]⟩
theorem tI(hx:ev fr x=some v):OpE P ro N fr l ⟨d,.box e x,ty,pos,aft,g⟩ (λv' l'=> ∃b,(∀c,c∈l->c.1≠b)/\v'= .pointer (some ⟨b,0,none⟩)/\l'=(b,.cells v.cells e (0,0))::l):=DM rfl λρ hρ=>by simp only[execOp,AC,Instr.box,hρ x _ hx,newVar,newRow];intro b hb;exact⟨b,hb,rfl,rfl⟩
theorem OK(h:v.oneCell'=true):v.cells=#[v]:=by cases v<;>first|rfl|(simp[Value.oneCell'] at h)
theorem Wo{Q:α->Ad->Prop}{f:Unit->Sem α}(hc:p7 P t=true)(h1:v.oneCell'=true)(Dc:off<cs.size)(hu:Upd l b (.cells cs T (0,0)) (.cells (cs.setIfInBounds off v) T (0,0)) l')(h:sl P (f ()) l' Q):sl P (storeVar t ⟨b,off,none⟩ v>>=f) l Q:=by obtain⟨u,i,_,_,h3,h4⟩:=Mo hc;rw[AC];unfold storeVar;rw[Fe h3,OK h1,h4];exact⟨h1,cs,T,(0,0),l',hu,rfl,Dc,by simp[Addr.add],h⟩
theorem Du(hx:ev fr x=some (.pointer (some ⟨b,off,none⟩)))(hy:ev fr y=some v)[c:OC P t](h1:v.oneCell'=true)(hu:Upd l b (.cells cs T (0,0)) (.cells (cs.setIfInBounds off v) T (0,0)) l')(Dc:off<cs.size):OpE P ro N fr l ⟨d,.store t x y,ty,pos,aft,g⟩ (λv' l2=>v'=undef/\l2=l'):=DM rfl λρ hρ=>by simp only[execOp,hρ x _ hx,hρ y _ hy,Instr.storeAt,AC,Instr.sureAddr,Bn];have:=Wo (P:=P) (f:=λv=>(pure v:Sem Unit)) (Q:=λa l2=>XM P (λv' l2=>v'=undef/\l2=l') Next.skip l2) c.out h1 Dc hu ⟨rfl,rfl⟩;rw[AC] at this;exact this
theorem Ex(hx:ev fr x=some v)(h1:v.oneCell'=true):OpE P ro N fr l ⟨d,.box e x,ty,pos,aft,g⟩ (λv' l'=> ∃b,(∀c,c∈l->c.1≠b)/\v'= .pointer (some ⟨b,0,none⟩)/\l'=(b,.cells (toArray [v]) e (0,0))::l):=
 (tI hx).mono λv' l' ⟨b,h0,h1',h2⟩=>⟨b,h0,h1',by rw[h2,OK h1]⟩
theorem C4(hx:ev fr x=some (.agg ws)):OpE P ro N fr l ⟨d,.box e x,ty,pos,aft,g⟩ (λv' l'=> ∃b,(∀c,c∈l->c.1≠b)/\v'= .pointer (some ⟨b,0,none⟩)/\l'=(b,.cells ws e (0,0))::l):=tI hx
theorem Gx{cs:Ap}(hx:ev fr x=some (.pointer (some ⟨b,off,none⟩)))(hy:ev fr y=some v)[c:OC P t](h1:v.oneCell'=true)(hm:(b,Obj.cells (toArray cs) T (0,0))∈l)(hs:LSet cs off v cs')(hu:Upd l b (.cells (toArray cs) T (0,0)) (.cells (toArray cs') T (0,0)) l'):OpE P ro N fr l ⟨d,.store t x y,ty,pos,aft,g⟩ (λv' l2=>v'=undef/\l2=l'):=by refine Du hx hy h1 (cs:=toArray cs) (T:=T) ?_ (by simpa using hs.spec.2);rw[Bw,hs.spec.1];exact hu
def C8(cs:Array Value)(off:Nat):Ap->Array Value
 |[]=>cs
 |v::r=>C8 (cs.setIfInBounds off v) (off+1) r
theorem Upd.mid{sZ:Ad}{o'':Obj}(o':Obj)(h:Upd l b o o'' sZ): ∃l',Upd l b o o' l'/\Upd l' b o' o'' sZ:=by
 induction h with
 |here=>exact⟨_,.here,.here⟩
 |there _ ih=>obtain⟨l',h1,h2⟩:=ih;exact⟨_,.there h1,.there h2⟩
theorem Upd.same'{o':Obj}(h:Upd l b o o' l')(e:o=o'):l'=l:=by
 induction h with
 |here=>rw[e]
 |there _ ih=>rw[ih e]
theorem Upd.same(h:Upd l b o o l'):l'=l:=h.same' rfl
theorem LU{α:Type}{Q:α->Ad->Prop}{f:Unit->Sem α}{T:TypeId}: ∀(vs:Ap) (i:Nat) (cs:Array Value) (l l':Ad),(∀v,v∈vs->v.oneCell'=true)->off+i+vs.length<=cs.size->Upd l b (.cells cs T (0,0)) (.cells (C8 cs (off+i) vs) T (0,0)) l'->sl P (f ()) l' Q->sl P (storeCells ⟨b,off,none⟩ vs i>>=f) l Q
 |[],i,cs,l,l',_,_,hu,h=>by have:=hu.same;subst this;exact h
 |v::r,i,cs,l,l',hv,Lr,hu,h=>by unfold storeCells;rw[AC,AC];show sl P (store ((⟨b,off,none⟩:Addr).add i) v) l _;rw[Gw];obtain⟨l1,h1,h2⟩:=hu.mid (.cells (cs.setIfInBounds (off+i) v) T (0,0));simp only[BC] at Lr;refine⟨hv v Ak,cs,T,(0,0),l1,h1,rfl,by simp only;omega,by simp,?_⟩;show sl P (storeCells ⟨b,off,none⟩ r (i+1)) l1 _;rw[<-AC];exact LU r (i+1) _ l1 l' (λu hu=>hv u (An _ hu)) (by simp;omega) h2 h
theorem LSetA.spec{l:Ap}{k:Nat}(h:LSetA l k vs r):C8 (toArray l) k vs=toArray r/\k+vs.length<=l.length:=by
 have key: ∀(vs:Ap) (pre l:Ap) (k:Nat),C8 (toArray (pre++l)) (pre.length+k) vs=toArray (pre++(C8 (toArray l) k vs).toList):=by
  intro vs
  induction vs with
  |nil=>intro pre l k;simp[C8]
  |cons v vs ih=>intro pre l k;simp only[C8,Bw];rw[Cs _ _ Af,show pre.length+k-pre.length=k by omega,show pre.length+k+1=pre.length+(k+1) by omega];exact ih pre _ _
 induction h with
 |done=>exact⟨rfl,Bm _⟩
 |put h ih=>rename_i x v l r vs;refine⟨?_,by have:=ih.2;simp only[BC];omega⟩;simp only[C8,Bw,Fv];have:=key vs [v] l 0;simp only[Bs,Ci,BE,CP] at this⊢;rw[this,ih.1]
 |skip h ih=>rename_i x l r vs k;refine⟨?_,by have:=ih.2;simp only[BC];omega⟩;have:=key vs [x] l k;simp only[Bs,Ci] at this;rw[Kr k 1,this,ih.1]
theorem El(hx:ev fr x=some (.pointer (some ⟨b,off,none⟩)))(hy:ev fr y=some (.agg ws))[c:AG P t n](hn:ws.size=n)(h1: ∀v,v∈ws.toList->v.oneCell'=true)(hu:Upd l b (.cells cs T (0,0)) (.cells (C8 cs off ws.toList) T (0,0)) l')(Dc:off+n<=cs.size):OpE P ro N fr l ⟨d,.store t x y,ty,pos,aft,g⟩ (λv' l2=>v'=undef/\l2=l'):=DM rfl λρ hρ=>by obtain⟨u,i,_,_,h3,h4⟩:=KR c.out;simp only[execOp,hρ x _ hx,hρ y _ hy,Instr.storeAt,AC,Instr.sureAddr,Bn];unfold storeVar;rw[Fe h3,h4];have e:(Value.agg ws).cells=ws:=rfl;rw[e,hn];simp only[ne_eq,not_true,C3];have:=LU (P:=P) (f:=λv=>(pure v:Sem Unit)) (Q:=λa l2=>XM P (λv' l2=>v'=undef/\l2=l') Next.skip l2) ws.toList 0 cs l l' h1 (by simp;omega) hu ⟨rfl,rfl⟩;rw[AC] at this;exact this
theorem Ve{cs ws:Ap}(hx:ev fr x=some (.pointer (some ⟨b,off,none⟩)))(hy:ev fr y=some (.agg (toArray ws)))[c:AG P t n](hn:ws.length=n)(h1: ∀v,v∈ws->v.oneCell'=true)(hm:(b,Obj.cells (toArray cs) T (0,0))∈l)(hs:LSetA cs off ws cs')(hu:Upd l b (.cells (toArray cs) T (0,0)) (.cells (toArray cs') T (0,0)) l'):OpE P ro N fr l ⟨d,.store t x y,ty,pos,aft,g⟩ (λv' l2=>v'=undef/\l2=l'):=by refine El hx hy (cs:=toArray cs) (T:=T) (by simpa using hn) (by simpa using h1) ?_ (by have:=hs.spec.2;simp;omega);have e:=hs.spec.1;simp only at e⊢;rw[e];exact hu
end
end Go.Proofs.YtlifcingifodfaaGreat
