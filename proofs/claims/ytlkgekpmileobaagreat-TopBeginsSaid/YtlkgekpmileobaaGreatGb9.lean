/- Laws that the statement's proof leans on (joined out of several texts). -/
import Derived.Test.YtlkgekpmileobaaGreatGb8
import Derived.LaidEqlPtr
import Derived.Test.YtlkgekpmileobaaGreatGb7
import Derived.Test.YtlkgekpmileobaaGreatGb6
import Derived.Test.YtlkgekpmileobaaGreatGb1
set_option linter.unusedVariables false
set_option linter.unusedSimpArgs false
set_option linter.unusedSectionVars false
namespace Go.Proofs.YtlkgekpmileobaaGreat
open List(toArray)
open Go.RowKit
variable{l R l':List Ab}{fr:Fr}{P:Program}{ro:Option Nat}{N e clock b n m a:Nat}{ty t ta tb t2 T kt et tp te:TypeId}{pos:String}{g:Option (Nat×Bool)}{x y z:Operand}{p q:Addr}{ca cb:Array Value}{v u w:Value}{κ:Type}{j:TypeInfo}{W E:World}{ops:Array Oper}{Q:Exit->Act->World->Prop}{tbl:List (List Nat)}{sp:Fd}{ds:List Deferred}{o:Oper}{K:Value->List Ab->Prop}{zs:List Value}
def RowSl{α:Type}(l:List Ab)(v:Value)(k:Nat)(enc:α->List Value)(xs:List α):Prop:=
 ∃a cap,v= .slice a xs.length cap/\(0<xs.length-> ∃b off cs t fz,a=some ⟨b,off,none⟩/\(b,Obj.cells cs t fz)∈l/\ ∀i x,xs[i]?=some x->off+i*k+k<=cs.size/\cs.extract (off+i*k) (off+i*k+k)=toArray (enc x))
theorem JN{α:Type}{enc:α->List Value}{k:Nat}(hk: ∀x,(enc x).length=k)(sp:List Value): ∀(xs:List α) (i:Nat) (x:α),xs[i]?=some x->((xs.flatMap enc++sp).drop (i*k)).take k=enc x/\i*k+k<=(xs.flatMap enc++sp).length
 |[],i,x,h=>by simp at h
 |y::xs,0,x,h=>by cases h;rw[Cm,FY,List.drop_zero,Al,F8 (hk y)];refine⟨rfl,?_⟩;rw[Ah,hk];omega
 |y::xs,i+1,x,h=>by obtain⟨h1,h2⟩:=JN hk sp xs i x (by simpa using h);rw[Cm,Al,Fq];refine⟨?_,by rw[Ah,hk];omega⟩;rw[IC,Dj (by rw[hk];omega),hk,Ag,show i*k+k-k=i*k by omega];exact h1
theorem OwnSl.rowSl{α:Type}{k:Nat}{enc:α->List Value}{xs:List α}{cs:List Ab}(h:OwnSl e k v xs.length (xs.flatMap enc) cs)(hk: ∀x,(enc x).length=k)(hs: ∀c,c∈cs->c∈l):RowSl l v k enc xs:=by
 rcases h.2 with⟨rfl,h0,rfl⟩|⟨b,cap,sp,rfl,rfl,_⟩
 ·exact⟨none,0,by rw[h0],λh=>by omega⟩
 ·refine⟨_,cap,rfl,λh0=>⟨b,0,_,e,(0,0),rfl,hs _ Ak,λi x hx=>?_⟩⟩;obtain⟨h1,h2⟩:=JN hk sp xs i x hx;refine⟨by rw[Bw];simpa using h2,?_⟩;rw[Bw,Fs,Cx,CP,h1]
section
variable{d:Option Nat}{aft:Array Edge}
end
theorem FW: ∀{ks:List (Option IntKind)} {a b:List Value},AllK ks a->AllK ks b->(BQ a b=true<->a=b)
 |[],a,b,h,h'=>by cases h;cases h';simp[BQ]
 |none::ks,a,b,h,h'=>by obtain⟨_,r,rfl,⟨p,rfl⟩,h2⟩:=h;obtain⟨_,r',rfl,⟨p',rfl⟩,h2'⟩:=h';simp[BQ,Mx,FW h2 h2']
 |some k::ks,a,b,h,h'=>by obtain⟨_,r,rfl,⟨p,rfl⟩,h2⟩:=h;obtain⟨_,r',rfl,⟨p',rfl⟩,h2'⟩:=h';simp[BQ,Mx,FW h2 h2']
abbrev Gv(κ:Type):=κ×Value×Nat
def MA{κ:Type}(enc:κ->List Value)(x:Gv κ):MapEntry:={key:= .agg (toArray (enc x.1)),val:=x.2.1,born:=x.2.2}
abbrev He{κ:Type}(enc:κ->List Value)(es:List (Gv κ))(clock:Nat):Obj:= .map (toArray (es.map (MA enc))) clock
theorem GJ{α:Type}(f:α->α)(e:α)(B:List α): ∀(A:List α),(A++e::B).modify A.length f=A++f e::B
 |[]=>rfl
 |x::A=>by rw[Ad,Bi,List.modify_succ_cons,GJ f e B A];rfl
section
variable[DecidableEq κ]
def Ep(a:κ):List (Gv κ)->Nat->Option (Nat×Value)
 |[],_=>none
 |e::es,i=>if a=e.1 then some (i,e.2.1) else Ep a es (i+1)
def GZ(a:κ)(es:List (Gv κ)):Option Value:=(Ep a es 0).map Prod.snd
def J6(a:κ)(v:Value)(clock:Nat)(es:List (Gv κ)):List (Gv κ)×Nat:=match Ep a es 0 with
 |some (i,_)=>(es.modify i λx=>(x.1,v,x.2.2),clock)
 |none=>(es++[(a,v,clock)],clock+1)
def NC(a:κ)(es:List (Gv κ)):List (Gv κ):=match Ep a es 0 with
 |some (i,_)=>es.eraseIdx i
 |none=>es
theorem K7(a:κ): ∀(es:List (Gv κ)) (i:Nat),Ep a es i=(Ep a es 0).map λp=>(p.1+i,p.2)
 |[],i=>rfl
 |e::es,i=>by
  unfold Ep
  split
  ·simp
  ·rw[K7 a es (i+1),K7 a es (0+1)];cases Ep a es 0 with
   |none=>rfl
   |some p=>simp;omega
theorem JA(a:κ)(e:Gv κ)(es:List (Gv κ)):GZ a (e::es)=if a=e.1 then some e.2.1 else GZ a es:=by
 unfold GZ;rw[Ep]
 split
 ·rfl
 ·rw[K7,Option.map_map];cases Ep a es 0<;>rfl
theorem GK{a:κ}: ∀{es:List (Gv κ)} {k:Nat} {v:Value},Ep a es 0=some (k,v)-> ∃A e B,es=A++e::B/\A.length=k/\e.1=a/\e.2.1=v/\ ∀x∈A,x.1≠a
 |[],k,v,h=>by cases h
 |e::es,k,v,h=>by
  rw[Ep] at h
  split at h
  ·rename_i ha;cases h;exact⟨[],e,es,rfl,rfl,ha.symm,rfl,by simp⟩
  ·rename_i ha;rw[K7] at h;cases h2:Ep a es 0 with
   |none=>rw[h2] at h;cases h
   |some p=>
    obtain⟨k',v'⟩:=p;rw[h2] at h;cases h;obtain⟨A,e',B,h3,h4,h5,h6,h7⟩:=GK h2;refine⟨e::A,e',B,by rw[h3];rfl,by simp[h4],h5,h6,λx hx=>?_⟩;rcases Aq.1 hx with rfl|hx
    ·exact λe'=>ha e'.symm
    ·exact h7 x hx
theorem HC{a:κ}: ∀{es:List (Gv κ)},Ep a es 0=none<-> ∀e∈es,e.1≠a
 |[]=>by simp[Ep]
 |e::es=>by
  rw[Ep]
  split
  ·rename_i h;simp[h]
  ·rename_i h;rw[K7,Option.map_eq_none_iff,HC];simp only[Aq,forall_eq_or_imp];exact⟨λh2=>⟨λe'=>h e'.symm,h2⟩,λh2=>h2.2⟩
theorem I8(a:κ)(A B:List (Gv κ)):GZ a (A++B)=(GZ a A).or (GZ a B):=by
 induction A with
 |nil=>rfl
 |cons e A ih=>rw[Ad,JA,JA,ih];split<;>rfl
theorem I9(a b:κ)(v:Value)(clock:Nat)(es:List (Gv κ)):GZ b (J6 a v clock es).1=if b=a then some v else GZ b es:=by
 unfold J6;cases h:Ep a es 0 with
 |none=>
  simp only;rw[I8,JA]
  split
  ·rename_i e;subst e;unfold GZ;rw[h];rfl
  ·simp[GZ,Ep]
 |some p=>
  obtain⟨k,u⟩:=p;obtain⟨A,e,B,rfl,rfl,h1,h2,h3⟩:=GK h;simp only;have hm:(A++e::B).modify A.length (λx=>(x.1,v,x.2.2))=A++(e.1,v,e.2.2)::B:=GJ _ e B A;rw[hm,I8,I8,JA,JA,h1];by_cases e':b=a
  ·have:GZ b A=none:=by unfold GZ;rw[e',HC.2 h3];rfl
   rw[this,Ae e',Ae e'];rfl
  ·rw[Ac e',Ac e',Ac e']
structure KeysOk(es:List (Gv κ))(clock:Nat):Prop where
 keys:(es.map (·.1)).Nodup
 stamps:(es.map (·.2.2)).Nodup
 below: ∀e∈es,e.2.2<clock
theorem KeysOk.set{es:List (Gv κ)}(h:KeysOk es clock)(a:κ)(v:Value):KeysOk (J6 a v clock es).1 (J6 a v clock es).2:=by
 unfold J6;cases hf:Ep a es 0 with
 |none=>
  have hn:=HC.1 hf;simp only;refine⟨?_,?_,λe he=>?_⟩
  ·rw[Ap,Bs];exact⟨h.keys,by simp,λx hx y hy e=>by
    obtain⟨z,hz,rfl⟩:=Au.1 hx;have:y=a:=by simpa using hy
    exact hn z hz (by rw[e,this])⟩
  ·rw[Ap,Bs];exact⟨h.stamps,by simp,λx hx y hy e=>by
    obtain⟨z,hz,rfl⟩:=Au.1 hx;have h1:y=clock:=by simpa using hy
    have h2:=h.below z hz;omega⟩
  ·rcases AF.1 he with he|he
   ·exact Kd (h.below e he)
   ·rw[AA.1 he];exact GW _
 |some p=>
  obtain⟨k,u⟩:=p;obtain⟨A,e,B,rfl,rfl,h1,h2,h3⟩:=GK hf;have hm:(A++e::B).modify A.length (λx=>(x.1,v,x.2.2))=A++(e.1,v,e.2.2)::B:=GJ _ e B A;simp only;rw[hm];refine⟨by simpa using h.keys,by simpa using h.stamps,λx hx=>?_⟩;rcases AF.1 hx with hx|hx
  ·exact h.below x (Ai _ hx)
  ·rcases Aq.1 hx with rfl|hx
   ·exact h.below e (Aa _ Ak)
   ·exact h.below x (Aa _ (An _ hx))
theorem KeysOk.del{es:List (Gv κ)}(h:KeysOk es clock)(a:κ):KeysOk (NC a es) clock:=by
 unfold NC
 split
 ·have hs:(es.eraseIdx ‹_›).Sublist es:=List.eraseIdx_sublist ..;exact⟨h.keys.sublist (hs.map _),h.stamps.sublist (hs.map _),λe he=>h.below e (hs.subset he)⟩
 ·exact h
theorem Om{es:List (Gv κ)}(h:KeysOk es clock)(a b:κ):GZ b (NC a es)=if b=a then none else GZ b es:=by
 unfold NC;cases hf:Ep a es 0 with
 |none=>
  simp only
  split
  ·rename_i e;subst e;unfold GZ;rw[hf];rfl
  ·rfl
 |some p=>
  obtain⟨k,u⟩:=p;obtain⟨A,e,B,rfl,rfl,h1,h2,h3⟩:=GK hf;have hk:=h.keys;rw[Ap,AJ,Bs] at hk;obtain⟨_,hk2,_⟩:=hk;rw[AM] at hk2;have he:(A++e::B).eraseIdx A.length=A++B:=by rw[HU (A5 _),Dr];rfl
  simp only;rw[he,I8,I8,JA,h1];by_cases e':b=a
  ·rw[Ae e'];have n1:GZ b A=none:=by unfold GZ;rw[e',HC.2 h3];rfl
   have n2:GZ b B=none:=by unfold GZ;rw[e',HC.2 λx hx hxe=>hk2.1 (Au.2 ⟨x,hx,by rw[hxe,h1]⟩)];rfl
   rw[n1,n2];rfl
  ·rw[Ac e',Ac e']
end
section
variable{d:Option Nat}{aft:Array Edge}
theorem jn(hp:P.underlying tp=some (.pointer te))(hte:P.info? te=some j)(hsz:j.size≠0)(ha:W.heap[p.block]?=some (.cells ca ta (0,0)))(hb:W.heap[q.block]?=some (.cells cb tb (0,0))):
 (binOp .eql tp (.pointer (some p)) (.pointer (some q))).run P W= .ok (.bool (decide (p=q))) W:=by
 by_cases h:p=q
 ·subst h;rw[run_eql_ptr_same W p hp hte,At rfl]
 ·rw[run_eql_ptr_other W hp hte hsz h ha hb,Aw h]
theorem jo(hp:P.underlying tp=some (.pointer te))(hte:P.info? te=some j)(hsz:j.size≠0)(ha:W.heap[p.block]?=some (.cells ca ta (0,0)))(hb:W.heap[q.block]?=some (.cells cb tb (0,0))):
 (binOp .neq tp (.pointer (some p)) (.pointer (some q))).run P W= .ok (.bool (!decide (p=q))) W:=by
 have h: ∀d:Nat,(Op.equalIn (d+1) tp (.pointer (some p)) (.pointer (some q))).run P W= .ok (decide (p=q)) W:=λd=>by
  by_cases h:p=q
  ·subst h;simp[Op.equalIn,run_underlying hp,sizeOf,typeInfo,hte,run_sameAddr_same]
  ·simp[Op.equalIn,run_underlying hp,sizeOf,typeInfo,hte,hsz,run_sameAddr_other W h ha hb,h]
 simp only[binOp];simp[Op.equal,Op.maxDepth,h 9999]
theorem jp(hx:ev fr x=some (.pointer (some p)))(hy:ev fr y=some (.pointer (some q)))[c:PT P t e][oc:AG P e n](hsz:n≠0)(ha:(p.block,Obj.cells ca ta (0,0))∈R)(hb:(q.block,Obj.cells cb tb (0,0))∈R):
 OpQ P ro N fr R ⟨d,.binOp .eql t x y t2,ty,pos,aft,g⟩ (.bool (decide (p=q))):=⟨λl hR=>⟨rfl,λE a W hf hs=>by
 have hρ:=hf.agrees;obtain⟨uu,inf,_,_,hi,hz⟩:=JJ oc.out;have hex:execOp a.eval ⟨d,.binOp .eql t x y t2,ty,pos,aft,g⟩=(do pure (.value (<-binOp .eql t (.pointer (some p)) (.pointer (some q)))):Sem Next):=by simp only[execOp,hρ x _ hx,hρ y _ hy,I6,pure_bind]
 unfold OpVal;rw[hex,Sem.run_bind,jn (Mt c.out) hi (by rw[hz];exact hsz) (hs.has _ (hR _ ha)) (hs.has _ (hR _ hb))];exact⟨l,⟨rfl,rfl⟩,hs⟩⟩⟩
theorem Y7(hx:ev fr x=some (.pointer (some p)))(hy:ev fr y=some (.pointer (some q)))[c:PT P t e][oc:AG P e n](hsz:n≠0)(ha:(p.block,Obj.cells ca ta (0,0))∈R)(hb:(q.block,Obj.cells cb tb (0,0))∈R):
 OpQ P ro N fr R ⟨d,.binOp .neq t x y t2,ty,pos,aft,g⟩ (.bool (!decide (p=q))):=⟨λl hR=>⟨rfl,λE a W hf hs=>by
 have hρ:=hf.agrees;obtain⟨uu,inf,_,_,hi,hz⟩:=JJ oc.out;have hex:execOp a.eval ⟨d,.binOp .neq t x y t2,ty,pos,aft,g⟩=(do pure (.value (<-binOp .neq t (.pointer (some p)) (.pointer (some q)))):Sem Next):=by simp only[execOp,hρ x _ hx,hρ y _ hy,I6,pure_bind]
 unfold OpVal;rw[hex,Sem.run_bind,jo (Mt c.out) hi (by rw[hz];exact hsz) (hs.has _ (hR _ ha)) (hs.has _ (hR _ hb))];exact⟨l,⟨rfl,rfl⟩,hs⟩⟩⟩
end
section
variable{d:Option Nat}{aft:Array Edge}
theorem Um{β:Type}(body:β->PUnit->Sem (ForInStep PUnit)){Q:PUnit->List Ab->Prop}{l:List Ab}: ∀(xs:List β),(∀x∈xs,∀(Q:ForInStep PUnit->List Ab->Prop) l,sl P (body x ()) l Q<->Q (.yield ()) l)->(sl P (forIn xs PUnit.unit body) l Q<->Q () l)
 |[],_=>by simp only[List.forIn_nil,Bj]
 |x::xs,h=>by rw[List.forIn_cons,AB,h x Ak];exact Um body xs λy hy=>h y (An _ hy)
theorem Xq{empty:Bool}: ∀(n d:Nat) (t:TypeId) (ks:List (Option IntKind)),ax P n t=some ks->n<=d-> ∀(xs:List Value),AllK ks xs-> ∀(Q:Unit->List Ab->Prop) (l:List Ab),(sl P (Instr.checkKey empty d t (HO P t xs)) l Q<->Q () l):=by
 intro n
 induction n with
 |zero=>intro d t ks h;cases h
 |succ n ih=>
  intro d t ks h hd xs hx Q l;obtain⟨d,rfl⟩: ∃e,d=e+1:=⟨d-1,Af⟩
  unfold ax at h
  split at h
  ·rename_i k hu;cases h;obtain⟨_,_,rfl,⟨a,rfl⟩,rfl⟩:=hx;simp only[HO,J5,hu,Bg,CS,Ht];unfold Instr.checkKey;rw[BX hu];exact Di
  ·rename_i hu;cases h;obtain⟨_,_,rfl,⟨a,rfl⟩,rfl⟩:=hx;simp only[HO,J5,hu,Bg,CS,Ht];unfold Instr.checkKey;rw[BX hu];exact Di
  ·rename_i fs hu;by_cases hst:P.stoodInHeld t=true
   ·rw[Ae hst] at h;cases h
   rw[Ac hst] at h;obtain⟨rest,hr,hrest⟩:=Q0 n xs xs fs.toList [] ks h;obtain⟨g1,g2⟩:=hrest hx hx;have hag:J5 P t=true:=by unfold J5;rw[hu]
   simp only[HO,hag,CT];unfold Instr.checkKey;rw[BX hu];simp only;rw[<-Array.forIn_toList];rw[AB];refine(Um _ fs.toList λf hf Q l=>?_).trans Di;obtain⟨kf,ok⟩:=g1 f hf;rw[Ae ok.named,K6 ok.kinds ok.size xs f.offset ok.x,AB,ih d f.type kf ok.kinds Af _ ok.x];exact Di
  ·rename_i len e hu;obtain⟨kf,hk,hk2⟩:=HI.1 h;by_cases hs:(P.info? e).map (·.size)=some kf.length
   ·rw[Ae hs] at hk2;cases hk2;obtain⟨g1,g2⟩:=VD kf len xs xs hx hx;have hag:J5 P t=true:=by unfold J5;rw[hu]
    have hi: ∃inf,P.info? e=some inf/\inf.size=kf.length:=by
     cases hh:P.info? e with
     |none=>rw[hh] at hs;cases hs
     |some inf=>rw[hh] at hs;exact⟨inf,rfl,by simpa using hs⟩
    obtain⟨inf,hi1,hi2⟩:=hi;simp only[HO,hag,CT];unfold Instr.checkKey;rw[BX hu];simp only;rw[Gz];have hsz:Std.Legacy.Range.size [:len]=len:=by simp[Std.Legacy.Range.size]
    rw[hsz];rw[AB];refine(Um _ _ λi hf Q l=>?_).trans Di;have hf:i∈List.range' 0 len:=hf;have hil:i<len:=by have:=Kc.1 hf;omega
    obtain⟨o1,_⟩:=g1 i hil;rw[EW hi1,hi2,K6 hk hs xs _ o1,AB,ih d e kf hk Af _ o1];exact Di
   ·rw[Ac hs] at hk2;cases hk2
  ·cases h
structure NH{κ:Type}(enc:κ->List Value)(ks:List (Option IntKind)):Prop where
 kinds: ∀a,AllK ks (enc a)
 inj: ∀a b,enc a=enc b->a=b
variable[DecidableEq κ]{enc:κ->List Value}{ks:List (Option IntKind)}{a:κ}{es:List (Gv κ)}
theorem Jt{Q:Unit->List Ab->Prop}{empty:Bool}(h:nL P kt=some ks)(he:NH enc ks):sl P (Instr.checkKey empty 10000 kt (.agg (toArray (enc a)))) l Q<->Q () l:=by obtain⟨h1,_,h3⟩:=Mz h;have:=Xq (empty:=empty) 20 10000 kt ks h3 AW (enc a) (he.kinds a) Q l;unfold HO at this;rw[h1] at this;exact this
theorem ay{Q:Bool->List Ab->Prop}(h:nL P kt=some ks)(he:NH enc ks)(a b:κ):sl P (Op.equal kt (.agg (toArray (enc a))) (.agg (toArray (enc b)))) l Q<->Q (decide (a=b)) l:=by
 obtain⟨h1,_,h3⟩:=Mz h;have:=Ul 20 Op.maxDepth kt ks h3 AW (enc a) (enc b) (he.kinds a) (he.kinds b) Q l;unfold HO at this;rw[h1] at this;have e:BQ (enc a) (enc b)=decide (a=b):=by
  by_cases hab:a=b
  ·rw[At hab];exact(FW (he.kinds a) (he.kinds b)).2 (by rw[hab])
  ·rw[Aw hab];cases hc:BQ (enc a) (enc b) with
   |false=>rfl
   |true=>exact absurd (he.inj a b ((FW (he.kinds a) (he.kinds b)).1 hc)) hab
 rw[e] at this;exact this
theorem NI{Q:Option (Nat×Value)->List Ab->Prop}(h:nL P kt=some ks)(he:NH enc ks)(a:κ): ∀(es:List (Gv κ)) (i:Nat),sl P (Instr.findAsking kt (.agg (toArray (enc a))) (es.map (MA enc)) i) l Q<->Q (Ep a es i) l
 |[],i=>Di
 |e::es,i=>by
  rw[AJ];unfold Instr.findAsking;simp only[MA];rw[AB,ay h he,Ep];by_cases hc:a=e.1
  ·rw[At hc,Ae hc];exact Di
  ·rw[Aw hc,Ac hc];exact NI h he a es (i+1)
theorem Ko{Q:Option (Nat×Value)->List Ab->Prop}(h:nL P kt=some ks)(he:NH enc ks):sl P (Instr.findKey kt (.agg (toArray (enc a))) (es.map (MA enc))) l Q<->Q (Ep a es 0) l:=by
 obtain⟨h1,_,_⟩:=Mz h;unfold Instr.findKey;unfold J5 at h1;cases hu:P.underlying kt with
 |none=>rw[hu] at h1;cases h1
 |some td=>
  rw[BX hu];cases es with
  |nil=>exact Di
  |cons e es=>
   have hn:Instr.findNow td (.agg (toArray (enc a))) ((e::es).map (MA enc)) 0=none:=by rw[AJ];unfold Instr.findNow;rw[hu] at h1;cases td<;>first|rfl|cases h1
   rw[hn];exact NI h he a (e::es) 0
theorem az{zv:Value}(hx:ev fr x=some (.map (some m)))(hy:ev fr y=some (.agg (toArray (enc a))))[c:MT P T kt et][ci:EQ P kt ks][cz:ZO P et zv](he:NH enc ks)(hm:(m,He enc es clock)∈R):OpQ P ro N fr R ⟨d,.lookup T x y false,ty,pos,aft,g⟩ ((GZ a es).getD zv):=BL rfl λρ l hρ hR=>by
 simp only[execOp,hρ x _ hx,hρ y _ hy,AB];unfold Instr.lookup;rw[BX (Ig c.out)];simp only[AB];refine⟨_,hR _ hm,rfl,?_⟩;simp only[Bj,E4,AB];rw[Jt ci.out he,Ko ci.out he];unfold GZ;cases h:Ep a es 0 with
 |none=>simp only[AB];rw[Uk cz.out];exact⟨rfl,rfl⟩
 |some p=>exact⟨rfl,rfl⟩
theorem NV: ∀{ks:List (Option IntKind)} {a:List Value} (n:Nat),AllK ks a->(a.zip a).all (λp=>Instr.sameBits (n+1) p.1 p.2)=true
 |[],a,n,h=>by cases h;rfl
 |none::ks,a,n,h=>by obtain⟨c,r,rfl,⟨p,rfl⟩,h2⟩:=h;rw[List.zip_cons_cons,Hk,NV n h2];simp[Instr.sameBits]
 |some k::ks,a,n,h=>by obtain⟨c,r,rfl,⟨p,rfl⟩,h2⟩:=h;rw[List.zip_cons_cons,Hk,NV n h2];simp[Instr.sameBits]
theorem On{Q:Value->List Ab->Prop}(he:NH enc ks):sl P (Instr.keyThatStays (.agg (toArray (enc a))) (.agg (toArray (enc a)))) l Q<->Q (.agg (toArray (enc a))) l:=by
 unfold Instr.keyThatStays;have h:Instr.sameBits 10000 (.agg (toArray (enc a))) (.agg (toArray (enc a)))=true:=by unfold Instr.sameBits;simp only[beq_self_eq_true,Bn];exact NV 9998 (he.kinds a)
 rw[Ae h];exact Di
theorem VE(A B:List (Gv κ))(e:Gv κ)(v:Value):(toArray ((A++e::B).map (MA enc))).modify A.length (λx=>{key:= .agg (toArray (enc e.1)),val:=v,born:=x.born})=toArray ((A++(e.1,v,e.2.2)::B).map (MA enc)):=by apply BJ.1;rw[Hd];simp only[Ap,AJ];have:=GJ (λx:MapEntry=>{key:= .agg (toArray (enc e.1)),val:=v,born:=x.born}) (MA enc e) (B.map (MA enc)) (A.map (MA enc));rw[AZ] at this;rw[this];rfl
theorem Oo(hx:ev fr x=some (.map (some m)))(hy:ev fr y=some (.agg (toArray (enc a))))(hz:ev fr z=some v)[c:MT P T kt et][ci:EQ P kt ks](he:NH enc ks)(hu:Upd l m (He enc es clock) (He enc (J6 a v clock es).1 (J6 a v clock es).2) l'):
 OpE P ro N fr l ⟨d,.mapUpdate T x y z,ty,pos,aft,g⟩ (λv' l2=>v'=undef/\l2=l'):=Do rfl λρ hρ=>by
 simp only[execOp,hρ x _ hx,hρ y _ hy,hρ z _ hz];rw[AB];unfold Instr.mapUpdate;rw[BX (Ig c.out)];simp only[AB];refine⟨_,hu.mem,rfl,?_⟩;simp only[Bj,E4,AB];rw[Jt ci.out he,Ko ci.out he];unfold J6 at hu;cases h:Ep a es 0 with
 |none=>
  rw[h] at hu;simp only at hu⊢;refine⟨He enc es clock,l',?_,rfl,⟨rfl,rfl⟩⟩;have e:(toArray (es.map (MA enc))).push {key:= .agg (toArray (enc a)),val:=v,born:=clock}=toArray ((es++[(a,v,clock)]).map (MA enc)):=by simp[MA]
  rw[e];exact hu
 |some p=>
  obtain⟨i,u⟩:=p;rw[h] at hu;simp only at hu⊢;obtain⟨A,e,B,rfl,rfl,h1,h2,h3⟩:=GK h;subst h1;have hk:(((toArray ((A++e::B).map (MA enc)))[A.length]?).map (·.key)).getD (.agg (toArray (enc e.1)))= .agg (toArray (enc e.1)):=by simp[MA]
  simp only[AB];rw[hk,On he];refine⟨He enc (A++e::B) clock,l',?_,rfl,⟨rfl,rfl⟩⟩;rw[VE,<-GJ (λx=>(x.1,v,x.2.2)) e B A];exact hu
theorem Tc{T2:TypeId}(hx:ev fr x=some (.map (some m)))(hy:ev fr y=some (.agg (toArray (enc a))))[c:MT P T kt et][ci:EQ P kt ks](he:NH enc ks)(hu:Upd l m (He enc es clock) (He enc (NC a es) clock) l'):
 OpE P ro N fr l ⟨d,.call {callee:= .builtin .delete,args:=#[x,y],argTypes:=#[T,T2]},ty,pos,aft,g⟩ (λv' l2=>v'= .tuple #[]/\l2=l'):=Do rfl λρ hρ=>by
 simp only[execOp,resolve,AB,Bj,invoke,builtin,Da,AJ,CY,hρ x _ hx,hρ y _ hy];unfold Builtin.delete_;simp only[AE,Dc,C9,AB];rw[EU (Ig c.out)];simp only[AB];refine⟨_,hu.mem,rfl,?_⟩;simp only[Bj,E4,AB];rw[Jt ci.out he,Ko ci.out he];unfold NC at hu;cases h:Ep a es 0 with
 |none=>rw[h] at hu;exact⟨He enc es clock,l',hu,rfl,⟨rfl,rfl⟩⟩
 |some p=>
  obtain⟨i,u⟩:=p;rw[h] at hu;refine⟨He enc es clock,l',?_,rfl,⟨rfl,rfl⟩⟩;have e:(toArray (es.map (MA enc))).eraseIdxIfInBounds i=toArray ((es.eraseIdx i).map (MA enc)):=by apply BJ.1;simp only[Ir];rw[C4,C4,Ap,FA,List.map_drop]
  rw[e];exact hu
theorem PA{A B:List (Gv κ)}{e:Gv κ}{l':List Ab}(hx:ev fr x=some (.map (some m)))(hy:ev fr y=some (.agg (toArray (enc a))))[c:MT P T kt et][ci:EQ P kt ks](he:NH enc ks)(hes:es=A++e::B)(h1:e.1=a)(h3: ∀x∈A,x.1≠a)(hm:(m,He enc es clock)∈l):
 OpE P ro N fr l ⟨d,.mapEntry T x y,ty,pos,aft,g⟩ (λv' l2=>v'= .tuple #[e.2.1,.int .i64 e.2.2]/\l2=l):=Do rfl λρ hρ=>by
 subst h1 hes;simp only[execOp,hρ x _ hx,hρ y _ hy,AB];unfold Instr.mapEntry;rw[BX (Ig c.out)];simp only[AB];refine⟨_,hm,rfl,?_⟩;simp only[Bj,E4,AB];have hf:Ep e.1 (A++e::B) 0=some (A.length,e.2.1):=by
  have: ∀(A:List (Gv κ)) (i:Nat),(∀x∈A,x.1≠e.1)->Ep e.1 (A++e::B) i=some (i+A.length,e.2.1):=by
   intro A
   induction A with
   |nil=>intro i _;rw[Ag,Ep,Ae rfl];rfl
   |cons z A ih=>intro i hA;rw[Ad,Ep,Ac (λh=>hA z Ak h.symm),ih (i+1) λx hx=>hA x (An _ hx),Bi];congr 2;omega
  rw[this A 0 h3,Bw]
 rw[Jt ci.out he,Ko ci.out he,hf];have hk:(((toArray ((A++e::B).map (MA enc)))[A.length]?).map (·.key)).getD (.agg (toArray (enc e.1)))= .agg (toArray (enc e.1)):=by simp[MA]
 have hb:(((toArray ((A++e::B).map (MA enc)))[A.length]?).map (λx=>(x.born:Int))).getD 0=(e.2.2:Int):=by simp[MA]
 simp only[AB];rw[hk,On he];obtain⟨l2,hl2⟩: ∃l2,Upd l m (He enc (A++e::B) clock) (He enc (A++e::B) clock) l2:=by
  clear hρ
  induction l with
  |nil=>cases hm
  |cons c l ih=>
   by_cases hc:c=(m,He enc (A++e::B) clock)
   ·subst hc;exact⟨_,.here⟩
   ·rcases Aq.1 hm with h|h
    ·exact absurd h.symm hc
    ·obtain⟨l2,h2⟩:=ih h;exact⟨_,.there h2⟩
 refine⟨He enc (A++e::B) clock,l,?_,rfl,?_⟩
 ·have e2:(toArray ((A++e::B).map (MA enc))).modify A.length (λx=>{key:= .agg (toArray (enc e.1)),val:=x.val,born:=x.born})=toArray ((A++e::B).map (MA enc)):=by
   apply BJ.1;rw[Hd];simp only[Ap,AJ];have:=GJ (λx:MapEntry=>{key:= .agg (toArray (enc e.1)),val:=x.val,born:=x.born}) (MA enc e) (B.map (MA enc)) (A.map (MA enc));rw[AZ] at this;rw[this];rfl
  rw[e2];have:=hl2.same;subst this;exact hl2
 ·simp only[Bj,E4];refine⟨?_,rfl⟩;show Value.tuple _=_;congr 3
  first|exact BM goInt hb|(unfold goInt;rw[<-hb])
theorem NJ{A B:List (Gv κ)}{e:Gv κ}(hx:ev fr x=some (.map (some m)))(hy:ev fr y=some (.int .i64 (e.2.2:Nat)))(hz:ev fr z=some v)(hes:es=A++e::B)(h3: ∀x∈A,x.2.2≠e.2.2)(hu:Upd l m (He enc es clock) (He enc (A++(e.1,v,e.2.2)::B) clock) l'):
 OpE P ro N fr l ⟨d,.entryStore T x y z,ty,pos,aft,g⟩ (λv' l2=>v'=undef/\l2=l'):=Do rfl λρ hρ=>by
 subst hes;simp only[execOp,hρ x _ hx,hρ y _ hy,hρ z _ hz];rw[AB];unfold Instr.entryStore;simp only[AB];refine⟨_,hu.mem,rfl,?_⟩;simp only[Bj,E4,AB,asInt,asIntOf];have hf:(toArray ((A++e::B).map (MA enc))).findIdx? (λx=>(x.born:Int)==(e.2.2:Int))=some A.length:=by
  rw[List.findIdx?_toArray];clear hu hρ
  induction A with
  |nil=>simp[MA,List.findIdx?_cons]
  |cons z A ih=>
   have hz:¬z.2.2=e.2.2:=h3 z Ak;rw[Ad,AJ,List.findIdx?_cons,ih λx hx=>h3 x (An _ hx)];have:(((MA enc z).born:Int)==(e.2.2:Int))=false:=by simp[MA];omega
   rw[this];rfl
 rw[hf];refine⟨He enc (A++e::B) clock,l',?_,rfl,⟨rfl,rfl⟩⟩;have e2:(toArray ((A++e::B).map (MA enc))).modify A.length (λx=>{key:=x.key,val:=v,born:=x.born})=toArray ((A++(e.1,v,e.2.2)::B).map (MA enc)):=by apply BJ.1;rw[Hd];simp only[Ap,AJ];have:=GJ (λx:MapEntry=>{key:=x.key,val:=v,born:=x.born}) (MA enc e) (B.map (MA enc)) (A.map (MA enc));rw[AZ] at this;rw[this];rfl
 rw[e2];exact hu
end
section
variable{pl:List BC}{i:Nat}
end
theorem CM{c:Ab}(h:c∈l): ∀x,x∈[c]->x∈l:=λx hx=>by rw[AA.1 hx];exact h
theorem Keep.in_mid(A B C:List Ab):Keep (A++(B++C)) (B++(A++C)):=Keep.of_perm (Ay A B C)
theorem Ih{α β:Type}{f:α->β}: ∀{l:List α},(l.map f).Nodup->l.Nodup
 |[],_=>List.nodup_nil
 |x::l,h=>by rw[AJ,AM] at h;exact AM.2 ⟨λhx=>h.1 (Au.2 ⟨x,hx,rfl⟩),Ih h.2⟩
theorem MC{α β:Type}{f:α->β}: ∀{l:List α} {x y:α},(l.map f).Nodup->x∈l->y∈l->f x=f y->x=y
 |[],_,_,_,h,_,_=>by cases h
 |z::l,x,y,h,hx,hy,e=>by
  rw[AJ,AM] at h;rcases Aq.1 hx with h1|h1<;>rcases Aq.1 hy with h2|h2
  ·rw[h1,h2]
  ·exact absurd (Au.2 ⟨y,h2,by rw[<-e,h1]⟩) h.1
  ·exact absurd (Au.2 ⟨x,h1,by rw[e,h2]⟩) h.1
  ·exact MC h.2 h1 h2 e
section
variable{d:Option Nat}{aft:Array Edge}{k k':IntKind}{i:Int}
theorem mi(hx:ev fr x=some (.int k i))(hy:ev fr y=some (.int k' (n:Nat)))(hn:n<=k.bits):OpQ P ro N fr R ⟨d,.binOp .shr t x y t2,ty,pos,aft,g⟩ (.int k (i/2^n)):=
 HN hx hy (λ_ _=>CQ _ _ _ _ _) (by
  have h1:¬((n:Nat):Int)<0:=by omega
  have h2:i.fdiv (2^n)=i/2^n:=Int.fdiv_eq_ediv_of_nonneg _ (by have:(0:Int)<=((2^n:Nat):Int):=Int.natCast_nonneg _;simpa using this);simp only[binOp,Op.shift,Ac h1,A3,DU hn,h2])
theorem Q4(hx:ev fr x=some (.int k i))(hy:ev fr y=some (.int k' (n:Nat)))(hn:n<=k.bits):OpQ P ro N fr R ⟨d,.binOp .shl t x y t2,ty,pos,aft,g⟩ (.int k (k.wrap (i*2^n))):=
 HN hx hy (λ_ _=>CQ _ _ _ _ _) (by
  have h1:¬((n:Nat):Int)<0:=by omega
  simp only[binOp,Op.shift,Ac h1,A3,DU hn])
theorem Td(h:a<18446744073709551616):IntKind.u64.wrap (a:Int)=(a:Int):=by simp[IntKind.wrap,IntKind.signed,IntKind.bits];omega
theorem mj(hx:ev fr x=some (.int .u64 (a:Nat)))(hy:ev fr y=some (.int .u64 (b:Nat)))(ha:a<18446744073709551616)(hb:b<18446744073709551616):OpQ P ro N fr R ⟨d,.binOp .and t x y t2,ty,pos,aft,g⟩ (.int .u64 ((a&&& b:Nat):Int)):=
 HN hx hy (λ_ _=>CQ _ _ _ _ _) (by
  have e1:(BitVec.ofInt IntKind.u64.bits ((a:Nat):Int)).toNat=a:=by show(BitVec.ofInt 64 ((a:Nat):Int)).toNat=a;rw[DA,DX,Db ha]
  have e2:(BitVec.ofInt IntKind.u64.bits ((b:Nat):Int)).toNat=b:=by show(BitVec.ofInt 64 ((b:Nat):Int)).toNat=b;rw[DA,DX,Db hb]
  simp only[binOp,Op.intBits,KW,e1,e2];rw[Td (DW Jd ha)];rfl)
theorem Te{zv:Value}{k:Nat}(hzv:zv.cells=toArray zs)(hzs:zs.length=k)(hk:0<n*k):(Array.range (n*k)).map (λj=>zv.cells[j%zv.cells.size]!)=toArray (List.replicate n zs).flatten:=by
 have hk0:0<k:=JF λe=>by subst e;simp at hk
 apply BJ.1;apply Dq;intro j;rw[hzv];have hl:(List.replicate n zs).flatten.length=n*k:=by simp[hzs]
 by_cases hj:j<n*k
 ·have:(List.replicate n zs).flatten[j]?=zs[j%k]?:=by
   clear hl hk hk0
   induction n generalizing j with
   |zero=>omega
   |succ n ih=>
    rw[BE,Cl];by_cases hjk:j<k
    ·rw[AC Af,Db hjk]
    ·rw[AP Af,hzs,ih (j-k) (by have:=Fq n k;simp only[Jn] at this;omega),<-JG Af]
  simp only[KV,JH,A0,EE hj,BH];rw[this];have hlt:j%k<zs.length:=by rw[hzs];exact Gy _ hk0
  simp[hzs,Am hlt,FL]
 ·rw[Bb (by simp;omega),Bb (by rw[hl];omega)]
theorem Fv{T kk yb:Nat}{xs:List Value}(hx:ev fr x=some (.int .i64 (n:Nat)))[c:ST P T e kk yb][cz:ZV P e zs](hzs:zs.length=kk)(hk:0<n*kk)(hn:n<=1000000)(hby:yb<=1000)(hxs:xs=(List.replicate n zs).flatten):
 OpE P ro N fr l ⟨d,.makeSlice T x x,ty,pos,aft,g⟩ (λv' l'=> ∃b,(∀c,c∈l->c.1≠b)/\v'= .slice (some ⟨b,0,none⟩) n n/\l'=(b,.cells (toArray xs) e (0,0))::l):=Do rfl λρ hρ=>by
 subst hxs;obtain⟨inf,u1,u2,u3,u4⟩:=Ev c.out;obtain⟨inf',zv,z1,z2,z3⟩:=I7 cz.out;rw[u2] at z1;cases z1;simp only[execOp,hρ x _ hx];unfold Instr.makeSlice;rw[AB,BX u1];have hw:IntKind.i64.wrap ((n:Nat):Int)=n:=nD _ ⟨Af,Af⟩;have hb:inf.bytes*n<=1000000000:=by rw[u4];exact BW (H9 hby hn) Af
 have hb2:((inf.bytes:Nat):Int)*((n:Nat):Int)<=1000000000:=by rw[<-Je];omega
 simp only[asInt,asIntOf,pure_bind,hw];rw[IQ u2];have ht:(decide (((n:Nat):Int)<0)||decide (((inf.bytes:Nat):Int)*((n:Nat):Int)>2^48))=false:=by rw[Aw Af,Aw Af];rfl
 simp only[ht,KE];rw[show(decide (((n:Nat):Int)<0)||decide (((n:Nat):Int)>((n:Nat):Int)))=false by rw[Aw Af,Aw Af];rfl];simp only[Bg,CS,A3];unfold askRoom roomBytes;have hr:n*inf.bytes<=1000000000:=by rw[Nat.mul_comm];exact hb
 rw[Ac Af,AB,Bj,EW u2,u3];have hk1:¬n*kk=0:=by omega
 simp only[hk1,CS,zeroValue,AB];rw[<-AB,IQ u2,z2];simp only[Bj];have hzv:zv.cells=toArray zs:=by rw[<-z3]
 rw[Te hzv hzs hk];simp only[newRow,AB];intro b hb;exact⟨b,hb,rfl,rfl⟩
end
theorem Q5(vs:List Value): ∀(cs:Array Value) (off k:Nat),(CO cs off vs)[k]?=if off<=k/\k<off+vs.length/\k<cs.size then vs[k-off]? else cs[k]?:=by
 induction vs with
 |nil=>intro cs off k;rw[Ac (by simp;omega)];rfl
 |cons v r ih=>
  intro cs off k;show(CO (cs.setIfInBounds off v) (off+1) r)[k]?=_;rw[ih,Array.size_setIfInBounds];by_cases h1:off+1<=k/\k<off+1+r.length/\k<cs.size
  ·rw[Ae h1,Ae (by simp;omega),show k-off=(k-(off+1))+1 by omega];rfl
  ·rw[Ac h1,Array.getElem?_setIfInBounds];by_cases h2:off=k
   ·subst h2;rw[Ae rfl];by_cases h3:off<cs.size
    ·rw[Ae h3,Ae (by simp;omega),Dr];rfl
    ·rw[Ac h3,Ac Af,EG Af]
   ·rw[Ac h2,Ac (by simp;omega)]
section
def ml(os:List Oper)(tbl:List (List Nat))(L:List (Nat×Nat))(plan1 plan2:List (Nat×Bool))(i j:Nat)(sw1 swj:Sw):Bool:=
 ((Hv os plan1).tail.all λy=>!L.contains (i,y.1)||y.1==j||(Hv os plan1).tail.any λz=>Ff tbl y.1 z.1)&&FI os.toArray tbl sw1 (Hv os plan1).tail&&Sy sw1 (Hv os plan1).tail&&FI os.toArray tbl swj (Hv os plan2).tail&&Sy swj (Hv os plan2).tail&&plan1.head?==some (i,false)&&plan2.head?==some (j,false)&&i !=j
theorem Q6{os:List Oper}{L:List (Nat×Nat)}{oj:Oper}{rest rj:List BC}{K':Value->List Ab->Prop}(plan1 plan2:List (Nat×Bool))(i j:Nat)(sw1 swj:Sw)(h1:Attach os plan1 ((i,false,o)::rest))(h2:Attach os plan2 ((j,false,oj)::rj))(hp:((j,false,oj)::rj).Perm ((i,false,o)::rest))(hok:ml os tbl L plan1 plan2 i j sw1 swj=true)
 (ho:OpE P ro N fr l o K)(hg:Pz os.toArray fr o.guard=some true)(hd:I5 N o.dst=true)(hR: ∀v l',K v l'->(∀c,c∈R->c∈l'))(hS: ∀v l',K v l'-> ∀x,x∈sp->Ff tbl i x.1=false-> ∀c,c∈x.2->c∈l')
 (ho':OpE P ro N fr l oj K')(hg':Pz os.toArray fr oj.guard=some true)(hd':I5 N oj.dst=true)(hR': ∀v l',K' v l'->(∀c,c∈R->c∈l'))(hS': ∀v l',K' v l'-> ∀x,x∈sp->Ff tbl j x.1=false-> ∀c,c∈x.2->c∈l')
 (hk0: ∀v l',K v l'->PlanS P ro N E os.toArray Q R tbl sw1 sp rest (Hn o.dst v fr) ds l')(hk': ∀v l',K' v l'->PlanS P ro N E os.toArray Q R tbl swj sp rj (Hn oj.dst v fr) ds l'):PlanS P ro N E os.toArray Q R tbl (some L) sp ((i,false,o)::rest) fr ds l:=by
 unfold ml at hok;rw[h1.fun_eq,h2.fun_eq] at hok;simp only[AX,bne_iff_ne,ne_eq,Ia,A6,Fl,Ex,JD,GU] at hok;obtain⟨⟨⟨⟨⟨⟨⟨p1,p2⟩,p3⟩,p4⟩,p5⟩,_⟩,_⟩,hij⟩:=hok;have hj: ∀k,NB tbl (some L) i rest k->k=i\/k=j:=λk hk=>by
  rcases hk with h|⟨h,h3,y,hy,rfl⟩
  ·exact .inl h
  ·rcases p1 y hy with(h4|h4)|⟨z,hz,h4⟩
   ·simp only[NA] at h;rw[h] at h4;cases h4
   ·exact .inr h4
   ·rw[h3 z hz] at h4;cases h4
 refine .alt (λk=>if k=i then o else oj) (λk=>if k=i then K else K') (λk=>if k=i then rest else rj) (λk=>if k=i then sw1 else swj) (λk hk=>?_) (λk hk=>?_) (λk hk=>?_) λk hk=>?_;all_goals rcases hj k hk with h|h
 ·subst h;simp only[CT];exact⟨.refl _,p2,p3⟩
 ·subst h;simp only[Ac (Gn hij)];exact⟨hp,p4,p5⟩
 ·subst h;simp only[CT];exact⟨ho,hg,hd⟩
 ·subst h;simp only[Ac (Gn hij)];exact⟨ho',hg',hd'⟩
 ·subst h;simp only[CT];exact λv l' k=>⟨hR v l' k,hS v l' k⟩
 ·subst h;simp only[Ac (Gn hij)];exact λv l' k=>⟨hR' v l' k,hS' v l' k⟩
 ·subst h;simp only[CT];exact hk0
 ·subst h;simp only[Ac (Gn hij)];exact hk'
variable{aft:Array Edge}{off:Nat}
end
section
end
end Go.Proofs.YtlkgekpmileobaaGreat
