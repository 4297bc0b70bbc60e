/- Laws that the statement's proof leans on (joined out of several texts). -/
import Derived.Test.YtlifcingifodfaaGreatGc8
import Derived.LaidEqlPtr
set_option maxHeartbeats 4000000
set_option linter.unusedVariables false
set_option linter.unusedSimpArgs false
set_option linter.unusedSectionVars false
namespace Go.Proofs.YtlifcingifodfaaGreat
open List(toArray)
open Go.RowKit
variable{l R l':Ad}{P:Program}{ro:Option Nat}{N e clock b n m a:Nat}{ty t ta tb t2 T kt et tp te:TypeId}{pos:String}{g:Option (Nat×Bool)}{x y z:Operand}{p q:Addr}{ca cb:Array Value}{v u:Value}{κ:Type}{j:TypeInfo}{W E:World}{ops:Array Oper}{Q:Exit->Act->World->Prop}{tbl:List (List Nat)}{sp:FM}{ds:List Deferred}{o:Oper}{K:Value->Ad->Prop}{zs:Ap}
def RowSl{α:Type}(l:Ad)(v:Value)(k:Nat)(enc:α->Ap)(xs:List α):Prop:=
 ∃a cap,v= .slice a xs.length cap/\(0<xs.length-> ∃b off cs t fz,a=some ⟨b,off,none⟩/\(b,Obj.cells cs t fz)∈l/\ ∀i x,xs[i]?=some x->off+i*k+k<=cs.size/\cs.extract (off+i*k) (off+i*k+k)=toArray (enc x))
theorem KV{α:Type}{enc:α->Ap}{k:Nat}(hk: ∀x,(enc x).length=k)(sp:Ap): ∀(xs:List α) (i:Nat) (x:α),xs[i]?=some x->((xs.flatMap enc++sp).drop (i*k)).take k=enc x/\i*k+k<=(xs.flatMap enc++sp).length
 |[],i,x,h=>by simp at h
 |y::xs,0,x,h=>by cases h;rw[Cw,GG,List.drop_zero,Am,GP (hk y)];refine⟨rfl,?_⟩;rw[Ah,hk];omega
 |y::xs,i+1,x,h=>by obtain⟨h1,h2⟩:=KV hk sp xs i x (by simpa using h);rw[Cw,Am,F5];refine⟨?_,by rw[Ah,hk];omega⟩;rw[JA,DG (by rw[hk];omega),hk,Ag,show i*k+k-k=i*k by omega];exact h1
theorem OwnSl.rowSl{α:Type}{k:Nat}{enc:α->Ap}{xs:List α}{cs:Ad}(h:OwnSl e k v xs.length (xs.flatMap enc) cs)(hk: ∀x,(enc x).length=k)(hs: ∀c,c∈cs->c∈l):RowSl l v k enc xs:=by
 rcases h.2 with⟨rfl,h0,rfl⟩|⟨b,cap,sp,rfl,rfl,_⟩
 ·exact⟨none,0,by rw[h0],λh=>by omega⟩
 ·refine⟨_,cap,rfl,λh0=>⟨b,0,_,e,(0,0),rfl,hs _ Ak,λi x hx=>?_⟩⟩;obtain⟨h1,h2⟩:=KV hk sp xs i x hx;refine⟨by rw[BE];simpa using h2,?_⟩;rw[BE,E5,Cp,CG,h1]
section
variable{fr:Fr}{d:Option Nat}{aft:Array Edge}
end
theorem GD: ∀{ks:List (Option IntKind)} {a b:Ap},AllK ks a->AllK ks b->(BZ a b=true<->a=b)
 |[],a,b,h,h'=>by cases h;cases h';simp[BZ]
 |none::ks,a,b,h,h'=>by obtain⟨_,r,rfl,⟨p,rfl⟩,h2⟩:=h;obtain⟨_,r',rfl,⟨p',rfl⟩,h2'⟩:=h';simp[BZ,N3,GD h2 h2']
 |some k::ks,a,b,h,h'=>by obtain⟨_,r,rfl,⟨p,rfl⟩,h2⟩:=h;obtain⟨_,r',rfl,⟨p',rfl⟩,h2'⟩:=h';simp[BZ,N3,GD h2 h2']
abbrev Hf(κ:Type):=κ×Value×Nat
def N6{κ:Type}(enc:κ->Ap)(x:Hf κ):MapEntry:={key:= .agg (toArray (enc x.1)),val:=x.2.1,born:=x.2.2}
abbrev Ic{κ:Type}(enc:κ->Ap)(es:List (Hf κ))(clock:Nat):Obj:= .map (toArray (es.map (N6 enc))) clock
theorem Hu{α:Type}(f:α->α)(e:α)(B:List α): ∀(A:List α),(A++e::B).modify A.length f=A++f e::B
 |[]=>rfl
 |x::A=>by rw[Ae,BC,List.modify_succ_cons,Hu f e B A];rfl
section
variable[DecidableEq κ]
def EZ(a:κ):List (Hf κ)->Nat->Option (Nat×Value)
 |[],_=>none
 |e::es,i=>if a=e.1 then some (i,e.2.1) else EZ a es (i+1)
def HQ(a:κ)(es:List (Hf κ)):Option Value:=(EZ a es 0).map Prod.snd
def Lk(a:κ)(v:Value)(clock:Nat)(es:List (Hf κ)):List (Hf κ)×Nat:=match EZ a es 0 with
 |some (i,_)=>(es.modify i λx=>(x.1,v,x.2.2),clock)
 |none=>(es++[(a,v,clock)],clock+1)
def Pc(a:κ)(es:List (Hf κ)):List (Hf κ):=match EZ a es 0 with
 |some (i,_)=>es.eraseIdx i
 |none=>es
theorem Ms(a:κ): ∀(es:List (Hf κ)) (i:Nat),EZ a es i=(EZ a es 0).map λp=>(p.1+i,p.2)
 |[],i=>rfl
 |e::es,i=>by
  unfold EZ
  split
  ·simp
  ·rw[Ms a es (i+1),Ms a es (0+1)];cases EZ a es 0 with
   |none=>rfl
   |some p=>simp;omega
theorem KF(a:κ)(e:Hf κ)(es:List (Hf κ)):HQ a (e::es)=if a=e.1 then some e.2.1 else HQ a es:=by
 unfold HQ;rw[EZ]
 split
 ·rfl
 ·rw[Ms,Option.map_map];cases EZ a es 0<;>rfl
theorem Hv{a:κ}: ∀{es:List (Hf κ)} {k:Nat} {v:Value},EZ a es 0=some (k,v)-> ∃A e B,es=A++e::B/\A.length=k/\e.1=a/\e.2.1=v/\ ∀x∈A,x.1≠a
 |[],k,v,h=>by cases h
 |e::es,k,v,h=>by
  rw[EZ] at h
  split at h
  ·rename_i ha;cases h;exact⟨[],e,es,rfl,rfl,ha.symm,rfl,by simp⟩
  ·rename_i ha;rw[Ms] at h;cases h2:EZ a es 0 with
   |none=>rw[h2] at h;cases h
   |some p=>
    obtain⟨k',v'⟩:=p;rw[h2] at h;cases h;obtain⟨A,e',B,h3,h4,h5,h6,h7⟩:=Hv h2;refine⟨e::A,e',B,by rw[h3];rfl,by simp[h4],h5,h6,λx hx=>?_⟩;rcases At.1 hx with rfl|hx
    ·exact λe'=>ha e'.symm
    ·exact h7 x hx
theorem IA{a:κ}: ∀{es:List (Hf κ)},EZ a es 0=none<-> ∀e∈es,e.1≠a
 |[]=>by simp[EZ]
 |e::es=>by
  rw[EZ]
  split
  ·rename_i h;simp[h]
  ·rename_i h;rw[Ms,Option.map_eq_none_iff,IA];simp only[At,forall_eq_or_imp];exact⟨λh2=>⟨λe'=>h e'.symm,h2⟩,λh2=>h2.2⟩
theorem J3(a:κ)(A B:List (Hf κ)):HQ a (A++B)=(HQ a A).or (HQ a B):=by
 induction A with
 |nil=>rfl
 |cons e A ih=>rw[Ae,KF,KF,ih];split<;>rfl
theorem J4(a b:κ)(v:Value)(clock:Nat)(es:List (Hf κ)):HQ b (Lk a v clock es).1=if b=a then some v else HQ b es:=by
 unfold Lk;cases h:EZ a es 0 with
 |none=>
  simp only;rw[J3,KF]
  split
  ·rename_i e;subst e;unfold HQ;rw[h];rfl
  ·simp[HQ,EZ]
 |some p=>
  obtain⟨k,u⟩:=p;obtain⟨A,e,B,rfl,rfl,h1,h2,h3⟩:=Hv h;simp only;have hm:(A++e::B).modify A.length (λx=>(x.1,v,x.2.2))=A++(e.1,v,e.2.2)::B:=Hu _ e B A;rw[hm,J3,J3,KF,KF,h1];by_cases e':b=a
  ·have:HQ b A=none:=by unfold HQ;rw[e',IA.2 h3];rfl
   rw[this,Ac e',Ac e'];rfl
  ·rw[Ab e',Ab e',Ab e']
structure KeysOk(es:List (Hf κ))(clock:Nat):Prop where
 keys:(es.map (·.1)).Nodup
 stamps:(es.map (·.2.2)).Nodup
 below: ∀e∈es,e.2.2<clock
theorem KeysOk.set{es:List (Hf κ)}(h:KeysOk es clock)(a:κ)(v:Value):KeysOk (Lk a v clock es).1 (Lk a v clock es).2:=by
 unfold Lk;cases hf:EZ a es 0 with
 |none=>
  have hn:=IA.1 hf;simp only;refine⟨?_,?_,λe he=>?_⟩
  ·rw[Aq,By];exact⟨h.keys,by simp,λx hx y hy e=>by
    obtain⟨z,hz,rfl⟩:=Au.1 hx;have:y=a:=by simpa using hy
    exact hn z hz (by rw[e,this])⟩
  ·rw[Aq,By];exact⟨h.stamps,by simp,λx hx y hy e=>by
    obtain⟨z,hz,rfl⟩:=Au.1 hx;have h1:y=clock:=by simpa using hy
    have h2:=h.below z hz;omega⟩
  ·rcases AH.1 he with he|he
   ·exact Lq (h.below e he)
   ·rw[AE.1 he];exact HM _
 |some p=>
  obtain⟨k,u⟩:=p;obtain⟨A,e,B,rfl,rfl,h1,h2,h3⟩:=Hv hf;have hm:(A++e::B).modify A.length (λx=>(x.1,v,x.2.2))=A++(e.1,v,e.2.2)::B:=Hu _ e B A;simp only;rw[hm];refine⟨by simpa using h.keys,by simpa using h.stamps,λx hx=>?_⟩;rcases AH.1 hx with hx|hx
  ·exact h.below x (Ai _ hx)
  ·rcases At.1 hx with rfl|hx
   ·exact h.below e (Aa _ Ak)
   ·exact h.below x (Aa _ (An _ hx))
theorem KeysOk.del{es:List (Hf κ)}(h:KeysOk es clock)(a:κ):KeysOk (Pc a es) clock:=by
 unfold Pc
 split
 ·have hs:(es.eraseIdx ‹_›).Sublist es:=List.eraseIdx_sublist ..;exact⟨h.keys.sublist (hs.map _),h.stamps.sublist (hs.map _),λe he=>h.below e (hs.subset he)⟩
 ·exact h
theorem P5{es:List (Hf κ)}(h:KeysOk es clock)(a b:κ):HQ b (Pc a es)=if b=a then none else HQ b es:=by
 unfold Pc;cases hf:EZ a es 0 with
 |none=>
  simp only
  split
  ·rename_i e;subst e;unfold HQ;rw[hf];rfl
  ·rfl
 |some p=>
  obtain⟨k,u⟩:=p;obtain⟨A,e,B,rfl,rfl,h1,h2,h3⟩:=Hv hf;have hk:=h.keys;rw[Aq,AJ,By] at hk;obtain⟨_,Le,_⟩:=hk;rw[AP] at Le;have he:(A++e::B).eraseIdx A.length=A++B:=by rw[IS (Bd _),DR];rfl
  simp only;rw[he,J3,J3,KF,h1];by_cases e':b=a
  ·rw[Ac e'];have n1:HQ b A=none:=by unfold HQ;rw[e',IA.2 h3];rfl
   have n2:HQ b B=none:=by unfold HQ;rw[e',IA.2 λx hx hxe=>Le.1 (Au.2 ⟨x,hx,by rw[hxe,h1]⟩)];rfl
   rw[n1,n2];rfl
  ·rw[Ab e',Ab e']
end
section
variable{fr:Fr}{d:Option Nat}{aft:Array Edge}{w:Value}
theorem qq(hp:P.underlying tp=some (.pointer te))(zc:P.info? te=some j)(UI:j.size≠0)(ha:W.heap[p.block]?=some (.cells ca ta (0,0)))(hb:W.heap[q.block]?=some (.cells cb tb (0,0))):
 (binOp .eql tp (.pointer (some p)) (.pointer (some q))).run P W= .ok (.bool (decide (p=q))) W:=by
 by_cases h:p=q
 ·subst h;rw[run_eql_ptr_same W p hp zc,Av rfl]
 ·rw[run_eql_ptr_other W hp zc UI h ha hb,Ax h]
theorem qt(hp:P.underlying tp=some (.pointer te))(zc:P.info? te=some j)(UI:j.size≠0)(ha:W.heap[p.block]?=some (.cells ca ta (0,0)))(hb:W.heap[q.block]?=some (.cells cb tb (0,0))):
 (binOp .neq tp (.pointer (some p)) (.pointer (some q))).run P W= .ok (.bool (!decide (p=q))) W:=by
 have h: ∀d:Nat,(Op.equalIn (d+1) tp (.pointer (some p)) (.pointer (some q))).run P W= .ok (decide (p=q)) W:=λd=>by
  by_cases h:p=q
  ·subst h;simp[Op.equalIn,run_underlying hp,sizeOf,typeInfo,zc,run_sameAddr_same]
  ·simp[Op.equalIn,run_underlying hp,sizeOf,typeInfo,zc,UI,run_sameAddr_other W h ha hb,h]
 simp only[binOp];simp[Op.equal,Op.maxDepth,h 9999]
theorem qv(hx:ev fr x=some (.pointer (some p)))(hy:ev fr y=some (.pointer (some q)))[c:PT P t e][oc:AG P e n](UI:n≠0)(ha:(p.block,Obj.cells ca ta (0,0))∈R)(hb:(q.block,Obj.cells cb tb (0,0))∈R):
 OpQ P ro N fr R ⟨d,.binOp .eql t x y t2,ty,pos,aft,g⟩ (.bool (decide (p=q))):=⟨λl hR=>⟨rfl,λE a W hf hs=>by
 have hρ:=hf.agrees;obtain⟨uu,Hp,_,_,hi,hz⟩:=KR oc.out;have XD:execOp a.eval ⟨d,.binOp .eql t x y t2,ty,pos,aft,g⟩=(do pure (.value (<-binOp .eql t (.pointer (some p)) (.pointer (some q)))):Sem Next):=by simp only[execOp,hρ x _ hx,hρ y _ hy,JZ,pure_bind]
 unfold OpVal;rw[XD,Sem.run_bind,qq (NY c.out) hi (by rw[hz];exact UI) (hs.has _ (hR _ ha)) (hs.has _ (hR _ hb))];exact⟨l,⟨rfl,rfl⟩,hs⟩⟩⟩
theorem dk(hx:ev fr x=some (.pointer (some p)))(hy:ev fr y=some (.pointer (some q)))[c:PT P t e][oc:AG P e n](UI:n≠0)(ha:(p.block,Obj.cells ca ta (0,0))∈R)(hb:(q.block,Obj.cells cb tb (0,0))∈R):
 OpQ P ro N fr R ⟨d,.binOp .neq t x y t2,ty,pos,aft,g⟩ (.bool (!decide (p=q))):=⟨λl hR=>⟨rfl,λE a W hf hs=>by
 have hρ:=hf.agrees;obtain⟨uu,Hp,_,_,hi,hz⟩:=KR oc.out;have XD:execOp a.eval ⟨d,.binOp .neq t x y t2,ty,pos,aft,g⟩=(do pure (.value (<-binOp .neq t (.pointer (some p)) (.pointer (some q)))):Sem Next):=by simp only[execOp,hρ x _ hx,hρ y _ hy,JZ,pure_bind]
 unfold OpVal;rw[XD,Sem.run_bind,qt (NY c.out) hi (by rw[hz];exact UI) (hs.has _ (hR _ ha)) (hs.has _ (hR _ hb))];exact⟨l,⟨rfl,rfl⟩,hs⟩⟩⟩
end
section
variable{fr:Fr}{d:Option Nat}{aft:Array Edge}{w:Value}
theorem Ww{β:Type}(body:β->PUnit->Sem (ForInStep PUnit)){Q:PUnit->Ad->Prop}{l:Ad}: ∀(xs:List β),(∀x∈xs,∀(Q:ForInStep PUnit->Ad->Prop) l,sl P (body x ()) l Q<->Q (.yield ()) l)->(sl P (forIn xs PUnit.unit body) l Q<->Q () l)
 |[],_=>by simp only[List.forIn_nil,Bn]
 |x::xs,h=>by rw[List.forIn_cons,AC,h x Ak];exact Ww body xs λy hy=>h y (An _ hy)
theorem ae{empty:Bool}: ∀(n d:Nat) (t:TypeId) (ks:List (Option IntKind)),f6 P n t=some ks->n<=d-> ∀(xs:Ap),AllK ks xs-> ∀(Q:Unit->Ad->Prop) (l:Ad),(sl P (Instr.checkKey empty d t (IL P t xs)) l Q<->Q () l):=by
 intro n
 induction n with
 |zero=>intro d t ks h;cases h
 |succ n ih=>
  intro d t ks h hd xs hx Q l;obtain⟨d,rfl⟩: ∃e,d=e+1:=⟨d-1,Af⟩
  unfold f6 at h
  split at h
  ·rename_i k hu;cases h;obtain⟨_,_,rfl,⟨a,rfl⟩,rfl⟩:=hx;simp only[IL,Lj,hu,Bl,C3,Iq];unfold Instr.checkKey;rw[Cc hu];exact DF
  ·rename_i hu;cases h;obtain⟨_,_,rfl,⟨a,rfl⟩,rfl⟩:=hx;simp only[IL,Lj,hu,Bl,C3,Iq];unfold Instr.checkKey;rw[Cc hu];exact DF
  ·rename_i fs hu;by_cases Mi:P.stoodInHeld t=true
   ·rw[Ac Mi] at h;cases h
   rw[Ab Mi] at h;obtain⟨A0,hr,hrest⟩:=Tg n xs xs fs.toList [] ks h;obtain⟨g1,g2⟩:=hrest hx hx;have oZ:Lj P t=true:=by unfold Lj;rw[hu]
   simp only[IL,oZ,C6];unfold Instr.checkKey;rw[Cc hu];simp only;rw[<-Array.forIn_toList];rw[AC];refine(Ww _ fs.toList λf hf Q l=>?_).trans DF;obtain⟨kf,ok⟩:=g1 f hf;rw[Ac ok.named,Mr ok.kinds ok.size xs f.offset ok.x,AC,ih d f.type kf ok.kinds Af _ ok.x];exact DF
  ·rename_i len e hu;obtain⟨kf,hk,Le⟩:=IG.1 h;by_cases hs:(P.info? e).map (·.size)=some kf.length
   ·rw[Ac hs] at Le;cases Le;obtain⟨g1,g2⟩:=X9 kf len xs xs hx hx;have oZ:Lj P t=true:=by unfold Lj;rw[hu]
    have hi: ∃Hp,P.info? e=some Hp/\Hp.size=kf.length:=by
     cases hh:P.info? e with
     |none=>rw[hh] at hs;cases hs
     |some Hp=>rw[hh] at hs;exact⟨Hp,rfl,by simpa using hs⟩
    obtain⟨Hp,uS,hi2⟩:=hi;simp only[IL,oZ,C6];unfold Instr.checkKey;rw[Cc hu];simp only;rw[Hk];have UI:Std.Legacy.Range.size [:len]=len:=by simp[Std.Legacy.Range.size]
    rw[UI];rw[AC];refine(Ww _ _ λi hf Q l=>?_).trans DF;have hf:i∈List.range' 0 len:=hf;have uT:i<len:=by have:=Lp.1 hf;omega
    obtain⟨o1,_⟩:=g1 i uT;rw[Fe uS,hi2,Mr hk hs xs _ o1,AC,ih d e kf hk Af _ o1];exact DF
   ·rw[Ab hs] at Le;cases Le
  ·cases h
structure Pj{κ:Type}(enc:κ->Ap)(ks:List (Option IntKind)):Prop where
 kinds: ∀a,AllK ks (enc a)
 inj: ∀a b,enc a=enc b->a=b
variable[DecidableEq κ]{enc:κ->Ap}{ks:List (Option IntKind)}{a:κ}{es:List (Hf κ)}
theorem Kt{Q:Unit->Ad->Prop}{empty:Bool}(h:vX P kt=some ks)(he:Pj enc ks):sl P (Instr.checkKey empty 10000 kt (.agg (toArray (enc a)))) l Q<->Q () l:=by obtain⟨h1,_,h3⟩:=N5 h;have:=ae (empty:=empty) 20 10000 kt ks h3 AZ (enc a) (he.kinds a) Q l;unfold IL at this;rw[h1] at this;exact this
theorem f9{Q:Bool->Ad->Prop}(h:vX P kt=some ks)(he:Pj enc ks)(a b:κ):sl P (Op.equal kt (.agg (toArray (enc a))) (.agg (toArray (enc b)))) l Q<->Q (decide (a=b)) l:=by
 obtain⟨h1,_,h3⟩:=N5 h;have:=Wv 20 Op.maxDepth kt ks h3 AZ (enc a) (enc b) (he.kinds a) (he.kinds b) Q l;unfold IL at this;rw[h1] at this;have e:BZ (enc a) (enc b)=decide (a=b):=by
  by_cases yi:a=b
  ·rw[Av yi];exact(GD (he.kinds a) (he.kinds b)).2 (by rw[yi])
  ·rw[Ax yi];cases hc:BZ (enc a) (enc b) with
   |false=>rfl
   |true=>exact absurd (he.inj a b ((GD (he.kinds a) (he.kinds b)).1 hc)) yi
 rw[e] at this;exact this
theorem Pk{Q:Option (Nat×Value)->Ad->Prop}(h:vX P kt=some ks)(he:Pj enc ks)(a:κ): ∀(es:List (Hf κ)) (i:Nat),sl P (Instr.findAsking kt (.agg (toArray (enc a))) (es.map (N6 enc)) i) l Q<->Q (EZ a es i) l
 |[],i=>DF
 |e::es,i=>by
  rw[AJ];unfold Instr.findAsking;simp only[N6];rw[AC,f9 h he,EZ];by_cases hc:a=e.1
  ·rw[Av hc,Ac hc];exact DF
  ·rw[Ax hc,Ab hc];exact Pk h he a es (i+1)
theorem LA{Q:Option (Nat×Value)->Ad->Prop}(h:vX P kt=some ks)(he:Pj enc ks):sl P (Instr.findKey kt (.agg (toArray (enc a))) (es.map (N6 enc))) l Q<->Q (EZ a es 0) l:=by
 obtain⟨h1,_,_⟩:=N5 h;unfold Instr.findKey;unfold Lj at h1;cases hu:P.underlying kt with
 |none=>rw[hu] at h1;cases h1
 |some td=>
  rw[Cc hu];cases es with
  |nil=>exact DF
  |cons e es=>
   have hn:Instr.findNow td (.agg (toArray (enc a))) ((e::es).map (N6 enc)) 0=none:=by rw[AJ];unfold Instr.findNow;rw[hu] at h1;cases td<;>first|rfl|cases h1
   rw[hn];exact Pk h he a (e::es) 0
theorem ga{zv:Value}(hx:ev fr x=some (.map (some m)))(hy:ev fr y=some (.agg (toArray (enc a))))[c:MT P T kt et][ci:EQ P kt ks][cz:ZO P et zv](he:Pj enc ks)(hm:(m,Ic enc es clock)∈R):OpQ P ro N fr R ⟨d,.lookup T x y false,ty,pos,aft,g⟩ ((HQ a es).getD zv):=BM rfl λρ l hρ hR=>by
 simp only[execOp,hρ x _ hx,hρ y _ hy,AC];unfold Instr.lookup;rw[Cc (Jc c.out)];simp only[AC];refine⟨_,hR _ hm,rfl,?_⟩;simp only[Bn,FC,AC];rw[Kt ci.out he,LA ci.out he];unfold HQ;cases h:EZ a es 0 with
 |none=>simp only[AC];rw[Wu cz.out];exact⟨rfl,rfl⟩
 |some p=>exact⟨rfl,rfl⟩
theorem PA: ∀{ks:List (Option IntKind)} {a:Ap} (n:Nat),AllK ks a->(a.zip a).all (λp=>Instr.sameBits (n+1) p.1 p.2)=true
 |[],a,n,h=>by cases h;rfl
 |none::ks,a,n,h=>by obtain⟨c,r,rfl,⟨p,rfl⟩,h2⟩:=h;rw[List.zip_cons_cons,Ij,PA n h2];simp[Instr.sameBits]
 |some k::ks,a,n,h=>by obtain⟨c,r,rfl,⟨p,rfl⟩,h2⟩:=h;rw[List.zip_cons_cons,Ij,PA n h2];simp[Instr.sameBits]
theorem P6{Q:Value->Ad->Prop}(he:Pj enc ks):sl P (Instr.keyThatStays (.agg (toArray (enc a))) (.agg (toArray (enc a)))) l Q<->Q (.agg (toArray (enc a))) l:=by
 unfold Instr.keyThatStays;have h:Instr.sameBits 10000 (.agg (toArray (enc a))) (.agg (toArray (enc a)))=true:=by unfold Instr.sameBits;simp only[beq_self_eq_true,Bu];exact PA 9998 (he.kinds a)
 rw[Ac h];exact DF
theorem Ya(A B:List (Hf κ))(e:Hf κ)(v:Value):(toArray ((A++e::B).map (N6 enc))).modify A.length (λx=>{key:= .agg (toArray (enc e.1)),val:=v,born:=x.born})=toArray ((A++(e.1,v,e.2.2)::B).map (N6 enc)):=by apply BU.1;rw[Ib];simp only[Aq,AJ];have:=Hu (λx:MapEntry=>{key:= .agg (toArray (enc e.1)),val:=v,born:=x.born}) (N6 enc e) (B.map (N6 enc)) (A.map (N6 enc));rw[A7] at this;rw[this];rfl
theorem P7(hx:ev fr x=some (.map (some m)))(hy:ev fr y=some (.agg (toArray (enc a))))(hz:ev fr z=some v)[c:MT P T kt et][ci:EQ P kt ks](he:Pj enc ks)(hu:Upd l m (Ic enc es clock) (Ic enc (Lk a v clock es).1 (Lk a v clock es).2) l'):
 OpE P ro N fr l ⟨d,.mapUpdate T x y z,ty,pos,aft,g⟩ (λv' l2=>v'=undef/\l2=l'):=DM rfl λρ hρ=>by
 simp only[execOp,hρ x _ hx,hρ y _ hy,hρ z _ hz];rw[AC];unfold Instr.mapUpdate;rw[Cc (Jc c.out)];simp only[AC];refine⟨_,hu.mem,rfl,?_⟩;simp only[Bn,FC,AC];rw[Kt ci.out he,LA ci.out he];unfold Lk at hu;cases h:EZ a es 0 with
 |none=>
  rw[h] at hu;simp only at hu⊢;refine⟨Ic enc es clock,l',?_,rfl,⟨rfl,rfl⟩⟩;have e:(toArray (es.map (N6 enc))).push {key:= .agg (toArray (enc a)),val:=v,born:=clock}=toArray ((es++[(a,v,clock)]).map (N6 enc)):=by simp[N6]
  rw[e];exact hu
 |some p=>
  obtain⟨i,u⟩:=p;rw[h] at hu;simp only at hu⊢;obtain⟨A,e,B,rfl,rfl,h1,h2,h3⟩:=Hv h;subst h1;have hk:(((toArray ((A++e::B).map (N6 enc)))[A.length]?).map (·.key)).getD (.agg (toArray (enc e.1)))= .agg (toArray (enc e.1)):=by simp[N6]
  simp only[AC];rw[hk,P6 he];refine⟨Ic enc (A++e::B) clock,l',?_,rfl,⟨rfl,rfl⟩⟩;rw[Ya,<-Hu (λx=>(x.1,v,x.2.2)) e B A];exact hu
theorem Vp{T2:TypeId}(hx:ev fr x=some (.map (some m)))(hy:ev fr y=some (.agg (toArray (enc a))))[c:MT P T kt et][ci:EQ P kt ks](he:Pj enc ks)(hu:Upd l m (Ic enc es clock) (Ic enc (Pc a es) clock) l'):
 OpE P ro N fr l ⟨d,.call {callee:= .builtin .delete,args:=#[x,y],argTypes:=#[T,T2]},ty,pos,aft,g⟩ (λv' l2=>v'= .tuple #[]/\l2=l'):=DM rfl λρ hρ=>by
 simp only[execOp,resolve,AC,Bn,invoke,builtin,Dj,AJ,CQ,hρ x _ hx,hρ y _ hy];unfold Builtin.delete_;simp only[AF,Da,C9,AC];rw[E0 (Jc c.out)];simp only[AC];refine⟨_,hu.mem,rfl,?_⟩;simp only[Bn,FC,AC];rw[Kt ci.out he,LA ci.out he];unfold Pc at hu;cases h:EZ a es 0 with
 |none=>rw[h] at hu;exact⟨Ic enc es clock,l',hu,rfl,⟨rfl,rfl⟩⟩
 |some p=>
  obtain⟨i,u⟩:=p;rw[h] at hu;refine⟨Ic enc es clock,l',?_,rfl,⟨rfl,rfl⟩⟩;have e:(toArray (es.map (N6 enc))).eraseIdxIfInBounds i=toArray ((es.eraseIdx i).map (N6 enc)):=by apply BU.1;simp only[Jo];rw[Dp,Dp,Aq,G4,List.map_drop]
  rw[e];exact hu
theorem Rs{A B:List (Hf κ)}{e:Hf κ}{l':Ad}(hx:ev fr x=some (.map (some m)))(hy:ev fr y=some (.agg (toArray (enc a))))[c:MT P T kt et][ci:EQ P kt ks](he:Pj enc ks)(s9:es=A++e::B)(h1:e.1=a)(h3: ∀x∈A,x.1≠a)(hm:(m,Ic enc es clock)∈l):
 OpE P ro N fr l ⟨d,.mapEntry T x y,ty,pos,aft,g⟩ (λv' l2=>v'= .tuple #[e.2.1,.int .i64 e.2.2]/\l2=l):=DM rfl λρ hρ=>by
 subst h1 s9;simp only[execOp,hρ x _ hx,hρ y _ hy,AC];unfold Instr.mapEntry;rw[Cc (Jc c.out)];simp only[AC];refine⟨_,hm,rfl,?_⟩;simp only[Bn,FC,AC];have hf:EZ e.1 (A++e::B) 0=some (A.length,e.2.1):=by
  have: ∀(A:List (Hf κ)) (i:Nat),(∀x∈A,x.1≠e.1)->EZ e.1 (A++e::B) i=some (i+A.length,e.2.1):=by
   intro A
   induction A with
   |nil=>intro i _;rw[Ag,EZ,Ac rfl];rfl
   |cons z A ih=>intro i hA;rw[Ae,EZ,Ab (λh=>hA z Ak h.symm),ih (i+1) λx hx=>hA x (An _ hx),BC];congr 2;omega
  rw[this A 0 h3,BE]
 rw[Kt ci.out he,LA ci.out he,hf];have hk:(((toArray ((A++e::B).map (N6 enc)))[A.length]?).map (·.key)).getD (.agg (toArray (enc e.1)))= .agg (toArray (enc e.1)):=by simp[N6]
 have hb:(((toArray ((A++e::B).map (N6 enc)))[A.length]?).map (λx=>(x.born:Int))).getD 0=(e.2.2:Int):=by simp[N6]
 simp only[AC];rw[hk,P6 he];obtain⟨l2,Lf⟩: ∃l2,Upd l m (Ic enc (A++e::B) clock) (Ic enc (A++e::B) clock) l2:=by
  clear hρ
  induction l with
  |nil=>cases hm
  |cons c l ih=>
   by_cases hc:c=(m,Ic enc (A++e::B) clock)
   ·subst hc;exact⟨_,.here⟩
   ·rcases At.1 hm with h|h
    ·exact absurd h.symm hc
    ·obtain⟨l2,h2⟩:=ih h;exact⟨_,.there h2⟩
 refine⟨Ic enc (A++e::B) clock,l,?_,rfl,?_⟩
 ·have e2:(toArray ((A++e::B).map (N6 enc))).modify A.length (λx=>{key:= .agg (toArray (enc e.1)),val:=x.val,born:=x.born})=toArray ((A++e::B).map (N6 enc)):=by
   apply BU.1;rw[Ib];simp only[Aq,AJ];have:=Hu (λx:MapEntry=>{key:= .agg (toArray (enc e.1)),val:=x.val,born:=x.born}) (N6 enc e) (B.map (N6 enc)) (A.map (N6 enc));rw[A7] at this;rw[this];rfl
  rw[e2];have:=Lf.same;subst this;exact Lf
 ·simp only[Bn,FC];refine⟨?_,rfl⟩;show Value.tuple _=_;congr 3
  first|exact BO goInt hb|(unfold goInt;rw[<-hb])
theorem Pm{A B:List (Hf κ)}{e:Hf κ}(hx:ev fr x=some (.map (some m)))(hy:ev fr y=some (.int .i64 (e.2.2:Nat)))(hz:ev fr z=some v)(s9:es=A++e::B)(h3: ∀x∈A,x.2.2≠e.2.2)(hu:Upd l m (Ic enc es clock) (Ic enc (A++(e.1,v,e.2.2)::B) clock) l'):
 OpE P ro N fr l ⟨d,.entryStore T x y z,ty,pos,aft,g⟩ (λv' l2=>v'=undef/\l2=l'):=DM rfl λρ hρ=>by
 subst s9;simp only[execOp,hρ x _ hx,hρ y _ hy,hρ z _ hz];rw[AC];unfold Instr.entryStore;simp only[AC];refine⟨_,hu.mem,rfl,?_⟩;simp only[Bn,FC,AC,asInt,asIntOf];have hf:(toArray ((A++e::B).map (N6 enc))).findIdx? (λx=>(x.born:Int)==(e.2.2:Int))=some A.length:=by
  rw[List.findIdx?_toArray];clear hu hρ
  induction A with
  |nil=>simp[N6,List.findIdx?_cons]
  |cons z A ih=>
   have hz:¬z.2.2=e.2.2:=h3 z Ak;rw[Ae,AJ,List.findIdx?_cons,ih λx hx=>h3 x (An _ hx)];have:(((N6 enc z).born:Int)==(e.2.2:Int))=false:=by simp[N6];omega
   rw[this];rfl
 rw[hf];refine⟨Ic enc (A++e::B) clock,l',?_,rfl,⟨rfl,rfl⟩⟩;have e2:(toArray ((A++e::B).map (N6 enc))).modify A.length (λx=>{key:=x.key,val:=v,born:=x.born})=toArray ((A++(e.1,v,e.2.2)::B).map (N6 enc)):=by apply BU.1;rw[Ib];simp only[Aq,AJ];have:=Hu (λx:MapEntry=>{key:=x.key,val:=v,born:=x.born}) (N6 enc e) (B.map (N6 enc)) (A.map (N6 enc));rw[A7] at this;rw[this];rfl
 rw[e2];exact hu
end
section
variable{pl:List BH}{fr:Fr}{i:Nat}
end
theorem C5{c:Bg}(h:c∈l): ∀x,x∈[c]->x∈l:=λx hx=>by rw[AE.1 hx];exact h
theorem Keep.in_mid(A B C:Ad):Keep (A++(B++C)) (B++(A++C)):=Keep.of_perm (Az A B C)
theorem Jd{α β:Type}{f:α->β}: ∀{l:List α},(l.map f).Nodup->l.Nodup
 |[],_=>List.nodup_nil
 |x::l,h=>by rw[AJ,AP] at h;exact AP.2 ⟨λhx=>h.1 (Au.2 ⟨x,hx,rfl⟩),Jd h.2⟩
theorem N7{α β:Type}{f:α->β}: ∀{l:List α} {x y:α},(l.map f).Nodup->x∈l->y∈l->f x=f y->x=y
 |[],_,_,_,h,_,_=>by cases h
 |z::l,x,y,h,hx,hy,e=>by
  rw[AJ,AP] at h;rcases At.1 hx with h1|h1<;>rcases At.1 hy with h2|h2
  ·rw[h1,h2]
  ·exact absurd (Au.2 ⟨y,h2,by rw[<-e,h1]⟩) h.1
  ·exact absurd (Au.2 ⟨x,h1,by rw[e,h2]⟩) h.1
  ·exact N7 h.2 h1 h2 e
section
variable{fr:Fr}{d:Option Nat}{aft:Array Edge}{k k':IntKind}{i:Int}
theorem tQ(hx:ev fr x=some (.int k i))(hy:ev fr y=some (.int k' (n:Nat)))(hn:n<=k.bits):OpQ P ro N fr R ⟨d,.binOp .shr t x y t2,ty,pos,aft,g⟩ (.int k (i/2^n)):=
 IK hx hy (λ_ _=>Db _ _ _ _ _) (by
  have h1:¬((n:Nat):Int)<0:=by omega
  have h2:i.fdiv (2^n)=i/2^n:=Int.fdiv_eq_ediv_of_nonneg _ (by have:(0:Int)<=((2^n:Nat):Int):=Int.natCast_nonneg _;simpa using this);simp only[binOp,Op.shift,Ab h1,AY,ES hn,h2])
theorem Tj(hx:ev fr x=some (.int k i))(hy:ev fr y=some (.int k' (n:Nat)))(hn:n<=k.bits):OpQ P ro N fr R ⟨d,.binOp .shl t x y t2,ty,pos,aft,g⟩ (.int k (k.wrap (i*2^n))):=
 IK hx hy (λ_ _=>Db _ _ _ _ _) (by
  have h1:¬((n:Nat):Int)<0:=by omega
  simp only[binOp,Op.shift,Ab h1,AY,ES hn])
theorem Vq(h:a<18446744073709551616):IntKind.u64.wrap (a:Int)=(a:Int):=by simp[IntKind.wrap,IntKind.signed,IntKind.bits];omega
theorem tS(hx:ev fr x=some (.int .u64 (a:Nat)))(hy:ev fr y=some (.int .u64 (b:Nat)))(ha:a<18446744073709551616)(hb:b<18446744073709551616):OpQ P ro N fr R ⟨d,.binOp .and t x y t2,ty,pos,aft,g⟩ (.int .u64 ((a&&& b:Nat):Int)):=
 IK hx hy (λ_ _=>Db _ _ _ _ _) (by
  have e1:(BitVec.ofInt IntKind.u64.bits ((a:Nat):Int)).toNat=a:=by show(BitVec.ofInt 64 ((a:Nat):Int)).toNat=a;rw[D4,Eu,Dx ha]
  have e2:(BitVec.ofInt IntKind.u64.bits ((b:Nat):Int)).toNat=b:=by show(BitVec.ofInt 64 ((b:Nat):Int)).toNat=b;rw[D4,Eu,Dx hb]
  simp only[binOp,Op.intBits,Mf,e1,e2];rw[Vq (Et Ka ha)];rfl)
theorem Vr{zv:Value}{k:Nat}(za:zv.cells=toArray zs)(RN:zs.length=k)(hk:0<n*k):(Array.range (n*k)).map (λj=>zv.cells[j%zv.cells.size]!)=toArray (List.replicate n zs).flatten:=by
 have hk0:0<k:=KI λe=>by subst e;simp at hk
 apply BU.1;apply Dl;intro j;rw[za];have hl:(List.replicate n zs).flatten.length=n*k:=by simp[RN]
 by_cases hj:j<n*k
 ·have:(List.replicate n zs).flatten[j]?=zs[j%k]?:=by
   clear hl hk hk0
   induction n generalizing j with
   |zero=>omega
   |succ n ih=>
    rw[BJ,Cv];by_cases jF:j<k
    ·rw[AB Af,Dx jF]
    ·rw[AN Af,RN,ih (j-k) (by have:=F5 n k;simp only[Km] at this;omega),<-KJ Af]
  simp only[Me,KL,A5,Fh hj,BQ];rw[this];have Dc:j%k<zs.length:=by rw[RN];exact Hi _ hk0
  simp[RN,Al Dc,Gt]
 ·rw[Bf (by simp;omega),Bf (by rw[hl];omega)]
theorem Ga{T kk yb:Nat}{xs:Ap}(hx:ev fr x=some (.int .i64 (n:Nat)))[c:ST P T e kk yb][cz:ZV P e zs](RN:zs.length=kk)(hk:0<n*kk)(hn:n<=1000000)(cI:yb<=1000)(QX:xs=(List.replicate n zs).flatten):
 OpE P ro N fr l ⟨d,.makeSlice T x x,ty,pos,aft,g⟩ (λv' l'=> ∃b,(∀c,c∈l->c.1≠b)/\v'= .slice (some ⟨b,0,none⟩) n n/\l'=(b,.cells (toArray xs) e (0,0))::l):=DM rfl λρ hρ=>by
 subst QX;obtain⟨Hp,u1,u2,u3,u4⟩:=E7 c.out;obtain⟨uQ,zv,z1,z2,z3⟩:=J0 cz.out;rw[u2] at z1;cases z1;simp only[execOp,hρ x _ hx];unfold Instr.makeSlice;rw[AC,Cc u1];have hw:IntKind.i64.wrap ((n:Nat):Int)=n:=vQ _ ⟨Af,Af⟩;have hb:Hp.bytes*n<=1000000000:=by rw[u4];exact BY (I4 cI hn) Af
 have Wf:((Hp.bytes:Nat):Int)*((n:Nat):Int)<=1000000000:=by rw[<-Kb];omega
 simp only[asInt,asIntOf,pure_bind,hw];rw[JN u2];have ht:(decide (((n:Nat):Int)<0)||decide (((Hp.bytes:Nat):Int)*((n:Nat):Int)>2^48))=false:=by rw[Ax Af,Ax Af];rfl
 simp only[ht,LR];rw[show(decide (((n:Nat):Int)<0)||decide (((n:Nat):Int)>((n:Nat):Int)))=false by rw[Ax Af,Ax Af];rfl];simp only[Bl,C3,AY];unfold askRoom roomBytes;have hr:n*Hp.bytes<=1000000000:=by rw[MH];exact hb
 rw[Ab Af,AC,Bn,Fe u2,u3];have jy:¬n*kk=0:=by omega
 simp only[jy,C3,zeroValue,AC];rw[<-AC,JN u2,z2];simp only[Bn];have za:zv.cells=toArray zs:=by rw[<-z3]
 rw[Vr za RN hk];simp only[newRow,AC];intro b hb;exact⟨b,hb,rfl,rfl⟩
end
theorem Tk(vs:Ap): ∀(cs:Array Value) (off k:Nat),(C8 cs off vs)[k]?=if off<=k/\k<off+vs.length/\k<cs.size then vs[k-off]? else cs[k]?:=by
 induction vs with
 |nil=>intro cs off k;rw[Ab (by simp;omega)];rfl
 |cons v r ih=>
  intro cs off k;show(C8 (cs.setIfInBounds off v) (off+1) r)[k]?=_;rw[ih,Array.size_setIfInBounds];by_cases h1:off+1<=k/\k<off+1+r.length/\k<cs.size
  ·rw[Ac h1,Ac (by simp;omega),show k-off=(k-(off+1))+1 by omega];rfl
  ·rw[Ab h1,Array.getElem?_setIfInBounds];by_cases h2:off=k
   ·subst h2;rw[Ac rfl];by_cases h3:off<cs.size
    ·rw[Ac h3,Ac (by simp;omega),DR];rfl
    ·rw[Ab h3,Ab Af,Fj Af]
   ·rw[Ab h2,Ab (by simp;omega)]
section
def tT(os:List Oper)(tbl:List (List Nat))(L:List (Nat×Nat))(plan1 Mj:List (Nat×Bool))(i j:Nat)(fC fB:Sw):Bool:=
 ((Is os plan1).tail.all λy=>!L.contains (i,y.1)||y.1==j||(Is os plan1).tail.any λz=>FQ tbl y.1 z.1)&&Gq os.toArray tbl fC (Is os plan1).tail&&UT fC (Is os plan1).tail&&Gq os.toArray tbl fB (Is os Mj).tail&&UT fB (Is os Mj).tail&&plan1.head?==some (i,false)&&Mj.head?==some (j,false)&&i !=j
theorem Tl{os:List Oper}{fr:Fr}{L:List (Nat×Nat)}{oj:Oper}{A0 rj:List BH}{K':Value->Ad->Prop}(plan1 Mj:List (Nat×Bool))(i j:Nat)(fC fB:Sw)(h1:Attach os plan1 ((i,false,o)::A0))(h2:Attach os Mj ((j,false,oj)::rj))(hp:((j,false,oj)::rj).Perm ((i,false,o)::A0))(Dm:tT os tbl L plan1 Mj i j fC fB=true)
 (ho:OpE P ro N fr l o K)(hg:Rr os.toArray fr o.guard=some true)(hd:JY N o.dst=true)(hR: ∀v l',K v l'->(∀c,c∈R->c∈l'))(hS: ∀v l',K v l'-> ∀x,x∈sp->FQ tbl i x.1=false-> ∀c,c∈x.2->c∈l')
 (cJ:OpE P ro N fr l oj K')(y8:Rr os.toArray fr oj.guard=some true)(pF:JY N oj.dst=true)(hR': ∀v l',K' v l'->(∀c,c∈R->c∈l'))(jG: ∀v l',K' v l'-> ∀x,x∈sp->FQ tbl j x.1=false-> ∀c,c∈x.2->c∈l')
 (hk0: ∀v l',K v l'->PlanS P ro N E os.toArray Q R tbl fC sp A0 (Il o.dst v fr) ds l')(uU: ∀v l',K' v l'->PlanS P ro N E os.toArray Q R tbl fB sp rj (Il oj.dst v fr) ds l'):PlanS P ro N E os.toArray Q R tbl (some L) sp ((i,false,o)::A0) fr ds l:=by
 unfold tT at Dm;rw[h1.fun_eq,h2.fun_eq] at Dm;simp only[AW,Pv,ne_eq,I5,A3,Ep,Ef,Jz,HJ] at Dm;obtain⟨⟨⟨⟨⟨⟨⟨p1,p2⟩,p3⟩,p4⟩,p5⟩,_⟩,_⟩,Wc⟩:=Dm;have hj: ∀k,Pb tbl (some L) i A0 k->k=i\/k=j:=λk hk=>by
  rcases hk with h|⟨h,h3,y,hy,rfl⟩
  ·exact .inl h
  ·rcases p1 y hy with(h4|h4)|⟨z,hz,h4⟩
   ·simp only[Pa] at h;rw[h] at h4;cases h4
   ·exact .inr h4
   ·rw[h3 z hz] at h4;cases h4
 refine .alt (λk=>if k=i then o else oj) (λk=>if k=i then K else K') (λk=>if k=i then A0 else rj) (λk=>if k=i then fC else fB) (λk hk=>?_) (λk hk=>?_) (λk hk=>?_) λk hk=>?_;all_goals rcases hj k hk with h|h
 ·subst h;simp only[C6];exact⟨.refl _,p2,p3⟩
 ·subst h;simp only[Ab (FG Wc)];exact⟨hp,p4,p5⟩
 ·subst h;simp only[C6];exact⟨ho,hg,hd⟩
 ·subst h;simp only[Ab (FG Wc)];exact⟨cJ,y8,pF⟩
 ·subst h;simp only[C6];exact λv l' k=>⟨hR v l' k,hS v l' k⟩
 ·subst h;simp only[Ab (FG Wc)];exact λv l' k=>⟨hR' v l' k,jG v l' k⟩
 ·subst h;simp only[C6];exact hk0
 ·subst h;simp only[Ab (FG Wc)];exact uU
variable{fr:Fr}{aft:Array Edge}{off:Nat}
end
section
end
end Go.Proofs.YtlifcingifodfaaGreat
