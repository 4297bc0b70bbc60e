/- Laws that the statement's proof leans on (joined out of several texts). -/
import Derived.Test.YtlifcingifodfaaGreatGc48
set_option maxHeartbeats 4000000
set_option linter.unusedVariables false
set_option linter.unusedSimpArgs false
namespace Go.Proofs.YtlifcingifodfaaGreat
open Tryz
open List(toArray)
open Go.RowKit
set_option maxRecDepth 20000
variable{F C k b N:Nat}{S:KT}{p:RP}{s:RL}{G l:Ad}{P:Program}{ro:Option Nat}{E:World}{ds:List Deferred}{α:Type}{e:Pf}
theorem xT{c:OG}(hc:CL c)(h0:(BV c).2=0):OB (BV c).1:=by obtain⟨L,hL,PU,PQ,ZC,hg,_⟩:=ol h0;refine⟨(uD hc).2.2,λ_=>⟨PQ,ZC⟩,λh=>?_⟩;rw[<-PU,h] at hL;obtain rfl:[SH 1,Xd (some 4) 0 2,SH 2]=L:=AX hL;obtain⟨_,_,h1,h2,h3⟩:=hg 1 _ rfl;rw[<-PU,h] at h1;have e:IQ (iU 19 (BV c).1) (iW 19 (BV c).1) (Xd (some 4) 0 2)=(BV c).1.n0:=rfl;rw[e] at h1;rw[h1];exact⟨h2,h3⟩
def ordE(S:KT)(t:Int)(o:IY)(x y:Ck):(List Ii×Int)×KT:=match Nq S t o x with
 |some r=>r
 |none=>if(Kq S t o x y).1=0 then(([Np t],0),(Kq S t o x y).2) else(([],(Kq S t o x y).1),(Kq S t o x y).2)
def Ng(S:KT)(t:Int)(o:IY):(List Ii×Int)×KT:=
 if Ps S t=false\/¬(DW S t).st=1 then(([],2),S)
 else if(HX o.op).1=true/\¬(HV S t o.a).2=0 then(([],(HV S t o.a).2),S)
 else if(HX o.op).2=true/\¬(HV S t o.b).2=0 then(([],(HV S t o.b).2),S)
 else ordE S t o (if(HX o.op).1=true then(HV S t o.a).1 else(0,0)) (if(HX o.op).2=true then(HV S t o.b).1 else(0,0))
section
theorem sK(hK:IsK F C (k+8) S p s)(kb:Nat)(hk:Pt kb b∈G)(t:Int)(c:OG)(hc:CL c)(h0:(BV c).2=0):Fn prog 107 [pV kb,.int .i64 t,orV (BV c).1] (Aw b p s S G) (KN F C b p k (Ng S t (BV c).1).1.1 (Ng S t (BV c).1).1.2 (Ng S t (BV c).1).2 G):=by
 have mr:CD b p∈Aw b p s S G:=mR λ_ h=>h;have mk:Pt kb b∈Aw b p s S G:=mG (λ_ h=>h) _ hk;have fG:=xT hc h0;obtain⟨⟨_,ha⟩,⟨_,hb⟩,_⟩:=uD hc;have zM:=λl=>bZ c hc h0 l;obtain⟨o,ho⟩: ∃o,(BV c).1=o:=⟨_,rfl⟩
 simp only[ho] at fG ha hb zM⊢;obtain⟨R,hR⟩: ∃R,Ng S t o=R:=⟨_,rfl⟩
 rw[hR];unfold Ng at hR;refine AO func107 ntmps107 λE=>?_;refine AQ λb5=>?_;refine EI ?_;refine Aj ?_;refine EI ?_;obtain⟨u,hu⟩: ∃u,DW S t=u:=⟨_,rfl⟩
 obtain⟨ok,Dm⟩: ∃k,Ps S t=k:=⟨_,rfl⟩
 rw[Dm,hu] at hR;try rw[hu,show(Th.findH S.T t).isSome=ok from Dm]
 refine AQ λb8=>?_;refine Be (AL (vs:=[orV o]) rfl rfl λl2 _=>zM l2) ?_;refine AQ λGX=>?_;have ad1:AD o.a:=⟨ha⟩
 have ad2:AD o.b:=⟨hb⟩
 cases ok with
 |false=>rw[Ac (.inl rfl)] at hR;subst hR;refine Aj ?_;exact FZ
 |true=>
 by_cases h1:u.st=1
 case neg=>rw[Ac (.inr h1)] at hR;subst hR;refine Aj ?_;exact FZ
 rw[Ab (by simp[h1])] at hR;refine Aj ?_;refine Cx (Cr [7,8] 0 9) ?_;refine CC ?_;refine Id e_alloc (by rintro _ _ ⟨_,_,_,rfl⟩ c hc;exact .tail _ hc) ?_;rintro _ _ ⟨SP,_,rfl,rfl⟩;refine CC ?_;refine Aj ?_;refine EI ?_;obtain⟨⟨p1,p2⟩,hp⟩: ∃q,HX o.op=q:=⟨_,rfl⟩
 rw[hp] at hR;try rw[hp]
 dsimp only at hR;simp only[AM,AK,AS];refine Aj ?_;obtain⟨x,hx⟩: ∃x,(if p1=true then(HV S t o.a).1 else(0,0))=x:=⟨_,rfl⟩
 obtain⟨y,hy⟩: ∃y,(if p2=true then(HV S t o.b).1 else(0,0))=y:=⟨_,rfl⟩
 rw[hx,hy] at hR;by_cases zH:p1=true/\¬(HV S t o.a).2=0
 ·rw[Ac zH] at hR;subst hR;obtain⟨rfl,yw⟩:=zH;refine Aj ?_;refine Cx (Cr [12] 0 14) ?_;refine CC ?_;simp only[AM,AK,AS];refine Aj ?_;exact FZ
 rw[Ab zH] at hR;refine RJ (α:=Unit) (λ_=>[(0,pV kb),(1,iV t),(5,pV b5),(12,pV SP),(14,.bool p2)]) (λ_=>Xy SP b t o x (0,0)::If b5 o::Aw b p s S G) (λ_=>True) ?_ ?_
 ·cases p1 with
  |false=>rw[Ab AZ] at hx;subst hx;refine Aj ?_;exact EG () trivial ⟨rfl,rfl,rfl,rfl,rfl,trivial⟩ (by exact AU)
  |true=>
   have yw:(HV S t o.a).2=0:=by simpa using zH
   rw[Ac rfl] at hx;refine Aj ?_;refine Cx (Cr [12] 0 14) ?_;refine CC ?_;simp only[AM,AK,AS];rw[yw];subst hx;refine Aj ?_;exact EG () trivial ⟨rfl,rfl,rfl,rfl,rfl,trivial⟩ (by exact AU)
 rintro- -;by_cases hf3:p2=true/\¬(HV S t o.b).2=0
 ·rw[Ac hf3] at hR;subst hR;obtain⟨rfl,yw⟩:=hf3;refine Aj ?_;refine Cx (Cr [12] 0 14) ?_;refine CC ?_;simp only[AM,AK,AS];refine Aj ?_;exact FZ
 rw[Ab hf3] at hR;refine Aj ?_;refine RJ (α:=Unit) (λ_=>[(0,pV kb),(1,iV t),(12,pV SP)]) (λ_=>Xy SP b t o x y::Aw b p s S G) (λ_=>True) ?_ ?_
 ·cases p2 with
  |false=>rw[Ab AZ] at hy;subst hy;refine Aj ?_;exact EG () trivial ⟨rfl,rfl,rfl,trivial⟩ (by exact AU)
  |true=>
   have yw:(HV S t o.b).2=0:=by simpa using hf3
   rw[Ac rfl] at hy;refine Aj ?_;refine Cx (Cr [12] 0 14) ?_;refine CC ?_;simp only[AM,AK,AS];rw[yw];subst hy;refine Aj ?_;exact EG () trivial ⟨rfl,rfl,rfl,trivial⟩ (by exact AU)
 rintro- -;refine Aj ?_;refine Bq (.of_perm (Fi b p s S [Xy SP b t o x y] G)) ?_;refine AR (AA (vs:=[OD b t o x y]) rfl rfl (xG (k:=k+6) hK t o x y)) ?_;unfold ordE at hR;cases hsy:Nq S t o x with
 |some r=>rw[hsy] at hR;dsimp only at hR;subst hR;rintro _ _ ⟨sl,cs,s1,L1,rfl,Gh,Ey,DL,rfl⟩;obtain⟨L2,PR,QN⟩:=Hc (b:=b) (p:=p) (s:=s1) (S:=r.2) DL;refine Aj ?_;exact AV (vs:=[sl,iV r.1.2]) [] _ rfl .refl (by exact Ba) (.trans (.of_perm (QN.append_left cs)) SG) ⟨sl,cs,s1,L2,rfl,Gh,Ey.mono Af,PR,rfl⟩
 |none=>
  rw[hsy] at hR;dsimp only at hR;rintro _ _ ⟨rfl,s1,L1,Ey,DL,rfl⟩;obtain⟨L2,PR,QN⟩:=Hc (b:=b) (p:=p) (s:=s1) (S:=S) DL;refine Bq (.of_perm QN) ?_;rw[Ci];have GI:CD b p∈Aw b p s1 S L2:=mR λ_ h=>h;have ek:EK prog F C b p 161 [OD b t o x y] (k+8) S k (iV (Kq S t o x y).1) (Kq S t o x y).2:=⟨λs G h=>xM h t o x y fG⟩
  refine Aj ?_;refine Gc ?_;intro S2 s2 L3 hS2 FT FL HP;rw[<-hS2] at hR;refine Aj ?_;by_cases h9:(Kq S t o x y).1=0
  case neg=>rw[Ab h9] at hR;subst hR;refine Aj ?_;exact FZ
  rw[Ac h9] at hR;subst hR;refine Aj ?_;refine AR (FB (ws:=R2 (Np t)) (k:=12) rfl rfl rfl AZ AZ) ?_;rintro _ _ ⟨bn,_,rfl,rfl⟩;refine Aj ?_;exact AV [] _ rfl .refl (by exact Ba) (l':=[U4 bn (Np t)]++Aw b p s2 S2 L3) (by exact AU) ⟨_,_,s2,L3,rfl,⟨rfl,.inr ⟨bn,1,[],rfl,rfl,Bd _,by unfold maxLen;omega,rfl⟩⟩,FT,FL.trans PR,rfl⟩
end
class jw(e:Pf):Prop where
 cl:CL e.cl
 va:K6 e.va
 vl:K6 e.vl
abbrev Zm(t co:Int):Ii:=⟨t,co,0,yS,0,false,0,0,false⟩
def UA(S:KT)(t:Int)(c:OG):(List Ii×Int)×KT:=
 if(BV c).2=0 then(if(Ng S t (BV c).1).1.2=0 then(((Ng S t (BV c).1).1.1,0),(Ng S t (BV c).1).2) else(([Zm t (Ng S t (BV c).1).1.2],0),(Ng S t (BV c).1).2))
 else(([Zm t (BV c).2],0),S)
def OI(S:KT)(e:Pf):(List Ii×Int)×KT:=
 if e.co<0\/(S.K.length:Int)<=e.co then(([],3),S)
 else if Ps S (LZ S.U e.co)=false then(([],19),S)
 else if(DW S (LZ S.U e.co)).hs=true then U5 S e.co
 else if e.kd=3 then R6 S e.co ⟨false,false,e.va,0⟩
 else if e.kd=4 then R6 S e.co ⟨false,true,e.va,e.vl⟩
 else UA S (DW S (LZ S.U e.co)).id e.cl
abbrev PN(B:Nat)(e:Pf):Bg:=(B,.cells (toArray (bT e)) 39 (0,0))
def iX(e:Pf):Nat:=if e.kd=3\/e.kd=4 then 2 else 8
section
section
variable{ops:Array Oper}{Q:Exit->Act->World->Prop}{fr:Fr}{d f k' i:Nat}{x:Operand}{xs:List Operand}{vs:Ap}{at_:Array TypeId}{ty:TypeId}{pos:String}{aft:Array Edge}{S':KT}{ns:List Ii}{co:Int}{tbl:List (List Nat)}{sp:FM}{pl:List BH}{gg:Bool}
theorem mkn{Γ:Ad->Ad}(h: ∀G,Fn P f vs (Aw b p s S G) (KN F C b p k' ns co S' G))(hk: ∀sl cs S1 s' L,S1=S'->OwnSl 69 12 sl ns.length (HW ns) cs->IsK F C k' S1 p s'->Tail L (cs++G)->CD b p∈Aw b p s' S1 L->MP P ro N E ops Q tbl false sp pl ((d,.tuple #[sl,iV co])::fr) ds (Γ (Aw b p s' S1 L)))(hx:ev fr x=some (.func (.func f) #[] #[]):=by rfl)(hy:RS fr xs=some vs:=by rfl)(hF:Fr1 (Aw b p s S G) l Γ:=by exact dI)(c:EN P f:=by infer_instance)(hb:Nat.blt d N=true:=by rfl)(ha:(sp.map Prod.fst).all (λq=>FQ tbl i q)=true:=by kernel_rfl):MP P ro N E ops Q tbl gg sp ((i,false,⟨some d,.call {callee:= .value x,args:=xs.toArray,argTypes:=at_},ty,pos,aft,none⟩)::pl) fr ds l:=by obtain⟨A,rfl,hA⟩:=hF.eq;refine Ll (AA hx hy (Fn.re (.of_perm (Fi b p s S A G)) (h (A++G)) (K':=λv l'=> ∃sl cs s' L,v= .tuple #[sl,iV co]/\OwnSl 69 12 sl ns.length (HW ns) cs/\IsK F C k' S' p s'/\Tail L (cs++G)/\l'=Γ (Aw b p s' S' L)) λv l' ⟨sl,cs,s',L,h1,h2,h3,⟨X,h4⟩,h5⟩=>⟨Γ (Aw b p s' S' (X++(cs++G))),?_,sl,cs,s',_,h1,h2,h3,⟨X,rfl⟩,rfl⟩)) (λv l' ⟨sl,cs,s',L,h1,h2,h3,h4,h5⟩=>by rw[h1,h5];exact hk sl cs S' s' L rfl h2 h3 h4 (mR λ_ h=>h)) rfl rfl hb ha;rw[h5,h4,hA];refine .of_perm ?_;unfold Aw;exact B0
end
theorem xU(e:Pf)(hK:IsK F C (k+iX e) S p s)(kb:Nat)(hk:Pt kb b∈G)(he:jw e):Fn prog 70 [pV kb,QD e] (Aw b p s S G) (KN F C b p k (OI S e).1.1 (OI S e).1.2 (OI S e).2 G):=by
 have mr:CD b p∈Aw b p s S G:=mR λ_ h=>h;have mk:Pt kb b∈Aw b p s S G:=mG (λ_ h=>h) _ hk;have Jq:=bR hK e.co;have uva:U6 e.va:=⟨he.va⟩
 have uvl:U6 e.vl:=⟨he.vl⟩
 have Nu:=he.cl;obtain⟨R,hR⟩: ∃R,OI S e=R:=⟨_,rfl⟩
 rw[hR];unfold OI at hR;refine AO func70 ntmps70 λE=>?_;refine AQ λb3=>?_;by_cases h1:e.co<0
 ·rw[Ac (.inl h1)] at hR;subst hR;refine Cn [] 14 _ ?_ (hR:=(λ_ h=>h));refine BS ?_;refine Aj ?_;exact FZ
 refine Cn [] 14 _ ?_ (hR:=(λ_ h=>h));refine BS ?_;refine Vs ?_;refine BS ?_;refine Vs ?_;refine BS ?_;refine Aj ?_;by_cases h2:(S.K.length:Int)<=e.co
 ·rw[Ac (.inr h2)] at hR;subst hR;refine Aj ?_;exact FZ
 rw[Ab Af] at hR;refine Aj ?_;refine Cx (Cr [16,17] 0 19) ?_;refine CC ?_;obtain⟨u,hu⟩: ∃u,DW S (LZ S.U e.co)=u:=⟨_,rfl⟩
 obtain⟨ok,Dm⟩: ∃k,Ps S (LZ S.U e.co)=k:=⟨_,rfl⟩
 rw[Dm,hu] at hR;try rw[hu,show(Th.findH S.T (LZ S.U e.co)).isSome=ok from Dm]
 try simp only[AM,AK,AS]
 refine Id e_alloc (by rintro _ _ ⟨_,_,_,rfl⟩ c hc;exact .tail _ hc) ?_;rintro _ _ ⟨b6,_,rfl,rfl⟩;refine CC ?_;try simp only[AM,AK,AS]
 refine Aj ?_;cases ok with
 |false=>rw[Ac rfl] at hR;subst hR;refine Aj ?_;exact FZ
 |true=>
 rw[Ab AZ] at hR;have FT:IsK F C (k+2) S p s:=hK.mono (by unfold iX;split<;>omega);cases hhs:u.hs with
 |true=>
  rw[Ac hhs] at hR;subst hR;refine Aj ?_;refine Cx (Cr [6] 0 11) ?_;refine CC ?_;refine mkn (vs:=[pV b,.int .i64 e.co]) (λG=>Abi FT e.co) ?_;intro sl cs S1 s1 L1 EA Gh Ey DL GI;refine CC ?_;try simp only[AM,AK,AS]
  refine Aj ?_;obtain⟨L4,hL4,hp4⟩:=Hc (b:=b) (p:=p) (s:=s1) (S:=S1) DL;exact AV [] _ rfl .refl (by exact Ba) (.drop (.drop (.of_perm hp4))) ⟨sl,cs,s1,L4,rfl,Gh,by rw[<-EA];exact Ey,hL4,by rw[<-EA]⟩
 |false=>
 rw[Ab (by rw[hhs];decide)] at hR;by_cases h3:e.kd=3
 ·rw[Ac h3] at hR;subst hR;have yx:U6 (⟨false,false,e.va,0⟩:Ux).va:=uva;have u7:U6 (⟨false,false,e.va,0⟩:Ux).vl:=⟨Mz⟩
  refine Aj ?_;refine Cx (Cr [9] 0 14) ?_;refine CC ?_;refine mkn (vs:=[pV b,.int .i64 e.co,xE ⟨false,false,e.va,0⟩]) (λG=>nU FT e.co ⟨false,false,e.va,0⟩) ?_;intro sl cs S1 s1 L1 EA Gh Ey DL GI;refine CC ?_;try simp only[AM,AK,AS]
  refine Aj ?_;obtain⟨L4,hL4,hp4⟩:=Hc (b:=b) (p:=p) (s:=s1) (S:=S1) DL;exact AV [] _ rfl .refl (by exact Ba) (.drop (.drop (.of_perm hp4))) ⟨sl,cs,s1,L4,rfl,Gh,by rw[<-EA];exact Ey,hL4,by rw[<-EA]⟩
 rw[Ab h3] at hR;by_cases h4:e.kd=4
 ·rw[Ac h4] at hR;subst hR;have yx:U6 (⟨false,true,e.va,e.vl⟩:Ux).va:=uva;have u7:U6 (⟨false,true,e.va,e.vl⟩:Ux).vl:=uvl;refine Aj ?_;refine Cx (Cr [11] 0 16) ?_;refine CC ?_;refine mkn (vs:=[pV b,.int .i64 e.co,xE ⟨false,true,e.va,e.vl⟩]) (λG=>nU FT e.co ⟨false,true,e.va,e.vl⟩) ?_;intro sl cs S1 s1 L1 EA Gh Ey DL GI;refine CC ?_;try simp only[AM,AK,AS]
  refine Aj ?_;obtain⟨L4,hL4,hp4⟩:=Hc (b:=b) (p:=p) (s:=s1) (S:=S1) DL;exact AV [] _ rfl .refl (by exact Ba) (.drop (.drop (.of_perm hp4))) ⟨sl,cs,s1,L4,rfl,Gh,by rw[<-EA];exact Ey,hL4,by rw[<-EA]⟩
 rw[Ab h4] at hR;have hK8:IsK F C (k+8) S p s:=hK.mono (by unfold iX;rw[Ab Af];omega);unfold UA at hR;have pU:=λ(G:Ad) (hk:Pt kb b∈G) h0=>sK (G:=G) hK8 kb hk u.id e.cl Nu h0;refine Aj ?_;refine Be (AL (vs:=[py e.cl]) rfl rfl λl2 _=>Uz e.cl Nu l2) ?_;obtain⟨⟨o,d⟩,hd⟩: ∃D,BV e.cl=D:=⟨_,rfl⟩
 rw[hd] at hR⊢;simp only[hd] at pU;dsimp only at hR⊢;refine AQ λb8=>?_;by_cases h5:d=0
 case neg=>rw[Ab h5] at hR;subst hR;refine Aj ?_;refine AR (FB (ws:=R2 (Zm u.id d)) (k:=12) rfl rfl rfl AZ AZ) ?_;rintro _ _ ⟨bn,_,rfl,rfl⟩;refine Aj ?_;exact AV [] _ rfl .refl (by exact Ba) (l':=[U4 bn (Zm u.id d)]++Aw b p s S G) (by exact AU) ⟨_,_,s,G,rfl,⟨rfl,.inr ⟨bn,1,[],rfl,rfl,Bd _,by unfold maxLen;omega,rfl⟩⟩,hK.mono Af,.nil,rfl⟩
 rw[Ac h5] at hR;have pU:=λG hk=>pU G hk h5;refine Aj ?_;refine Bq (.of_perm (Fi b p s S [If b8 o,Th.thC b6 {u with hs:=false},PN b3 e] G)) ?_;refine AR (AA (vs:=[pV kb,.int .i64 u.id,orV o]) rfl rfl (pU _ (Aa _ hk))) ?_;rintro _ _ ⟨sl,cs,s1,L1,rfl,Gh,Ey,DL,rfl⟩;obtain⟨q,hq⟩: ∃q,Ng S u.id o=q:=⟨_,rfl⟩
 rw[hq] at hR Gh Ey;try rw[hq]
 obtain⟨L2,PR,QN⟩:=Hc (b:=b) (p:=p) (s:=s1) (S:=q.2) DL;refine Bq (.of_perm (l':=If b8 o::Th.thC b6 {u with hs:=false}::PN b3 e::(cs++Aw b p s1 q.2 L2)) ((QN.append_left cs).trans B0)) ?_;refine Aj ?_;by_cases h6:q.1.2=0
 ·rw[Ac h6] at hR;subst hR;refine Aj ?_;exact CM (vs:=[sl,iV 0]) _ .refl (.drop (.drop (.drop .refl))) ⟨sl,cs,s1,L2,rfl,Gh,Ey,PR,rfl⟩
 ·rw[Ab h6] at hR;subst hR;refine Aj ?_;refine AR (FB (ws:=R2 (Zm u.id q.1.2)) (k:=12) rfl rfl rfl AZ AZ) ?_;rintro _ _ ⟨bn,_,rfl,rfl⟩;refine Aj ?_;exact AV [] _ rfl .refl (by exact Ba) (l':=[U4 bn (Zm u.id q.1.2)]++Aw b p s1 q.2 L2) (show Keep (U4 bn (Zm u.id q.1.2)::If b8 o::Th.thC b6 {u with hs:=false}::PN b3 e::(cs++Aw b p s1 q.2 L2)) ([U4 bn (Zm u.id q.1.2)]++Aw b p s1 q.2 L2) from A8 ([If b8 o,Th.thC b6 {u with hs:=false},PN b3 e]++cs)) ⟨_,_,s1,L2,rfl,⟨rfl,.inr ⟨bn,1,[],rfl,rfl,Bd _,by unfold maxLen;omega,rfl⟩⟩,Ey,PR,rfl⟩
end
def doA(S:KT)(e:Pf):(List Ii×Int)×KT:=
 if e.kd=1 then(([],(Pu S e.co e.th).1),(Pu S e.co e.th).2)
 else if e.kd=2\/e.kd=3\/e.kd=4 then OI S e
 else if e.kd=5\/e.kd=6 then(([],(Ma S e).1),(Ma S e).2)
 else(([],2),S)
def Nh(S:KT)(e:Pf):(List Ii×Int)×KT:=((doA S e).1,if(doA S e).1.2=0 then Nn (doA S e).2 else(doA S e).2)
abbrev NF(co:Int)(sl:Value):Ap:=[iV co,sl]
section
def KSt(F C b:Nat)(p:RP)(k:Nat)(xs:List Ii)(co:Int)(S:KT)(G:Ad):Value->Ad->Prop:=λv l'=> ∃sl cs s L,v= .agg (toArray (NF co sl))/\OwnSl 69 12 sl xs.length (HW xs) cs/\IsK F C k S p s/\Tail L G/\l'=cs++Aw b p s S L
theorem xV{Q1:Act->World->Prop}{Q2:Exit->Act->World->Prop}{c:Code}{fr:Fr}{j:Nat}(fx:α->Fr)(lx:α->Ad)(pre:α->Prop)(h1:BN P ro N E c (Exit.inBlock j (Exit.then (db N E fx ds lx pre) Q2)) fr ds l)(h2: ∀x,pre x->CU N E (Exit.then Q1 Q2) .normal (fx x) ds (lx x)):BN P ro N E c (Exit.inBlock j (Exit.then Q1 Q2)) fr ds l:=
 ⟨λa W hf hds hs=>wpIn_mono (h1.run a W hf hds hs) λe a' W' h=>by
   cases e with
   |normal=>obtain⟨y,h3,h4,h5,h6⟩:=h;exact(h2 y h3).run a' W' h4 h5 h6
   |exit i=>
    simp only[Exit.inBlock] at h⊢;by_cases hi:i=j
    ·rw[Ac hi] at h⊢;obtain⟨y,h3,h4,h5,h6⟩:=h;exact(h2 y h3).run a' W' h4 h5 h6
    ·rw[Ab hi] at h⊢;exact h
   |_=>exact h⟩
abbrev Ig(B:Nat)(co:Int)(sl:Value):Bg:=(B,.cells (toArray (NF co sl)) 32 (0,0))
abbrev Kk:Value:= .slice none 0 0
theorem Ad9(e:Pf)(hK:IsK F C (k+iX e) S p s)(kb:Nat)(hk:Pt kb b∈G)(he:jw e):Fn prog 51 [pV kb,QD e] (Aw b p s S G) (KSt F C b p k (Nh S e).1.1 (Nh S e).1.2 (Nh S e).2 G):=by
 have mr:CD b p∈Aw b p s S G:=mR λ_ h=>h;have mk:Pt kb b∈Aw b p s S G:=mG (λ_ h=>h) _ hk;have Mi:=λ(G:Ad) (hk:Pt kb b∈G)=>xU (G:=G) e hK kb hk he;have hpi:=λ(G:Ad) (hk:Pt kb b∈G)=>xN (G:=G) hK kb hk e.co e.th;have zF:=λ(G:Ad) (hk:Pt kb b∈G)=>sC (G:=G) hK kb hk e;unfold Nh;obtain⟨R,hR⟩: ∃R,doA S e=R:=⟨_,rfl⟩
 rw[hR];unfold doA at hR;refine AO func51 ntmps51 λE=>?_;refine AQ λb3=>?_;refine AQ λb4=>?_;refine AQ λb5=>?_;refine xV (α:=RL×Ad×Value×Ad) (λ_=>[(0,pV kb),(4,pV b4),(5,pV b5)]) (λz=>Ig b5 R.1.2 z.2.2.1::Ig b4 0 Kk::Aw b p z.1 R.2 (z.2.2.2++z.2.1)) (λz=>IsK F C k R.2 p z.1/\Tail z.2.1 G/\OwnSl 69 12 z.2.2.1 R.1.1.length (HW R.1.1) z.2.2.2) ?_ ?_
 ·by_cases h1:e.kd=1
  ·rw[Ac h1] at hR;subst hR;refine Aj ?_;refine Bq (.of_perm (Fi b p s S [Ig b5 2 Kk,Ig b4 0 Kk,PN b3 e] G)) ?_;refine AR (AA (vs:=[pV kb,.int .i64 e.co,.int .i64 e.th]) rfl rfl (hpi _ (Aa _ hk))) ?_;rintro _ _ ⟨rfl,s1,L1,Ey,DL,rfl⟩;obtain⟨L2,PR,QN⟩:=Hc (b:=b) (p:=p) (s:=s1) (S:=(Pu S e.co e.th).2) DL;refine Bq (.of_perm (l':=Ig b5 2 Kk::Ig b4 0 Kk::PN b3 e::Aw b p s1 (Pu S e.co e.th).2 L2) QN) ?_;refine Aj ?_;exact EG (s1,L2,Kk,[]) ⟨Ey.mono Af,PR,OwnSl.nil _ _⟩ ⟨rfl,rfl,rfl,trivial⟩ (by exact AU)
  rw[Ab h1] at hR;by_cases h2:e.kd=2\/e.kd=3\/e.kd=4
  ·rw[Ac h2] at hR;rw[hR] at Mi;rcases h2 with h2|h2|h2;all_goals
    refine Aj ?_;refine Bq (.of_perm (Fi b p s S [Ig b5 2 Kk,Ig b4 0 Kk,PN b3 e] G)) ?_;refine AR (AA (vs:=[pV kb,QD e]) rfl rfl (Mi _ (Aa _ hk))) ?_;rintro _ _ ⟨sl,cs,s1,L1,rfl,Gh,Ey,DL,rfl⟩;obtain⟨L2,PR,QN⟩:=Hc (b:=b) (p:=p) (s:=s1) (S:=R.2) DL;obtain⟨pp,cap,rfl⟩:=Gh.shape;refine Bq (.of_perm (l':=Ig b5 2 Kk::Ig b4 0 Kk::PN b3 e::Aw b p s1 R.2 (cs++L2)) ((QN.append_left cs).trans (by unfold Aw;exact B0))) ?_;refine Aj ?_;exact EG (s1,L2,_,cs) ⟨Ey,PR,Gh⟩ ⟨rfl,rfl,rfl,trivial⟩ (by exact AU)
  rw[Ab h2] at hR;by_cases h3:e.kd=5\/e.kd=6
  ·rw[Ac h3] at hR;subst hR;rcases h3 with h3|h3;all_goals
    refine Aj ?_;refine Bq (.of_perm (Fi b p s S [Ig b5 2 Kk,Ig b4 0 Kk,PN b3 e] G)) ?_;refine AR (AA (vs:=[pV kb,QD e]) rfl rfl (zF _ (Aa _ hk))) ?_;rintro _ _ ⟨rfl,s1,L1,Ey,DL,rfl⟩;obtain⟨L2,PR,QN⟩:=Hc (b:=b) (p:=p) (s:=s1) (S:=(Ma S e).2) DL;refine Bq (.of_perm (l':=Ig b5 2 Kk::Ig b4 0 Kk::PN b3 e::Aw b p s1 (Ma S e).2 L2) QN) ?_;refine Aj ?_;exact EG (s1,L2,Kk,[]) ⟨Ey.mono Af,PR,OwnSl.nil _ _⟩ ⟨rfl,rfl,rfl,trivial⟩ (by exact AU)
  rw[Ab h3] at hR;subst hR;refine Aj ?_;exact EG (s,G,Kk,[]) ⟨hK.mono Af,.nil,OwnSl.nil _ _⟩ ⟨rfl,rfl,rfl,trivial⟩ (by exact AU)
 rintro⟨s1,L1,sl,cs⟩ ⟨Ey,DL,Gh⟩;obtain⟨pp,cap,rfl⟩:=Gh.shape;dsimp only;have GI:CD b p∈Aw b p s1 R.2 (cs++L1):=mR λ_ h=>h;have mk1:Pt kb b∈Aw b p s1 R.2 (cs++L1):=mG (λ_ h=>h) _ (Aa _ (by obtain⟨X,rfl⟩:=DL;exact Aa _ hk));by_cases h0:R.1.2=0
 case neg=>rw[Ab h0];refine Aj ?_;exact AV (vs:=[.agg (toArray (NF R.1.2 (.slice pp R.1.1.length cap)))]) [] _ rfl .refl (Cz rfl (.tail _ (.head _)) (As.LSub.of_all (n:=2) (NF R.1.2 (.slice pp R.1.1.length cap)) rfl) .nil) (.drop (.drop (.of_perm (Fi b p s1 R.2 cs L1).symm))) ⟨_,cs,s1,L1,rfl,Gh,Ey,DL,rfl⟩
 rw[Ac h0];refine Aj ?_;refine Gc ?_;intro S2 s2 L2 hS2 FT FL HP;obtain⟨L3,hL3,XH⟩:=Hc (b:=b) (p:=p) (s:=s2) (S:=S2) FL;refine Aj ?_;exact AV (vs:=[.agg (toArray (NF R.1.2 (.slice pp R.1.1.length cap)))]) [] _ rfl .refl (Cz rfl (.tail _ (.head _)) (As.LSub.of_all (n:=2) (NF R.1.2 (.slice pp R.1.1.length cap)) rfl) .nil) (.drop (.drop (.of_perm XH))) ⟨_,cs,s2,L3,rfl,Gh,by rw[<-hS2];exact FT,hL3.trans DL,by rw[<-hS2]⟩
end
abbrev ntZ:Ii:=⟨0,0,0,yS,0,false,0,0,false⟩
theorem cf(v:Value)(xs:List Ii)(cs l:Ad)(ho:OwnSl 69 12 v xs.length (HW xs) cs)(hs: ∀c,c∈cs->c∈l)(hx:xs.length<=1000000):
 Fn prog 52 [v] l λr l'=> ∃c2,OwnSl 69 12 r xs.length (HW xs) c2/\l'=c2++l:=by
 obtain⟨Ei,h⟩:=ho;refine AO func52 ntmps52 λE=>?_;rcases h with⟨rfl,h0,rfl⟩|⟨gb,cap,sp,rfl,rfl,fD,UK,Nu⟩
 ·refine Aj ?_;refine Bb .refl ?_;exact⟨[],⟨Ei,.inl ⟨rfl,h0,rfl⟩⟩,rfl⟩
 ·have hg:=hs _ Ak;refine Aj ?_;refine AR kq ?_;rintro _ _ ⟨bl,R9,rfl,rfl⟩;refine Aj ?_;apply jp
  ·apply Gy (e:=69) (k:=12) (xs:=[]) (cs:=[(bl,.cells #[] 69 (0,0))]) (F:=l) (news:=HW xs) (zs:=R2 ntZ) (cl:=toArray (HW xs++sp))
   ·rfl
   ·rfl
   ·rfl
   ·exact OwnSl.empty
   ·exact .tail _ hg
   ·intro j u hj;have Dc:=(Ay.1 hj).1;rw[BE,AF,AB Dc];exact hj
   ·exact Ei
   ·exact Zg xs
   ·unfold maxLen;omega
   ·omega
  ·rfl
  ·rfl
  ·rfl
  rintro v' _ ⟨c2,FK,rfl⟩;rw[Ag,BE] at FK;have Ju:v'.oneCell'=true:=FK.one;refine Aj ?_;refine Bb .refl ?_;exact⟨c2,FK,rfl⟩
def StOwn:List (Int×List Ii)->Ap->Ad->Prop
 |[],rows,cs=>rows=[]/\cs=[]
 |x::r,rows,cs=> ∃v c rows' cs',OwnSl 69 12 v x.2.length (HW x.2) c/\rows=NF x.1 v++rows'/\cs=c++cs'/\StOwn r rows' cs'
theorem StOwn.snoc: ∀{st:List (Int×List Ii)} {rows:Ap} {cs:Ad} {co:Int} {ns:List Ii} {v:Value} {c:Ad},StOwn st rows cs->OwnSl 69 12 v ns.length (HW ns) c->StOwn (st++[(co,ns)]) (rows++NF co v) (cs++c)
 |[],_,_,co,ns,v,c,⟨h1,h2⟩,ho=>by subst h1 h2;exact⟨v,c,[],[],ho,by simp,by simp,rfl,rfl⟩
 |x::r,_,_,co,ns,v,c,⟨w,d,rows',cs',h1,h2,h3,h4⟩,ho=>⟨w,d,_,_,h1,by rw[h2,Am],by rw[h3,Am],h4.snoc ho⟩
abbrev ck(wb kb:Nat)(vt vs:Value):Bg:=(wb,.cells (toArray [pV kb,vt,vs]) 120 (0,0))
structure IsWo(F C k:Nat)(S:KT)(th:A4)(st:List (Int×List Ii))(wb:Nat)(l:Ad):Prop where
 ex: ∃b kb p s vt vs ct cs rows cn,IsK F C k S p s/\OwnSl 3 1 vt th.length (th.map CN) ct/\OwnSl 32 2 vs st.length rows cs/\StOwn st rows cn/\st.length<=100000/\l=ck wb kb vt vs::Pt kb b::(ct++(cs++(cn++Aw b p s S [])))
theorem xW(b:Nat)(p:RP)(s:RL)(S:KT)(A G:Ad):(A++(Aw b p s S []++G)).Perm (Aw b p s S (A++G)):=by unfold Aw;exact B0
theorem Aea(b:Nat)(p:RP)(s:RL)(S:KT)(c2 A X G:Ad):Keep (c2++Aw b p s S (X++(A++G))) (A++(c2++(Aw b p s S []++G))):=by unfold Aw;exact A8 X
theorem Abn(hK:IsK F C (k+iX e) S p s)(kb:Nat)(he:jw e)(A G:Ad)(hk:Pt kb b∈A):
 Fn prog 51 [pV kb,QD e] (A++(Aw b p s S []++G)) λv l'=> ∃sl c2 s1,v= .agg (toArray (NF (Nh S e).1.2 sl))/\OwnSl 69 12 sl (Nh S e).1.1.length (HW (Nh S e).1.1) c2/\IsK F C k (Nh S e).2 p s1/\l'=A++(c2++(Aw b p s1 (Nh S e).2 []++G)):=
 Fn.re (.of_perm (xW ..)) (Ad9 e hK kb (Ai _ hk) he) λv l' ⟨sl,c2,s1,L,h1,h2,h3,⟨X,h4⟩,h5⟩=>⟨_,by rw[h5,h4];exact Aea ..,sl,c2,s1,h1,h2,h3,rfl⟩
theorem Aeb(hK:IsK F C (k+iX e) S p s)(kb:Nat)(he:jw e)(X:Ad)(w:Bg)(ct cs cn G:Ad):
 Fn prog 51 [pV kb,QD e] (X++(w::Pt kb b::(ct++(cs++(cn++(Aw b p s S []++G)))))) λv l'=> ∃sl c2 s1,v= .agg (toArray (NF (Nh S e).1.2 sl))/\OwnSl 69 12 sl (Nh S e).1.1.length (HW (Nh S e).1.1) c2/\IsK F C k (Nh S e).2 p s1/\l'=X++(w::Pt kb b::(ct++(cs++(cn++(c2++(Aw b p s1 (Nh S e).2 []++G)))))):=by
 have h:=Abn (b:=b) hK kb he (X++w::Pt kb b::(ct++(cs++cn))) G (by simp);simp only[Am,Ae] at h;exact h
abbrev ntK:List (Option IntKind):=[some .i64,some .i64,some .u64,some .u64,some .u64,some .u64,some .u64,some .u64,none,some .i64,some .u64,none]
instance:EQ prog 69 ntK:=⟨BB⟩
theorem Abo(x:Ii):AllK ntK (R2 x):=JR (by rfl)
theorem sL(x y:Ii)(h:R2 x=R2 y):x=y:=by obtain⟨a1,a2,a3,⟨a4,a5,a6,a7⟩,a8,a9,b1,b2,b3⟩:=x;obtain⟨c1,c2,c3,⟨c4,c5,c6,c7⟩,c8,c9,d1,d2,d3⟩:=y;simp only[R2,CZ,Value.int.injEq,Value.bool.injEq,Md,NK] at h;obtain⟨h1,h2,h3,h4,h5,h6,h7,h8,h9,Sa,jo,jR⟩:=h;subst h1 h2 h3 h4 h5 h6 h7 h8 h9 Sa jo jR;rfl
theorem U7[DecidableEq α](enc:α->Ap)(NO: ∀x y,enc x=enc y->x=y)(hk: ∀x,AllK ntK (enc x))(v u:Value)(xs ys:List α)(l:Ad)(h1:RowSl l v 12 enc xs)(h2:RowSl l u 12 enc ys)(hx:xs.length<=1000000):
 Fn prog 34 [v,u] l λr l'=>r= .bool (decide (xs=ys))/\l'=l:=by
 obtain⟨a,ca,rfl,h1⟩:=h1;obtain⟨a',ca',rfl,h2⟩:=h2;refine AO func34 ntmps34 λE=>?_;exact Aaz
theorem Aed(c5 c4 c3 w k:Bg)(cN ct cs cn cS A G:Ad)(bl:Bg):(bl::(cN++(c5::c4::c3::w::k::(ct++(cs++(cn++(cS++(A++G)))))))).Perm (bl::((cN++[c5,c4,c3,w,k])++(cs++(ct++(cn++(cS++(A++G))))))):=B0
theorem Aee(c5 c4 c3 w k:Bg)(cN ct cs cn cS A G:Ad):((cN++[c5,c4,c3,w,k])++(cs++(ct++(cn++(cS++(A++G)))))).Perm (c5::c4::c3::w::k::(ct++(cs++((cn++cN)++(cS++(A++G)))))):=B0
theorem Aef(c5 c4 c3 w k:Bg)(ct cs cn cS A G:Ad):Keep (c5::c4::c3::w::k::(ct++(cs++(cn++(cS++(A++G)))))) (cS++((w::k::(ct++(cs++(cn++A))))++G)):=A8 [c5,c4,c3]
theorem SI{th:A4}{st:List (Int×List Ii)}{wb:Nat}(e:Pf)(he:jw e)(hW:IsWo F C (k+iX e) S th st wb l)(hn:st.length+1<=100000)(G:Ad)(hx:(Nh S e).1.1.length<=1000000):
 Fn prog 18 [pV wb,QD e] (l++G) λv l'=> ∃sl cs lw,v= .agg (toArray (NF (Nh S e).1.2 sl))/\OwnSl 69 12 sl (Nh S e).1.1.length (HW (Nh S e).1.1) cs/\IsWo F C k (Nh S e).2 th (st++[((Nh S e).1.2,(Nh S e).1.1)]) wb lw/\l'=cs++(lw++G):=by
 obtain⟨b,kb,p,s,vt,vs,ct,cs,rows,cn,hK,ht,hs,Mi,_,rfl⟩:=hW.ex;have hvt:=ht.one;have hvs:=hs.one;obtain⟨⟨⟨ns,co⟩,S'⟩,hR⟩: ∃R,Nh S e=R:=⟨_,rfl⟩
 have vF:=λX=>Aeb (b:=b) hK kb he X (ck wb kb vt vs) ct cs cn G;rw[hR] at vF hx⊢;dsimp only at vF hx⊢;rw[show(ck wb kb vt vs::Pt kb b::(ct++(cs++(cn++Aw b p s S []))))++G=ck wb kb vt vs::Pt kb b::(ct++(cs++(cn++(Aw b p s S []++G)))) by simp];refine AO func18 ntmps18 λE=>?_;refine AQ λb3=>?_;refine AQ λb4=>?_;refine RJ (α:=Value×Ad×RL×Nat) (λz=>[(0,pV wb),(4,pV b4),(5,pV z.2.2.2)]) (λz=>Ig z.2.2.2 co z.1::Ig b4 0 Kk::PN b3 e::ck wb kb vt vs::Pt kb b::(ct++(cs++(cn++(z.2.1++(Aw b p z.2.2.1 S' []++G)))))) (λz=>OwnSl 69 12 z.1 ns.length (HW ns) z.2.1/\IsK F C k S' p z.2.2.1) ?_ ?_
 ·refine Lw [(0,true),(1,true),(2,true),(3,true),(4,true),(5,false),(6,false),(7,false)] [[],[0],[0,1],[0,1,2],[],[0,1,2,3,4],[],[0,1,2,3,4,5,6]] 5 6 ([PN b3 e,ck wb kb vt vs]) BB BB GZ ((in2 BW BW)) ?_;refine BS ?_;refine N0 [(6,false),(5,false),(7,false)] GZ (List.Perm.swap _ _ _) BB ?_ ?_
  ·refine CS (AA (vs:=[pV kb,QD e]) rfl rfl (vF [Ig b4 0 Kk,PN b3 e])) rfl rfl rfl ?_ ?_
   ·rintro _ _ ⟨sl,c2,s1,rfl,_,_,rfl⟩;exact in2 (by simp) (by simp)
   rintro _ _ ⟨sl,c2,s1,rfl,Gh,Ey,rfl⟩;simp only[Ae,Ag];refine CS e_alloc rfl rfl rfl ?_ ?_
   ·rintro _ _ ⟨_,_,_,rfl⟩ c hc;exact .tail _ (in2 BW BW c hc)
   rintro _ _ ⟨b5,_,rfl,rfl⟩;obtain⟨pp,cap,rfl⟩:=Gh.shape;refine BS ?_;refine Aj ?_;exact EG (_,c2,s1,b5) ⟨Gh,Ey⟩ ⟨rfl,rfl,rfl,trivial⟩ .refl
  ·refine CS e_alloc rfl rfl rfl ?_ ?_
   ·rintro _ _ ⟨_,_,_,rfl⟩ c hc;exact .tail _ (in2 BW BW c hc)
   rintro _ _ ⟨b5,_,rfl,rfl⟩;refine CS (AA (vs:=[pV kb,QD e]) rfl rfl (vF [Ig b5 0 Kk,Ig b4 0 Kk,PN b3 e])) rfl rfl rfl ?_ ?_
   ·rintro _ _ ⟨sl,c2,s1,rfl,_,_,rfl⟩;exact in2 (by simp) (by simp)
   rintro _ _ ⟨sl,c2,s1,rfl,Gh,Ey,rfl⟩;simp only[Ae,Ag];obtain⟨pp,cap,rfl⟩:=Gh.shape;refine BS ?_;refine Aj ?_;exact EG (_,c2,s1,b5) ⟨Gh,Ey⟩ ⟨rfl,rfl,rfl,trivial⟩ .refl
 rintro⟨sl,c2,s1,b5⟩ ⟨Gh,Ey⟩;dsimp only;obtain⟨pp,cap,rfl⟩:=Gh.shape;refine Aj ?_;refine Cx (Cr [9,11,12,15] 0 16) ?_;refine CC ?_;refine Id (AA (vs:=[.slice pp ns.length cap]) rfl rfl (cf _ ns c2 _ Gh (λc hc=>by simp[hc]) hx)) (by rintro _ _ ⟨c3,_,rfl⟩ c hc;exact Aa _ hc) ?_;rintro vN _ ⟨cN,hoN,rfl⟩;obtain⟨pN,capN,rfl⟩:=hoN.shape;refine CC ?_;refine Id (FB (ws:=NF co (.slice pN ns.length capN)) (k:=2) (zs:=NF 0 Kk) rfl rfl rfl AZ AZ) (by rintro _ _ ⟨_,_,_,rfl⟩ c hc;exact .tail _ hc) ?_;rintro _ _ ⟨bl,_,rfl,rfl⟩;refine CC ?_;refine Ll (OpE.re (.of_perm (Aed _ _ _ _ _ cN ct cs cn c2 _ G _)) (Ht (k:=2) (X:=cN++[_,_,_,_,_]) (cs:=cs) (xs:=rows) (ws:=NF co (.slice pN ns.length capN)) (zs:=NF 0 Kk) (n:=st.length) rfl rfl rfl hs rfl (by simp[Value.oneCell']) Af AZ) (K':=λv' l'=> ∃c3,OwnSl 32 2 v' (st.length+1) (rows++NF co (.slice pN ns.length capN)) c3/\l'=Ig b5 co (.slice pp ns.length cap)::Ig b4 0 Kk::PN b3 e::ck wb kb vt vs::Pt kb b::(ct++(c3++((cn++cN)++(c2++(Aw b p s1 S' []++G)))))) λv' l' ⟨c3,h1,h2⟩=>⟨_,by rw[h2];exact .of_perm (Aee ..),c3,h1,rfl⟩) ?_;rintro v' _ ⟨c3,ho3,rfl⟩;obtain⟨p3,cap3,rfl⟩:=ho3.shape;refine CC ?_;refine Aj ?_;exact AV (vs:=[.agg (toArray (NF co (.slice pp ns.length cap)))]) [] _ rfl .refl (Cz rfl (.tail _ (.head _)) (As.LSub.of_all (n:=2) (NF co (.slice pp ns.length cap)) rfl) .nil) (Aef ..) ⟨_,c2,_,rfl,Gh,⟨b,kb,p,s1,vt,_,ct,c3,_,cn++cN,Ey,ht,by rw[Ah];exact ho3,Mi.snoc hoN,by rw[Ah];exact hn,rfl⟩,rfl⟩
end Go.Proofs.YtlifcingifodfaaGreat
