/- Laws that the statement's proof leans on (joined out of several texts). -/
import Derived.WalkKit
import Derived.ProofKit
import Derived.OpenShut
import Derived.ChangeOld
import Derived.Below
import Derived.Deep.Slices
import Derived.Handy
import Derived.RangeFuncNested
import Derived.RangeFuncBound
import Derived.RangeFuncCalls
import Derived.RangeFuncLeaves
import Derived.Shelf.Abstract
import Derived.Shelf.RegionOpen
import Derived.OwnWalkIn
import Derived.TacticsInMore
import Derived.LoopNIn
import Derived.LoopIn
import Derived.WalkSmall
import Derived.Lib.Hide
import Derived.BigFrameIn
import Derived.BigRegion
import Derived.Deep.QuietTactic
import Derived.BigQuiet
import Derived.WalkMore
import Derived.KernelRfl
namespace Go.Proofs
abbrev BF:=@Array.getElem?_eq_some_iff
abbrev ER:=@List.foldl_cons
abbrev HI:=@Option.bind_some
abbrev Ac:=@if_pos
abbrev An:=@List.mem_cons_of_mem
abbrev Ak:=@List.mem_cons_self
abbrev Ah:=@List.length_append
abbrev Ab:=@if_neg
abbrev F5:=@Nat.succ_mul
abbrev IG:=@Option.bind_eq_some_iff
abbrev Ay:=@List.getElem?_eq_some_iff
abbrev Al:=@List.getElem?_eq_getElem
abbrev D7:=@List.take_length
abbrev Bd:=@Nat.le_refl
abbrev Bm:=@Nat.zero_le
abbrev Au:=@List.mem_map
abbrev A5:=@List.getElem?_map
abbrev Fh:=@List.getElem?_range
abbrev BQ:=@Option.map_some
abbrev Di:=@Option.getD_some
abbrev CJ:=@Array.getElem?_eq_getElem
abbrev D8:=@List.sublist_cons_self
abbrev AJ:=@List.map_cons
abbrev AP:=@List.nodup_cons
abbrev At:=@List.mem_cons
abbrev DF:=@Iff.rfl
abbrev Bl:=@Bool.false_eq_true
abbrev Do:=@Array.getD_eq_getD_getElem?
abbrev FF:=@Nat.eq_of_beq_eq_true
abbrev Gl:=@Array.getElem?_setIfInBounds_ne
abbrev Mc:=@Nat.le_of_not_lt
abbrev Et:=@Nat.lt_of_le_of_lt
abbrev C6:=@if_true
abbrev C3:=@if_false
abbrev D9:=@Option.map_eq_some_iff
abbrev C9:=@List.getElem?_cons_succ
abbrev AF:=@List.getElem?_toArray
abbrev BC:=@List.length_cons
abbrev KG:=@Array.append_empty
abbrev BU:=@Array.toList_inj
abbrev Ln:=@Array.toList_push
abbrev Hh:=@Array.toList_extract
abbrev Cp:=@List.extract_eq_take_drop
abbrev Am:=@List.append_assoc
abbrev Ci:=@List.singleton_append
abbrev Dh:=@List.drop_eq_getElem_cons
abbrev JM:=@Nat.add_assoc
abbrev CP:=@Nat.add_zero
abbrev KH:=@Array.empty_append
abbrev Dj:=@List.map_toArray
abbrev CQ:=@List.map_nil
abbrev Bw:=@List.setIfInBounds_toArray
abbrev Cs:=@List.set_append_right
abbrev Fv:=@List.set_cons_zero
abbrev Bs:=@List.length_singleton
abbrev BE:=@Nat.zero_add
abbrev Kr:=@Nat.add_comm
abbrev Av:=@decide_eq_true
abbrev Ax:=@decide_eq_false
abbrev IZ:=@List.Perm.refl
abbrev AI:=@List.perm_middle
abbrev EX:=@List.Perm.append_left
abbrev Ij:=@List.all_cons
abbrev AW:=@Bool.and_eq_true
abbrev Aa:=@List.mem_append_right
abbrev I0:=@List.Perm.append_right
abbrev EY:=@List.perm_append_comm
abbrev A3:=@List.all_eq_true
abbrev Ep:=@Bool.or_eq_true
abbrev Jz:=@beq_iff_eq
abbrev Bj:=@decide_eq_true_eq
abbrev Lo:=@Array.getElem_mem
abbrev Pv:=@bne_iff_ne
abbrev Cd:=@List.pairwise_cons
abbrev FG:=@Ne.symm
abbrev AH:=@List.mem_append
abbrev Ai:=@List.mem_append_left
abbrev Aq:=@List.map_append
abbrev Ae:=@List.cons_append
abbrev Bp:=@List.pairwise_append
abbrev GE:=@List.append_of_mem
abbrev Kl:=@List.Sublist.append
abbrev EJ:=@List.Sublist.refl
abbrev Bi:=@List.append_nil
abbrev Ag:=@List.nil_append
abbrev CZ:=@List.cons.injEq
abbrev Js:=@List.contains_iff_mem
abbrev HJ:=@List.any_eq_true
abbrev Ef:=@Bool.not_eq_true'
abbrev D3:=@List.nodup_iff_pairwise_ne
abbrev Cu:=@List.pairwise_map
abbrev Gs:=@List.length_eq_zero_iff
abbrev Md:=@true_and
abbrev BO:=@congrArg
abbrev A7:=@List.length_map
abbrev I3:=@Option.some.injEq
abbrev GF:=@List.getElem?_take
abbrev Iu:=@List.getElem?_drop
abbrev Fp:=@Nat.add_mul
abbrev Eg:=@List.eq_nil_of_length_eq_zero
abbrev Bt:=@List.size_toArray
abbrev F6:=@Nat.mul_le_mul_right
abbrev Dw:=@List.length_drop
abbrev AB:=@List.getElem?_append_left
abbrev KI:=@Nat.pos_of_ne_zero
abbrev Dl:=@List.ext_getElem?
abbrev BJ:=@List.replicate_succ
abbrev Cv:=@List.flatten_cons
abbrev Dx:=@Nat.mod_eq_of_lt
abbrev AN:=@List.getElem?_append_right
abbrev Km:=@Nat.succ_eq_add_one
abbrev KJ:=@Nat.mod_eq_sub_mod
abbrev Me:=@Array.toList_map
abbrev KL:=@Array.toList_range
abbrev Hi:=@Nat.mod_lt
abbrev Gt:=@List.getElem!_eq_getElem?_getD
abbrev Bf:=@List.getElem?_eq_none
abbrev DR:=@Nat.sub_self
abbrev DJ:=@Option.map_none
abbrev Da:=@List.getElem?_cons_zero
abbrev Ek:=@List.eq_of_mem_replicate
abbrev Ib:=@Array.toList_modify
abbrev Jo:=@List.eraseIdxIfInBounds_toArray
abbrev Dp:=@List.eraseIdx_eq_take_drop_succ
abbrev G4:=@List.map_take
abbrev Co:=@List.mem_filter
abbrev HK:=@List.getElem_mem
abbrev BG:=@List.find?_cons
abbrev GG:=@Nat.zero_mul
abbrev Hj:=@Bool.not_false
abbrev A6:=@List.mem_of_getElem?
abbrev HL:=@List.nil_sublist
abbrev Az:=@List.perm_append_comm_assoc
abbrev I4:=@Nat.mul_le_mul
abbrev Ce:=@List.Sublist.subset
abbrev Bu:=@Bool.true_and
abbrev Bh:=@Bool.false_and
abbrev Cj:=@List.take_append_drop
abbrev Gu:=@List.foldl_nil
abbrev DG:=@List.drop_of_length_le
abbrev KM:=@List.drop_drop
abbrev Iq:=@List.headD_cons
abbrev Ff:=@List.length_nil
abbrev Hk:=@Std.Legacy.Range.forIn_eq_forIn_range'
abbrev Lp:=@List.mem_range'_1
abbrev Cw:=@List.flatMap_cons
abbrev GP:=@List.take_left'
abbrev JA:=@List.drop_append
abbrev E5:=@List.extract_toArray
abbrev CG:=@Nat.add_sub_cancel_left
abbrev By:=@List.nodup_append
abbrev Lq:=@Nat.lt_succ_of_lt
abbrev AE:=@List.mem_singleton
abbrev HM:=@Nat.lt_succ_self
abbrev IS:=@List.eraseIdx_append_of_length_le
abbrev AY:=@Int.toNat_natCast
abbrev ES:=@Nat.min_eq_left
abbrev D4:=@BitVec.ofInt_natCast
abbrev Eu:=@BitVec.toNat_ofNat
abbrev Mf:=@BitVec.toNat_and
abbrev Ka:=@Nat.and_le_left
abbrev BY:=@Nat.le_trans
abbrev Kb:=@Int.natCast_mul
abbrev LR:=@Bool.false_or
abbrev MH:=@Nat.mul_comm
abbrev Fj:=@Array.getElem?_eq_none
abbrev I5:=@List.tail_cons
abbrev Jp:=@List.replicate_append_replicate
abbrev DH:=@Array.ext_getElem?
abbrev Dy:=@List.getElem?_replicate
abbrev Cf:=@List.take_add_one
abbrev BI:=@List.take_prefix
abbrev Bz:=@List.take_of_length_le
abbrev Ed:=@List.flatMap_append
abbrev CR:=@List.map_map
abbrev Ir:=@List.drop_left'
abbrev CV:=@List.length_take
abbrev JB:=@List.mem_flatMap
abbrev BL:=@List.not_mem_nil
abbrev Ez:=@or_false
abbrev IU:=@List.set_eq_take_append_cons_drop
abbrev Hl:=@List.set_append_left
abbrev Iv:=@List.set_cons_succ
abbrev G8:=@List.getElem?_set
abbrev EL:=@of_decide_eq_true
abbrev IV:=@List.findIdx?_eq_some_iff_getElem
abbrev JT:=@List.getElem?_of_mem
abbrev GQ:=@List.takeWhile_append_of_pos
abbrev Fx:=@List.takeWhile_cons_of_neg
abbrev Hm:=@List.dropWhile_cons_of_neg
abbrev HY:=@List.pairwise_iff_getElem
abbrev Cb:=@List.takeWhile_append_dropWhile
abbrev Hn:=@List.takeWhile_cons_of_pos
abbrev I6:=@List.dropWhile_sublist
abbrev Dq:=@Nat.mul_one
abbrev F7:=@List.length_eraseIdx
abbrev He:=@Array.getElem?_setIfInBounds_self_of_lt
abbrev CA:=@List.range_succ
abbrev DI:=@List.filter_append
abbrev Fu:=@List.filter_cons
abbrev GR:=@List.prefix_rfl
abbrev GH:=@List.prefix_append
abbrev E6:=@List.mem_range
abbrev Eh:=@List.find?_append
abbrev Br:=@List.find?_eq_none
abbrev Er:=@List.find?_some
abbrev BK:=@List.mem_of_find?_eq_some
abbrev G9:=@List.idxOf_lt_length_of_mem
abbrev Ho:=@List.IsPrefix.subset
abbrev C7:=@List.length_filter_le
abbrev E9:=@Nat.le_succ_of_le
abbrev Ik:=@Option.isSome_iff_exists
abbrev AX:=@Option.some.inj
abbrev I7:=@Bool.and_false
abbrev Iw:=@Option.isSome_some
abbrev IH:=@List.filter_cons_of_neg
abbrev DS:=@Nat.testBit_eq_decide_div_mod_eq
abbrev NK:=@and_true
abbrev Ev:=@Nat.lt_of_lt_of_le
abbrev CT:=@Nat.pow_le_pow_right
abbrev Fk:=@Nat.testBit_lt_two_pow
abbrev Fy:=@Option.isSome_none
abbrev Fz:=@List.perm_ext_iff_of_nodup
abbrev Iy:=@List.all_takeWhile
abbrev Bk:=@List.getD_eq_getElem?_getD
abbrev BA:=@List.map_congr_left
abbrev GS:=@Nat.two_pow_pos
abbrev II:=@Nat.testBit_mod_two_pow
abbrev Fa:=@Nat.testBit_div_two_pow
abbrev JU:=@Nat.eq_of_testBit_eq
abbrev EM:=@Array.getElem?_extract
abbrev Ea:=@List.getElem?_set_self
abbrev JV:=@Prod.ext
abbrev F8:=@List.getElem?_set_ne
abbrev GT:=@List.dropLast_cons_of_ne_nil
abbrev Mg:=@List.cons_ne_nil
abbrev JC:=@List.dropLast_append_of_ne_nil
abbrev Ej:=@List.takeWhile_prefix
abbrev GU:=@List.dropLast_concat_getLast
abbrev Ge:=@List.Sublist.append_left
abbrev Cq:=@List.mem_or_eq_of_mem_set
abbrev Kc:=@Bool.eq_iff_iff
abbrev Fb:=@decide_eq_false_iff_not
abbrev AM:=@List.getElem_toArray
abbrev AK:=@List.getElem_cons_zero
abbrev Iz:=@decide_eq_true_iff
abbrev CB:=@List.length_set
abbrev E1:=@List.mem_of_mem_eraseIdx
abbrev Gf:=@not_not_intro
abbrev Dr:=@List.toList_toArray
abbrev Ks:=@List.set_set
abbrev HN:=@List.map_set
abbrev Jt:=@List.IsPrefix.getElem
abbrev HZ:=@List.getElem_append_right
abbrev Fc:=@List.length_range
abbrev DO:=@List.length_replicate
abbrev Kd:=@Bool.toNat_true
abbrev Mh:=@Bool.toNat_false
abbrev Fd:=@List.foldl_append
abbrev GV:=@List.take_range
abbrev JD:=@List.append_inj'
abbrev AS:=@List.getElem_cons_succ
abbrev GB:=@decide_true
abbrev HO:=@decide_false
abbrev IJ:=@List.prefix_iff_eq_take
abbrev LS:=@Bool.toNat_le
abbrev JE:=@List.find?_eq_some_iff_getElem
abbrev Ha:=@Classical.not_not
theorem Af{p:Prop}(h:p:=by omega):p:=h
theorem BB{p:Prop}(h:p:=by kernel_rfl):p:=h
theorem AZ{p:Prop}(h:p:=by decide):p:=h
abbrev Ap:=List Value
abbrev A4:=List Int
end Go.Proofs
set_option maxHeartbeats 4000000
set_option linter.unusedVariables false
set_option linter.unusedSimpArgs false
namespace Go.Proofs.YtlifcingifodfaaGreat
open Go.ChangeShapes Go.WideShapes Go.ChangeAt Go.RowKit Go.Deep
variable{v:Value}{a ks:List (Option IntKind)}{x:Ap}{r:Reach}{b0:Nat}{t:TypeId}{p:List MemPlace}
def vJ:Option IntKind->Value->Prop
 |some k,v=> ∃a:Int,v= .int k a/\(Lit.int k a).wf=true
 |none,v=> ∃b:Bool,v= .bool b
def AllIs:List (Option IntKind)->Ap->Prop
 |[],cs=>cs=[]
 |k::ks,cs=> ∃c r,cs=c::r/\vJ k c/\AllIs ks r
theorem AllIs.append{b:List (Option IntKind)}{y:Ap}(h:AllIs a x)(k:AllIs b y):AllIs (a++b) (x++y):=by
 induction a generalizing x with
 |nil=>cases h;exact k
 |cons q a ih=>obtain⟨c,r,rfl,h1,h2⟩:=h;exact⟨c,r++y,rfl,h1,ih h2⟩
theorem AllIs.len(h:AllIs a x):x.length=a.length:=by
 induction a generalizing x with
 |nil=>cases h;rfl
 |cons q a ih=>obtain⟨c,r,rfl,h1,h2⟩:=h;simp[ih h2]
def NS(P:Program):Nat->TypeId->Option (List (Option IntKind))
 |0,_=>none
 |n+1,t=>
  match P.underlying t with
  |some (.int k)=>some [some k]
  |some .bool=>some [none]
  |some (.struct fs)=>fs.toList.foldl (λacc f=>acc.bind λl=>(NS P n f.type).bind λks=>if f.offset=l.length/\ks.length=P.cellsOf f.type then some (l++ks) else none) (some []) |>.bind λks=>if ks.length=P.cellsOf t then some ks else none
  |some (.array len e)=>(NS P n e).bind λks=>if ks.length=P.cellsOf e/\len*P.cellsOf e=P.cellsOf t then some ((List.replicate len ks).flatten) else none
  |_=>none
theorem MK{α β:Type}(g:List α->β->Option (List α))(fs:List β):fs.foldl (λacc f=>acc.bind λl=>g l f) none=none:=by
 induction fs with
 |nil=>rfl
 |cons f fs ih=>simpa using ih
theorem SQ{w:World}{a:Addr}(h:w.cell? a=some v):a.block<w.heap.size/\True:=by
 refine⟨?_,trivial⟩;unfold World.cell? at h
 split at h
 ·rename_i ho;exact(BF.1 ho).1
 ·cases h
section
variable{H:Type}{enc:TypeId×Value->H}{P:Program}{w:World}{SK:Nat}{SL:Nat->Bool}{ZB:Bool}
theorem XK(n m:Nat)(ih: ∀(t:TypeId) (m:Nat) (cs:Ap) (x:DataW H×List MemPlace) (ks:List (Option IntKind)),DataW.trod enc P w SK SL ZB m t cs=some x->NS P n t=some ks->AllIs ks cs)(cs:Ap):
 ∀(fs:List Field) (l ks:List (Option IntKind)),(∀f∈fs,∃x,DataW.trod enc P w SK SL ZB m f.type ((cs.drop f.offset).take (P.cellsOf f.type))=some x)->
  AllIs l (cs.take l.length)->fs.foldl (λacc f=>acc.bind λl=>(NS P n f.type).bind λks=>if f.offset=l.length/\ks.length=P.cellsOf f.type then some (l++ks) else none) (some l)=some ks->AllIs ks (cs.take ks.length):=by
 intro fs
 induction fs with
 |nil=>intro l ks _ hl h;simp at h;subst h;exact hl
 |cons f fs ihf=>
  intro l ks hx hl h;simp only[ER,HI] at h;cases hk:NS P n f.type with
  |none=>rw[hk] at h;simp only[Option.bind_none] at h;rw[MK] at h;cases h
  |some kf=>
   rw[hk] at h;simp only[HI] at h;by_cases hc:f.offset=l.length/\kf.length=P.cellsOf f.type
   ·rw[Ac hc] at h;refine ihf _ _ (λg hg=>hx g (An _ hg)) ?_ h;obtain⟨x,hxf⟩:=hx f Ak;have:=ih f.type m _ x kf hxf hk;rw[Ah,List.take_add,<-hc.1];rw[<-hc.2] at this;rw[hc.1] at this⊢;exact hl.append this
   ·rw[Ab hc,MK] at h;cases h
theorem fO(n m:Nat)(e:TypeId)(ks:List (Option IntKind))(ih: ∀(cs:Ap) (x:DataW H×List MemPlace),DataW.trod enc P w SK SL ZB m e cs=some x->AllIs ks cs)(cs:Ap)(hk:ks.length=P.cellsOf e):
 ∀(k:Nat),(∀i,i<k-> ∃x,DataW.trod enc P w SK SL ZB m e ((cs.drop (i*P.cellsOf e)).take (P.cellsOf e))=some x)->AllIs ((List.replicate k ks).flatten) (cs.take (k*P.cellsOf e)):=by
 intro k
 induction k with
 |zero=>intro _;simp[AllIs]
 |succ k ihk=>intro h;have h1:=ihk (λi hi=>h i Af);obtain⟨x,hx⟩:=h k Af;have h2:=ih _ x hx;rw[F5,List.take_add,List.replicate_succ',List.flatten_append];simpa using h1.append h2
theorem Vb: ∀(n:Nat) (t:TypeId) (m:Nat) (cs:Ap) (x:DataW H×List MemPlace) (ks:List (Option IntKind)),DataW.trod enc P w SK SL ZB m t cs=some x->NS P n t=some ks->AllIs ks cs:=by
 intro n
 induction n with
 |zero=>intro t m cs x ks _ h;simp[NS] at h
 |succ n ih=>
  intro t m cs x ks hx h;unfold NS at h
  split at h
  ·rename_i k ht;obtain⟨a,rfl,_,wa⟩:=DataW.trod_int ht hx;cases h;exact⟨_,_,rfl,⟨a,rfl,wa⟩,rfl⟩
  ·rename_i ht;obtain⟨b,rfl,_⟩:=DataW.trod_bool ht hx;cases h;exact⟨_,_,rfl,⟨b,rfl⟩,rfl⟩
  ·rename_i fs ht;obtain⟨xs,m',_,_,hl,Ei,hf⟩:=DataW.trod_struct ht hx;obtain⟨k0,hk0,jy⟩:=IG.1 h;by_cases hc:k0.length=P.cellsOf t
   ·rw[Ac hc] at jy;cases jy;have:=XK n m' ih cs fs.toList [] ks (λf y4=>by
     obtain⟨i,hi,he⟩:=List.getElem_of_mem y4;have h0:=hf i f (by rw[<-Array.getElem?_toList];exact Ay.2 ⟨hi,he⟩);have hix:i<xs.length:=by rw[Ei];simpa using hi
     exact⟨xs[i],by rw[h0];exact Al hix⟩) rfl hk0
    rwa [hc,<-hl,D7] at this
   ·rw[Ab hc] at jy;cases jy
  ·rename_i len e ht;obtain⟨xs,m',_,_,hl,Ei,hf⟩:=DataW.trod_array ht hx;cases hk:NS P n e with
   |none=>rw[hk] at h;cases h
   |some ke=>
    rw[hk] at h;simp only[HI] at h;by_cases hc:ke.length=P.cellsOf e/\len*P.cellsOf e=P.cellsOf t
    ·rw[Ac hc] at h;cases h;have:=fO n m' e ke (λcs' x' jc=>ih e m' cs' x' ke jc hk) cs hc.1 len (λi hi=>by
      have h0:=hf i hi;have hix:i<xs.length:=by omega
      exact⟨xs[i],by rw[h0];exact Al hix⟩)
     rwa [hc.2,<-hl,D7] at this
    ·rw[Ab hc] at h;cases h
  ·cases h
theorem fP{d:DataW H}(n:Nat)
 (oZ:(match P.underlying t with|some (.struct _)|some (.array _ _)=>true|_=>false)=true)(hk:NS P n t=some ks)
 (hv:Value.okWide P w r b0 t v)(h:DataW.Trod enc P w SK SL ZB t v d p): ∃cs:Ap,v= .agg cs.toArray/\AllIs ks cs:=by
 obtain⟨cs,rfl⟩: ∃cs,v= .agg cs:=by
  unfold Value.okWide at hv
  split at hv
  ·obtain⟨cs,h1,_⟩:=hv;exact⟨cs,h1⟩
  ·obtain⟨cs,h1,_⟩:=hv;exact⟨cs,h1⟩
  ·rename_i h1 h2
   split at oZ
   ·rename_i hu;exact absurd hu (h1 _)
   ·rename_i hu;exact absurd hu (h2 _ _)
   ·cases oZ
 obtain⟨XC,hf⟩:=h;simp only[Value.cells] at hf;exact⟨cs.toList,by simp,Vb n t XC _ _ ks hf hk⟩
structure Wk(ks:List (Option IntKind))(w:World)(a:Option Addr)(len cap:Nat)(rows:List (Ap)):Prop where
 nil:a=none->len=0/\cap=0
 le:len<=cap
 max:cap<=maxLen
 size:rows.length=len
 all: ∀r∈rows,AllIs ks r
 at_:0<len-> ∃b off,a=some ⟨b,off,none⟩/\b<w.heap.size/\ ∀i j,i<len->j<ks.length->w.cell? ⟨b,off+i*ks.length+j,none⟩=(rows[i]?.getD [])[j]?
theorem fR{e:TypeId}{d:DataW H}(n:Nat)
 (ht:P.underlying t=some (.slice e))(hk:NS P n e=some ks)(Xn:ks.length=P.cellsOf e)(y5:0<P.cellsOf e)
 (hv:Value.okWide P w r b0 t v)(h:DataW.Trod enc P w SK SL ZB t v d p):
 ∃a len cap rows,v= .slice a len cap/\Wk ks w a len cap rows:=by
 obtain⟨a0,len,cap,rfl⟩:=okWide_slice ht hv;obtain⟨XC,hf⟩:=h;simp only[Value.cells] at hf;rcases open_slice ht hf with⟨Og,_⟩|⟨a,len',cap',m,n',D,Pl,Og,hb,hl,hm,hmm,_,uH⟩
 ·simp at Og;obtain⟨rfl,rfl,rfl⟩:=Og;exact⟨none,0,0,[],rfl,⟨λ_=>⟨rfl,rfl⟩,Bd _,Bm _,rfl,by simp,by simp⟩⟩
 ·simp at Og;obtain⟨rfl,rfl,rfl⟩:=Og;have hlm:len<=m:=by rw[hmm];split<;>omega
  have hch: ∀i,i<len-> ∃cs',w.cells? SK (a.add (i*P.cellsOf e)) (P.cellsOf e)=some cs'/\AllIs ks cs':=λi hi=>by obtain⟨cs',h1,h2⟩:=uH i Af;exact⟨cs',h1,Vb n e n' cs' _ ks h2 hk⟩
  refine⟨some a,len,cap,(List.range len).map λi=>(w.cells? SK (a.add (i*P.cellsOf e)) (P.cellsOf e)).getD [],rfl,⟨by simp,hl,hm,by simp,?_,?_⟩⟩
  ·intro r hr;obtain⟨i,hi,rfl⟩:=Au.1 hr;obtain⟨cs',h1,h2⟩:=hch i (by simpa using hi);rw[h1];exact h2
  ·intro h0;obtain⟨cs0,h1,h2⟩:=hch 0 h0;obtain⟨_,pB,uI⟩:=World.cells?_some h1;have uJ:=uI 0 y5;have y6:0<cs0.length:=by omega
   rw[Al y6] at uJ;have DB:=World.cell?_spot uJ;obtain⟨b,off,spot⟩:=a;simp[Addr.add] at DB;subst DB;refine⟨b,off,rfl,?_,λi j hi hj=>?_⟩
   ·have:=(SQ uJ).1;simpa[Addr.add] using this
   ·obtain⟨cs',h1,h2⟩:=hch i hi;obtain⟨_,o4,pC⟩:=World.cells?_some h1;have:=pC j Af;simp only[A5,Fh hi,BQ,Di,h1];rw[<-this,Xn];congr 1;unfold Addr.add;by_cases hi0:i*P.cellsOf e=0
    ·rw[Ac hi0,hi0];by_cases uK:j=0
     ·rw[Ac uK];simp[uK]
     ·rw[Ab uK];simp
    ·rw[Ab hi0];by_cases uK:j=0
     ·rw[Ac uK];simp[uK]
     ·rw[Ab uK]
end
end Go.Proofs.YtlifcingifodfaaGreat
namespace Go.Proofs.YtlifcingifodfaaGreat
open Go.RowKit
variable{P:Program}{t:TypeId}{b i:Nat}{α:Type}{W E:World}{a:Act}{c:Code}{cs:Array Value}{fz:Nat×Nat}{k:List Item}{o o':Obj}
theorem XL{c:Array Value}{fr:Nat×Nat}(h:W.heap[b]?=some (.cells c t fr)): ∀i,W.cell? ⟨b,i,none⟩=c[i]?:=λi=>by simp[World.cell?,h]
theorem pW{c:Array Value}{fr:Nat×Nat}(h:W.heap[b]?=some (.cells c t fr))(v:Value):(W.setCell ⟨b,i,none⟩ v).heap[b]?=some (.cells (c.setIfInBounds i v) t fr):=by obtain⟨Dc,hk⟩:=BF.1 h;show(W.heap.modify b _)[b]?=_;rw[CJ (by rw[Array.size_modify];exact Dc),Array.getElem_modify_self,hk];rfl
theorem JW{b:Frame}{cs:List Frame}{w:World}:step P (lone (b.atR a (.code (.scope c)::k)) cs w)= .next (lone (b.atR a (.code c:: .inScope c::k)) cs w):=
 step_lone_go (by simp[stepG,stepG.exec,Frame.atR])
theorem US{b:Frame}{cs:List Frame}{w:World}:step P (lone (b.atR a (.inScope c::k)) cs w)= .next (lone (b.atR a k) cs w):=
 step_lone_go (by simp[stepG,stepG.exec,Frame.atR])
theorem ZS{F:Fence}{n:Nat}{Q:Exit->Act->World->Prop}{w:World}(h:c.wpIn F n P (Exit.noGoto Q) a w):(Code.scope c).wpIn F n P Q a w:=by
 intro b k cs jd hb hr;have h0:(lone (b.atR a (.code (.scope c)::k)) cs w).fenced P F:=fenced_calm hb hr rfl;obtain⟨e,a₁,w₁,hq,harr⟩:=h b (.inScope c::k) cs jd hb hr;cases e with
 |normal=>exact⟨.normal,a₁,w₁,hq,.head h0 JW (StepsIn.trans harr (.one (fenced_calm hb hr rfl) US))⟩
 |exit id=>exact⟨.exit id,a₁,w₁,hq,.of_steps (.one h0 JW) ⟨λk' hk=>harr.1 k' (by simp[exitTo,hk]),λUH hk=>harr.2 UH (by simp[exitTo,hk])⟩⟩
 |goto l=>exact hq.elim
 |ret=>exact⟨_,a₁,w₁,hq,.of_steps (.one h0 JW) harr⟩
 |panic ch=>exact⟨_,a₁,w₁,hq,.of_steps (.one h0 JW) harr⟩
 |outgrown=>exact⟨_,a₁,w₁,hq,.of_steps (.one h0 JW) harr⟩
abbrev Bg:=Nat×Obj
abbrev Ad:=List Bg
variable{l:Ad}
structure Sat(E:World)(l:Ad)(W:World):Prop where
 os:W.os=E.os
 tape:W.tape=E.tape
 output:W.output=E.output
 nodup:(l.map Prod.fst).Nodup
 has: ∀c,c∈l->W.heap[c.1]?=some c.2
section
variable{l':Ad}{c:Bg}
theorem Sat.perm(h:Sat E l W)(p:l.Perm l'):Sat E l' W:=
 ⟨h.os,h.tape,h.output,(p.map _).nodup_iff.1 h.nodup,λc hc=>h.has c (p.mem_iff.2 hc)⟩
theorem Sat.sub(h:Sat E l W)(s:l'.Sublist l):Sat E l' W:=
 ⟨h.os,h.tape,h.output,List.Nodup.sublist (s.map _) h.nodup,λc hc=>h.has c (s.subset hc)⟩
theorem Sat.tail(h:Sat E (c::l) W):Sat E l W:=h.sub (D8 _ _)
theorem Sat.lt(h:Sat E l W)(hc:c∈l):c.1<W.heap.size:=(BF.1 (h.has c hc)).1
theorem Sat.drawn(h:Sat E l W)(n:Nat):Sat E l {W with drawn:=n}:=⟨h.os,h.tape,h.output,h.nodup,h.has⟩
theorem Sat.drew(h:Sat E l W):Sat E l W.drew:=⟨h.os,h.tape,h.output,h.nodup,h.has⟩
theorem Sat.alloc(h:Sat E l W)(o:Obj):Sat E ((W.heap.size,o)::l) (W.alloc o):=by
 refine⟨h.os,h.tape,h.output,?_,λc hc=>?_⟩
 ·rw[AJ,AP];refine⟨λhm=>?_,h.nodup⟩;obtain⟨c,hc,he⟩:=Au.1 hm;have:=h.lt hc;simp only at he;omega
 ·rcases At.1 hc with rfl|hc
  ·exact World.alloc_heap_new W o
  ·exact(Below.heap_alloc W o c.1 (h.lt hc)).trans (h.has c hc)
inductive Upd:Ad->Nat->Obj->Obj->Ad->Prop
 |here {l:Ad} {b:Nat} {o o':Obj}:Upd ((b,o)::l) b o o' ((b,o')::l)
 |there {l l':Ad} {b:Nat} {o o':Obj} {c:Bg}:Upd l b o o' l'->Upd (c::l) b o o' (c::l')
theorem Upd.mem(h:Upd l b o o' l'):(b,o)∈l:=by
 induction h with
 |here=>exact Ak
 |there _ ih=>exact An _ ih
theorem Upd.keys(h:Upd l b o o' l'):l'.map Prod.fst=l.map Prod.fst:=by
 induction h with
 |here=>rfl
 |there _ ih=>simp[ih]
theorem Upd.inv(h:Upd l b o o' l'): ∀c,c∈l'->c=(b,o')\/c∈l:=by
 induction h with
 |here=>intro c hc;rcases At.1 hc with rfl|hc
        ·exact .inl rfl
        ·exact .inr (An _ hc)
 |there _ ih=>intro c hc;rcases At.1 hc with rfl|hc
              ·exact .inr Ak
              ·exact(ih c hc).imp id (An _)
theorem fS(h:(l.map Prod.fst).Nodup)(h1:(b,o)∈l)(h2:(b,o')∈l):o=o':=by
 induction l with
 |nil=>cases h1
 |cons c l ih=>
  rw[AJ,AP] at h;rcases At.1 h1 with e1|h1<;>rcases At.1 h2 with e2|h2
  ·rw[<-e1] at e2;cases e2;rfl
  ·exact absurd (Au.2 ⟨_,h2,by rw[<-e1]⟩) h.1
  ·exact absurd (Au.2 ⟨_,h1,by rw[<-e2]⟩) h.1
  ·exact ih h.2 h1 h2
theorem Upd.other(h:Upd l b o o' l')(hn:(l.map Prod.fst).Nodup): ∀c,c∈l'->c=(b,o')\/(c∈l/\c.1≠b):=by
 intro c hc;by_cases hb:c.1=b
 ·left;obtain⟨k,x⟩:=c;simp only at hb;subst hb;have hm:(k,o')∈l':=by
   clear hc hn
   induction h with
   |here=>exact Ak
   |there _ ih=>exact An _ ih
  rw[fS (by rw[h.keys];exact hn) hc hm]
 ·rcases h.inv c hc with rfl|hc
  ·exact absurd rfl hb
  ·exact .inr ⟨hc,hb⟩
theorem Sat.upd(h:Sat E l W)(u:Upd l b o o' l'):Sat E l' (W.putObj b o'):=by
 refine⟨h.os,h.tape,h.output,by rw[u.keys];exact h.nodup,λc hc=>?_⟩;rcases u.other h.nodup c hc with rfl|⟨hm,G5⟩
 ·exact World.putObj_heap_same (h.lt u.mem)
 ·exact(World.putObj_heap_other G5).trans (h.has c hm)
theorem Sat.setCell{v:Value}(h:Sat E l W)(u:Upd l b (.cells cs t fz) (.cells (cs.setIfInBounds i v) t fz) l'):Sat E l' (W.setCell ⟨b,i,none⟩ v):=by
 refine⟨h.os,h.tape,h.output,by rw[u.keys];exact h.nodup,λc hc=>?_⟩;rcases u.other h.nodup c hc with rfl|⟨hm,G5⟩
 ·exact pW (h.has _ u.mem) v
 ·exact(Below.heap_setCell _ _ _ _ G5).trans (h.has c hm)
theorem Sat.cell(h:Sat E l W)(hm:(b,Obj.cells cs t fz)∈l)(i:Nat):W.cell? ⟨b,i,none⟩=cs[i]?:=XL (h.has _ hm) i
theorem Sat.frz(h:Sat E l W)(hm:(b,Obj.cells cs t fz)∈l)(i:Nat):W.frozen? ⟨b,i,none⟩=(decide (fz.1<=i)&&decide (i<fz.2)):=by obtain⟨lo,hi⟩:=fz;simp[World.frozen?,h.has _ hm]
end
def sl(P:Program){α:Type}:Sem α->Ad->(α->Ad->Prop)->Prop
 | .pure a,l,Q=>Q a l
 | .load _ a k,l,Q=> ∃c t fz v,(a.block,Obj.cells c t fz)∈l/\a.spot=none/\c[a.off]?=some v/\sl P (k v) l Q
 | .store _ a v k,l,Q=>v.oneCell'=true/\ ∃c t fz l',Upd l a.block (.cells c t fz) (.cells (c.setIfInBounds a.off v) t fz) l'/\a.spot=none/\a.off<c.size/\(decide (fz.1<=a.off)&&decide (a.off<fz.2))=false/\sl P k l' Q
 | .new o k,l,Q=> ∀b,(∀c,c∈l->c.1≠b)->sl P (k b) ((b,o)::l) Q
 | .shape r k,l,Q=> ∃c t fz,(r,Obj.cells c t fz)∈l/\sl P (k (some (t,c.size))) l Q
 | .frozen a k,l,Q=> ∃c t fz,(a.block,Obj.cells c t fz)∈l/\a.spot=none/\sl P (k (decide (fz.1<=a.off)&&decide (a.off<fz.2))) l Q
 | .getObj r k,l,Q=> ∃o,(r,o)∈l/\o.isCells=false/\sl P (k o) l Q
 | .setObj r o' k,l,Q=> ∃o l',Upd l r o o' l'/\o.isCells=false/\sl P k l' Q
 | .choose q k,l,Q=> ∀t,sl P (k (if q.forced then 0 else q.cut t)) l Q
 | .program k,l,Q=>sl P (k P) l Q
 | .mark _ k,l,Q=>sl P k l Q
 | .halt _,_,_=>False
 | .freeze ..,_,_=>False
 | .sys ..,_,_=>False
theorem pX{Q Q':α->Ad->Prop}(hq: ∀a l,Q a l->Q' a l)(s:Sem α): ∀l,sl P s l Q->sl P s l Q':=by
 induction s with
 |pure a=>exact λl h=>hq _ _ h
 |load m a k ih=>rintro l ⟨c,t,fz,v,h1,h2,h3,h4⟩;exact⟨c,t,fz,v,h1,h2,h3,ih _ _ h4⟩
 |store m a v k ih=>rintro l ⟨h0,c,t,fz,l',h1,h2,h3,h4,h5⟩;exact⟨h0,c,t,fz,l',h1,h2,h3,h4,ih _ h5⟩
 |new o k ih=>exact λl h b hb=>ih _ _ (h b hb)
 |shape r k ih=>rintro l ⟨c,t,fz,h1,h2⟩;exact⟨c,t,fz,h1,ih _ _ h2⟩
 |frozen a k ih=>rintro l ⟨c,t,fz,h1,h2,h3⟩;exact⟨c,t,fz,h1,h2,ih _ _ h3⟩
 |getObj r k ih=>rintro l ⟨o,h1,h2,h3⟩;exact⟨o,h1,h2,ih _ _ h3⟩
 |setObj r o' k ih=>rintro l ⟨o,l',h1,h2,h3⟩;exact⟨o,l',h1,h2,ih _ h3⟩
 |choose q k ih=>exact λl h t=>ih _ _ (h t)
 |program k ih=>exact λl h=>ih _ _ h
 |mark m k ih=>exact λl h=>ih _ h
 |halt h=>exact λl h=>h
 |freeze a n k ih=>exact λl h=>h
 |sys c k ih=>exact λl h=>h
theorem AC{β:Type}{Q:β->Ad->Prop}{f:α->Sem β}(s:Sem α): ∀l,sl P (s>>=f) l Q<->sl P s l (λa l'=>sl P (f a) l' Q):=by
 show∀l,sl P (s.bind f) l Q<->_
 induction s with
 |pure a=>exact λl=>DF
 |load m a k ih=>intro l;simp only[Sem.bind,sl,ih]
 |store m a v k ih=>intro l;simp only[Sem.bind,sl,ih]
 |new o k ih=>intro l;simp only[Sem.bind,sl,ih]
 |shape r k ih=>intro l;simp only[Sem.bind,sl,ih]
 |frozen a k ih=>intro l;simp only[Sem.bind,sl,ih]
 |getObj r k ih=>intro l;simp only[Sem.bind,sl,ih]
 |setObj r o' k ih=>intro l;simp only[Sem.bind,sl,ih]
 |choose q k ih=>intro l;simp only[Sem.bind,sl,ih]
 |program k ih=>intro l;simp only[Sem.bind,sl,ih]
 |mark m k ih=>intro l;simp only[Sem.bind,sl,ih]
 |halt h=>exact λl=>DF
 |freeze a n k ih=>exact λl=>DF
 |sys c k ih=>exact λl=>DF
theorem Bn{Q:α->Ad->Prop}(a:α)(l:Ad):sl P (pure a:Sem α) l Q<->Q a l:=DF
theorem jT{Q:α->Ad->Prop}(s:Sem α): ∀(l:Ad) (W:World),sl P s l Q->Sat E l W-> ∃a W' l',s.run P W= .ok a W'/\Q a l'/\Sat E l' W':=by
 induction s with
 |pure a=>exact λl W h hs=>⟨a,W,l,rfl,h,hs⟩
 |load m a k ih=>rintro l W ⟨c,t,fz,v,h1,h2,h3,h4⟩ hs;obtain⟨x,W',l',hr,hq,hs'⟩:=ih v l W h4 hs;obtain⟨ab,ao,asp⟩:=a;simp only at h2 h3 h1;subst h2;exact⟨x,W',l',by simp[Sem.run,hs.cell h1,h3,hr],hq,hs'⟩
 |store m a v k ih=>rintro l W ⟨h0,c,t,fz,l1,h1,h2,h3,h4,h5⟩ hs;obtain⟨ab,ao,asp⟩:=a;simp only at h2 h3 h1 h4;subst h2;obtain⟨x,W',l',hr,hq,hs'⟩:=ih l1 _ h5 (hs.setCell h1);refine⟨x,W',l',?_,hq,hs'⟩;have hc:=hs.cell h1.mem ao;rw[CJ h3] at hc;have hf:=(hs.frz h1.mem ao).trans h4;cases v<;>simp only[Value.oneCell',Bl] at h0<;>simp[Sem.run,hc,hf,hr]
 |new o k ih=>intro l W h hs;obtain⟨x,W',l',hr,hq,hs'⟩:=ih W.heap.size _ (W.alloc o) (h W.heap.size (λc hc=>by have:=hs.lt hc;omega)) (hs.alloc o);exact⟨x,W',l',hr,hq,hs'⟩
 |shape r k ih=>
  rintro l W ⟨c,t,fz,h1,h2⟩ hs;obtain⟨x,W',l',hr,hq,hs'⟩:=ih _ l W h2 hs;refine⟨x,W',l',?_,hq,hs'⟩;have:W.shape? r=some (t,c.size):=by simp[World.shape?,hs.has _ h1]
  simp[Sem.run,this,hr]
 |frozen a k ih=>rintro l W ⟨c,t,fz,h1,h2,h3⟩ hs;obtain⟨ab,ao,asp⟩:=a;simp only at h2 h3 h1;subst h2;obtain⟨x,W',l',hr,hq,hs'⟩:=ih _ l W h3 hs;exact⟨x,W',l',by simp only[Sem.run,hs.frz h1];exact hr,hq,hs'⟩
 |getObj r k ih=>rintro l W ⟨o,h1,h2,h3⟩ hs;obtain⟨x,W',l',hr,hq,hs'⟩:=ih _ l W h3 hs;refine⟨x,W',l',?_,hq,hs'⟩;have:=hs.has _ h1;simp only at this;cases o<;>first|(simp[Obj.isCells] at h2;done)|simp[Sem.run,this,hr]
 |setObj r o' k ih=>rintro l W ⟨o,l1,h1,h2,h3⟩ hs;obtain⟨x,W',l',hr,hq,hs'⟩:=ih l1 _ h3 (hs.upd h1);refine⟨x,W',l',?_,hq,hs'⟩;have:=hs.has _ h1.mem;simp only at this;simp only[World.putObj] at hr;cases o<;>first|(simp[Obj.isCells] at h2;done)|simp[Sem.run,this,hr]
 |choose q k ih=>
  intro l W h hs;by_cases hf:q.forced=true
  ·obtain⟨x,W',l',hr,hq,hs'⟩:=ih _ l W (h 0) hs;refine⟨x,W',l',?_,hq,hs'⟩;rw[Ac hf] at hr;simp[Sem.run,hf,hr]
  ·obtain⟨x,W',l',hr,hq,hs'⟩:=ih _ l {W with drawn:=W.drawn+1} (h (W.tape W.drawn q)) (hs.drawn _);refine⟨x,W',l',?_,hq,hs'⟩;rw[Ab hf] at hr;simp only[Bool.not_eq_true] at hf;simp[Sem.run,hf];exact hr
 |program k ih=>exact λl W h hs=>ih _ l W h hs
 |mark m k ih=>exact λl W h hs=>ih l W h hs
 |halt h=>exact λl W h hs=>h.elim
 |freeze a n k ih=>exact λl W h hs=>h.elim
 |sys c k ih=>exact λl W h hs=>h.elim
end Go.Proofs.YtlifcingifodfaaGreat
