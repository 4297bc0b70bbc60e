/- Laws that the statement's proof leans on (joined out of several texts). -/
import Derived.WalkKit
import Derived.ProofKit
import Derived.OpenShut
import Derived.ChangeOld
import Derived.Below
import Derived.Deep.Slices
import Derived.Handy
import Derived.RangeFuncNested
import Derived.RangeFuncBound
import Derived.RangeFuncCalls
import Derived.RangeFuncLeaves
import Derived.Shelf.Abstract
import Derived.Shelf.RegionOpen
import Derived.OwnWalkIn
import Derived.TacticsInMore
import Derived.LoopNIn
import Derived.LoopIn
import Derived.WalkSmall
import Derived.Lib.Hide
import Derived.BigFrameIn
import Derived.BigRegion
import Derived.Deep.QuietTactic
import Derived.BigQuiet
import Derived.WalkMore
import Derived.KernelRfl
namespace Go.Proofs
abbrev BH:=@Array.getElem?_eq_some_iff
abbrev D6:=@List.foldl_cons
abbrev HO:=@Option.bind_some
abbrev Ad:=@if_pos
abbrev An:=@List.mem_cons_of_mem
abbrev Ak:=@List.mem_cons_self
abbrev Ah:=@List.length_append
abbrev Ab:=@if_neg
abbrev F7:=@Nat.succ_mul
abbrev IP:=@Option.bind_eq_some_iff
abbrev Ig:=@List.getElem_of_mem
abbrev Ay:=@List.getElem?_eq_some_iff
abbrev Al:=@List.getElem?_eq_getElem
abbrev D8:=@List.take_length
abbrev Bf:=@Nat.le_refl
abbrev Bp:=@Nat.zero_le
abbrev Av:=@List.mem_map
abbrev A6:=@List.getElem?_map
abbrev Fh:=@List.getElem?_range
abbrev BU:=@Option.map_some
abbrev Dx:=@Option.getD_some
abbrev CP:=@Array.getElem?_eq_getElem
abbrev D9:=@List.sublist_cons_self
abbrev AJ:=@List.map_cons
abbrev AP:=@List.nodup_cons
abbrev At:=@List.mem_cons
abbrev DG:=@Iff.rfl
abbrev Bm:=@Bool.false_eq_true
abbrev Do:=@Array.getD_eq_getD_getElem?
abbrev FI:=@Nat.eq_of_beq_eq_true
abbrev Gs:=@Array.getElem?_setIfInBounds_ne
abbrev Mt:=@Nat.le_of_not_lt
abbrev Ev:=@Nat.lt_of_le_of_lt
abbrev CS:=@if_true
abbrev C6:=@if_false
abbrev Ea:=@Option.map_eq_some_iff
abbrev Db:=@List.getElem?_cons_succ
abbrev AE:=@List.getElem?_toArray
abbrev Bu:=@List.length_cons
abbrev K6:=@Array.append_empty
abbrev BP:=@Array.toList_inj
abbrev LL:=@Array.toList_push
abbrev F8:=@Array.toList_extract
abbrev Cj:=@List.extract_eq_take_drop
abbrev Am:=@List.append_assoc
abbrev Cn:=@List.singleton_append
abbrev Di:=@List.drop_eq_getElem_cons
abbrev J0:=@Nat.add_assoc
abbrev CV:=@Nat.add_zero
abbrev K7:=@Array.empty_append
abbrev Dj:=@List.map_toArray
abbrev CX:=@List.map_nil
abbrev BB:=@List.setIfInBounds_toArray
abbrev Cv:=@List.set_append_right
abbrev Fy:=@List.set_cons_zero
abbrev Bl:=@List.length_singleton
abbrev BF:=@Nat.zero_add
abbrev KM:=@Nat.add_comm
abbrev Au:=@decide_eq_true
abbrev Aw:=@decide_eq_false
abbrev I9:=@List.Perm.refl
abbrev AI:=@List.perm_middle
abbrev EZ:=@List.Perm.append_left
abbrev In:=@List.all_cons
abbrev AV:=@Bool.and_eq_true
abbrev Aa:=@List.mem_append_right
abbrev Ja:=@List.Perm.append_right
abbrev Ej:=@List.perm_append_comm
abbrev A5:=@List.all_eq_true
abbrev Es:=@Bool.or_eq_true
abbrev JL:=@beq_iff_eq
abbrev Bk:=@decide_eq_true_eq
abbrev LM:=@Array.getElem_mem
abbrev PF:=@bne_iff_ne
abbrev Cf:=@List.pairwise_cons
abbrev FJ:=@Ne.symm
abbrev AF:=@List.mem_append
abbrev Ai:=@List.mem_append_left
abbrev Aq:=@List.map_append
abbrev Ae:=@List.cons_append
abbrev Br:=@List.pairwise_append
abbrev GN:=@List.append_of_mem
abbrev KC:=@List.Sublist.append
abbrev EO:=@List.Sublist.refl
abbrev Bj:=@List.append_nil
abbrev Ag:=@List.nil_append
abbrev Co:=@List.cons.injEq
abbrev JE:=@List.contains_iff_mem
abbrev HP:=@List.any_eq_true
abbrev DU:=@Bool.not_eq_true'
abbrev D3:=@List.nodup_iff_pairwise_ne
abbrev Cx:=@List.pairwise_map
abbrev Gz:=@List.length_eq_zero_iff
abbrev Io:=@true_and
abbrev BI:=@congrArg
abbrev A7:=@List.length_map
abbrev Jb:=@Option.some.injEq
abbrev IC:=@List.getElem?_take
abbrev K8:=@List.getElem?_drop
abbrev Fp:=@Nat.add_mul
abbrev Ef:=@List.eq_nil_of_length_eq_zero
abbrev Bv:=@List.size_toArray
abbrev F9:=@Nat.mul_le_mul_right
abbrev DN:=@List.length_drop
abbrev AH:=@List.getElem?_append_left
abbrev K9:=@Nat.pos_of_ne_zero
abbrev CI:=@List.ext_getElem?
abbrev BL:=@List.replicate_succ
abbrev Cy:=@List.flatten_cons
abbrev Dy:=@Nat.mod_eq_of_lt
abbrev AY:=@List.getElem?_append_right
abbrev KD:=@Nat.succ_eq_add_one
abbrev La:=@Nat.mod_eq_sub_mod
abbrev Mu:=@Array.toList_map
abbrev Lb:=@Array.toList_range
abbrev Ho:=@Nat.mod_lt
abbrev GA:=@List.getElem!_eq_getElem?_getD
abbrev Bg:=@List.getElem?_eq_none
abbrev DV:=@Nat.sub_self
abbrev DK:=@Option.map_none
abbrev Dc:=@List.getElem?_cons_zero
abbrev El:=@List.eq_of_mem_replicate
abbrev Ih:=@Array.toList_modify
abbrev Jx:=@List.eraseIdxIfInBounds_toArray
abbrev Dp:=@List.eraseIdx_eq_take_drop_succ
abbrev Hd:=@List.map_take
abbrev BY:=@List.mem_filter
abbrev GB:=@List.getElem_mem
abbrev BJ:=@List.find?_cons
abbrev GO:=@Nat.zero_mul
abbrev Hp:=@Bool.not_false
abbrev Bc:=@List.mem_of_getElem?
abbrev HQ:=@List.nil_sublist
abbrev AA:=@List.perm_append_comm_assoc
abbrev Jc:=@Nat.mul_le_mul
abbrev Cg:=@List.Sublist.subset
abbrev Bw:=@Bool.true_and
abbrev Bi:=@Bool.false_and
abbrev Cp:=@List.take_append_drop
abbrev GC:=@List.foldl_nil
abbrev DH:=@List.drop_of_length_le
abbrev Lc:=@List.drop_drop
abbrev Iw:=@List.headD_cons
abbrev Fe:=@List.length_nil
abbrev Hq:=@Std.Legacy.Range.forIn_eq_forIn_range'
abbrev LN:=@List.mem_range'_1
abbrev Cz:=@List.flatMap_cons
abbrev GX:=@List.take_left'
abbrev JM:=@List.drop_append
abbrev E7:=@List.extract_toArray
abbrev CJ:=@Nat.add_sub_cancel_left
abbrev BC:=@List.nodup_append
abbrev LP:=@Nat.lt_succ_of_lt
abbrev AC:=@List.mem_singleton
abbrev HR:=@Nat.lt_succ_self
abbrev I5:=@List.eraseIdx_append_of_length_le
abbrev A0:=@Int.toNat_natCast
abbrev EW:=@Nat.min_eq_left
abbrev D4:=@BitVec.ofInt_natCast
abbrev Ew:=@BitVec.toNat_ofNat
abbrev Mv:=@BitVec.toNat_and
abbrev Kr:=@Nat.and_le_left
abbrev BV:=@Nat.le_trans
abbrev Ks:=@Int.natCast_mul
abbrev Mh:=@Bool.false_or
abbrev MZ:=@Nat.mul_comm
abbrev Fj:=@Array.getElem?_eq_none
abbrev Jd:=@List.tail_cons
abbrev Jy:=@List.replicate_append_replicate
abbrev DI:=@Array.ext_getElem?
abbrev ED:=@List.getElem?_replicate
abbrev Ch:=@List.take_add_one
abbrev BK:=@List.take_prefix
abbrev BD:=@List.take_of_length_le
abbrev Ec:=@List.flatMap_append
abbrev CY:=@List.map_map
abbrev Iy:=@List.drop_left'
abbrev Dk:=@List.length_take
abbrev JN:=@List.mem_flatMap
abbrev BQ:=@List.not_mem_nil
abbrev EE:=@or_false
abbrev I6:=@List.set_eq_take_append_cons_drop
abbrev Hr:=@List.set_append_left
abbrev ID:=@List.set_cons_succ
abbrev EP:=@List.getElem?_set
abbrev ER:=@of_decide_eq_true
abbrev I7:=@List.findIdx?_eq_some_iff_getElem
abbrev J8:=@List.getElem?_of_mem
abbrev GY:=@List.takeWhile_append_of_pos
abbrev Fz:=@List.takeWhile_cons_of_neg
abbrev Hs:=@List.dropWhile_cons_of_neg
abbrev FT:=@List.pairwise_iff_getElem
abbrev Cd:=@List.takeWhile_append_dropWhile
abbrev Ht:=@List.takeWhile_cons_of_pos
abbrev Je:=@List.dropWhile_sublist
abbrev Dr:=@Nat.mul_one
abbrev Ga:=@List.length_eraseIdx
abbrev Hl:=@Array.getElem?_setIfInBounds_self_of_lt
abbrev CC:=@List.range_succ
abbrev DJ:=@List.filter_append
abbrev Fv:=@List.filter_cons
abbrev GZ:=@List.prefix_rfl
abbrev GP:=@List.prefix_append
abbrev Dz:=@List.mem_range
abbrev Eg:=@List.find?_append
abbrev Bq:=@List.find?_eq_none
abbrev Et:=@List.find?_some
abbrev Bt:=@List.mem_of_find?_eq_some
abbrev Hg:=@List.idxOf_lt_length_of_mem
abbrev Hu:=@List.IsPrefix.subset
abbrev C8:=@List.length_filter_le
abbrev Fa:=@Nat.le_succ_of_le
abbrev Ip:=@Option.isSome_iff_exists
abbrev AZ:=@Option.some.inj
abbrev Jf:=@Bool.and_false
abbrev IE:=@Option.isSome_some
abbrev IQ:=@List.filter_cons_of_neg
abbrev DW:=@Nat.testBit_eq_decide_div_mod_eq
abbrev Jg:=@and_true
abbrev Ex:=@Nat.lt_of_lt_of_le
abbrev CZ:=@Nat.pow_le_pow_right
abbrev Fk:=@Nat.testBit_lt_two_pow
abbrev FA:=@Option.isSome_none
abbrev FB:=@List.perm_ext_iff_of_nodup
abbrev IF:=@List.all_takeWhile
abbrev AO:=@List.getD_eq_getElem?_getD
abbrev By:=@List.map_congr_left
abbrev G1:=@Nat.two_pow_pos
abbrev IR:=@Nat.testBit_mod_two_pow
abbrev Fb:=@Nat.testBit_div_two_pow
abbrev J9:=@Nat.eq_of_testBit_eq
abbrev ES:=@Array.getElem?_extract
abbrev CD:=@List.getElem?_set_self
abbrev G3:=@Prod.ext
abbrev Gb:=@List.getElem?_set_ne
abbrev G5:=@List.dropLast_cons_of_ne_nil
abbrev Mw:=@List.cons_ne_nil
abbrev JO:=@List.dropLast_append_of_ne_nil
abbrev Ek:=@List.takeWhile_prefix
abbrev G6:=@List.dropLast_concat_getLast
abbrev Gk:=@List.Sublist.append_left
abbrev CQ:=@List.mem_or_eq_of_mem_set
abbrev Kt:=@Bool.eq_iff_iff
abbrev EF:=@decide_eq_false_iff_not
abbrev AM:=@List.getElem_toArray
abbrev AK:=@List.getElem_cons_zero
abbrev IG:=@decide_eq_true_iff
abbrev Ce:=@List.length_set
abbrev Gl:=@List.mem_of_mem_eraseIdx
abbrev Gm:=@not_not_intro
abbrev DQ:=@List.toList_toArray
abbrev KO:=@List.set_set
abbrev HT:=@List.map_set
abbrev JF:=@List.IsPrefix.getElem
abbrev Ic:=@List.getElem_append_right
abbrev Fc:=@List.length_range
abbrev JG:=@List.length_replicate
abbrev Ku:=@Bool.toNat_true
abbrev Mx:=@Bool.toNat_false
abbrev Fd:=@List.foldl_append
abbrev G7:=@List.take_range
abbrev JP:=@List.append_inj'
abbrev AR:=@List.getElem_cons_succ
abbrev GK:=@decide_true
abbrev HU:=@decide_false
abbrev IS:=@List.prefix_iff_eq_take
abbrev Mi:=@Bool.toNat_le
abbrev JQ:=@List.find?_eq_some_iff_getElem
abbrev Hh:=@Classical.not_not
theorem Af{p:Prop}(h:p:=by omega):p:=h
theorem BA{p:Prop}(h:p:=by kernel_rfl):p:=h
theorem AX{p:Prop}(h:p:=by decide):p:=h
abbrev Ap:=List Value
abbrev A4:=List Int
end Go.Proofs
set_option maxHeartbeats 4000000
set_option linter.unusedVariables false
set_option linter.unusedSimpArgs false
namespace Go.Proofs.YtlifcingifodfaaGreat
open List(toArray)
open Go.ChangeShapes Go.WideShapes Go.ChangeAt Go.RowKit Go.Deep
variable{v:Value}{a ks:List (Option IntKind)}{x:Ap}{r:Reach}{b0:Nat}{t:TypeId}{p:List MemPlace}
def wX:Option IntKind->Value->Prop
 |some k,v=> ∃a:Int,v= .int k a/\(Lit.int k a).wf=true
 |none,v=> ∃b:Bool,v= .bool b
def AllIs:List (Option IntKind)->Ap->Prop
 |[],cs=>cs=[]
 |k::ks,cs=> ∃c r,cs=c::r/\wX k c/\AllIs ks r
theorem AllIs.append{b:List (Option IntKind)}{y:Ap}(h:AllIs a x)(k:AllIs b y):AllIs (a++b) (x++y):=by
 induction a generalizing x with
 |nil=>cases h;exact k
 |cons q a ih=>obtain⟨c,r,rfl,h1,h2⟩:=h;exact⟨c,r++y,rfl,h1,ih h2⟩
theorem AllIs.len(h:AllIs a x):x.length=a.length:=by
 induction a generalizing x with
 |nil=>cases h;rfl
 |cons q a ih=>obtain⟨c,r,rfl,h1,h2⟩:=h;simp[ih h2]
def N9(P:Program):Nat->TypeId->Option (List (Option IntKind))
 |0,_=>none
 |n+1,t=>
  match P.underlying t with
  |some (.int k)=>some [some k]
  |some .bool=>some [none]
  |some (.struct fs)=>fs.toList.foldl (λacc f=>acc.bind λl=>(N9 P n f.type).bind λks=>if f.offset=l.length/\ks.length=P.cellsOf f.type then some (l++ks) else none) (some []) |>.bind λks=>if ks.length=P.cellsOf t then some ks else none
  |some (.array len e)=>(N9 P n e).bind λks=>if ks.length=P.cellsOf e/\len*P.cellsOf e=P.cellsOf t then some ((List.replicate len ks).flatten) else none
  |_=>none
theorem M5{α β:Type}(g:List α->β->Option (List α))(fs:List β):fs.foldl (λacc f=>acc.bind λl=>g l f) none=none:=by
 induction fs with
 |nil=>rfl
 |cons f fs ih=>simpa using ih
theorem Tc{w:World}{a:Addr}(h:w.cell? a=some v):a.block<w.heap.size/\True:=by
 refine⟨?_,trivial⟩;unfold World.cell? at h
 split at h
 ·rename_i ho;exact(BH.1 ho).1
 ·cases h
section
variable{H:Type}{enc:TypeId×Value->H}{P:Program}{w:World}{S6:Nat}{S7:Nat->Bool}{Z6:Bool}
theorem X9(n m:Nat)(ih: ∀(t:TypeId) (m:Nat) (cs:Ap) (x:DataW H×List MemPlace) (ks:List (Option IntKind)),DataW.trod enc P w S6 S7 Z6 m t cs=some x->N9 P n t=some ks->AllIs ks cs)(cs:Ap):
 ∀(fs:List Field) (l ks:List (Option IntKind)),(∀f∈fs,∃x,DataW.trod enc P w S6 S7 Z6 m f.type ((cs.drop f.offset).take (P.cellsOf f.type))=some x)->
  AllIs l (cs.take l.length)->fs.foldl (λacc f=>acc.bind λl=>(N9 P n f.type).bind λks=>if f.offset=l.length/\ks.length=P.cellsOf f.type then some (l++ks) else none) (some l)=some ks->AllIs ks (cs.take ks.length):=by
 intro fs
 induction fs with
 |nil=>intro l ks _ hl h;simp at h;subst h;exact hl
 |cons f fs ihf=>
  intro l ks hx hl h;simp only[D6,HO] at h;cases hk:N9 P n f.type with
  |none=>rw[hk] at h;simp only[Option.bind_none] at h;rw[M5] at h;cases h
  |some kf=>
   rw[hk] at h;simp only[HO] at h;by_cases hc:f.offset=l.length/\kf.length=P.cellsOf f.type
   ·rw[Ad hc] at h;refine ihf _ _ (λg hg=>hx g (An _ hg)) ?_ h;obtain⟨x,hxf⟩:=hx f Ak;have:=ih f.type m _ x kf hxf hk;rw[Ah,List.take_add,<-hc.1];rw[<-hc.2] at this;rw[hc.1] at this⊢;exact hl.append this
   ·rw[Ab hc,M5] at h;cases h
theorem gD(n m:Nat)(e:TypeId)(ks:List (Option IntKind))(ih: ∀(cs:Ap) (x:DataW H×List MemPlace),DataW.trod enc P w S6 S7 Z6 m e cs=some x->AllIs ks cs)(cs:Ap)(hk:ks.length=P.cellsOf e):
 ∀(k:Nat),(∀i,i<k-> ∃x,DataW.trod enc P w S6 S7 Z6 m e ((cs.drop (i*P.cellsOf e)).take (P.cellsOf e))=some x)->AllIs ((List.replicate k ks).flatten) (cs.take (k*P.cellsOf e)):=by
 intro k
 induction k with
 |zero=>intro _;simp[AllIs]
 |succ k ihk=>intro h;have h1:=ihk (λi hi=>h i Af);obtain⟨x,hx⟩:=h k Af;have h2:=ih _ x hx;rw[F7,List.take_add,List.replicate_succ',List.flatten_append];simpa using h1.append h2
theorem Vs: ∀(n:Nat) (t:TypeId) (m:Nat) (cs:Ap) (x:DataW H×List MemPlace) (ks:List (Option IntKind)),DataW.trod enc P w S6 S7 Z6 m t cs=some x->N9 P n t=some ks->AllIs ks cs:=by
 intro n
 induction n with
 |zero=>intro t m cs x ks _ h;simp[N9] at h
 |succ n ih=>
  intro t m cs x ks hx h;unfold N9 at h
  split at h
  ·rename_i k ht;obtain⟨a,rfl,_,wa⟩:=DataW.trod_int ht hx;cases h;exact⟨_,_,rfl,⟨a,rfl,wa⟩,rfl⟩
  ·rename_i ht;obtain⟨b,rfl,_⟩:=DataW.trod_bool ht hx;cases h;exact⟨_,_,rfl,⟨b,rfl⟩,rfl⟩
  ·rename_i fs ht;obtain⟨xs,m',_,_,hl,Eh,hf⟩:=DataW.trod_struct ht hx;obtain⟨k0,hk0,ka⟩:=IP.1 h;by_cases hc:k0.length=P.cellsOf t
   ·rw[Ad hc] at ka;cases ka;have:=X9 n m' ih cs fs.toList [] ks (λf hfm=>by
     obtain⟨i,hi,he⟩:=Ig hfm;have h0:=hf i f (by rw[<-Array.getElem?_toList];exact Ay.2 ⟨hi,he⟩);have hix:i<xs.length:=by rw[Eh];simpa using hi
     exact⟨xs[i],by rw[h0];exact Al hix⟩) rfl hk0
    rwa [hc,<-hl,D8] at this
   ·rw[Ab hc] at ka;cases ka
  ·rename_i len e ht;obtain⟨xs,m',_,_,hl,Eh,hf⟩:=DataW.trod_array ht hx;cases hk:N9 P n e with
   |none=>rw[hk] at h;cases h
   |some ke=>
    rw[hk] at h;simp only[HO] at h;by_cases hc:ke.length=P.cellsOf e/\len*P.cellsOf e=P.cellsOf t
    ·rw[Ad hc] at h;cases h;have:=gD n m' e ke (λcs' x' jG=>ih e m' cs' x' ke jG hk) cs hc.1 len (λi hi=>by
      have h0:=hf i hi;have hix:i<xs.length:=by omega
      exact⟨xs[i],by rw[h0];exact Al hix⟩)
     rwa [hc.2,<-hl,D8] at this
    ·rw[Ab hc] at h;cases h
  ·cases h
theorem gE{d:DataW H}(n:Nat)
 (dt:(match P.underlying t with|some (.struct _)|some (.array _ _)=>true|_=>false)=true)(hk:N9 P n t=some ks)
 (hv:Value.okWide P w r b0 t v)(h:DataW.Trod enc P w S6 S7 Z6 t v d p): ∃cs:Ap,v= .agg cs.toArray/\AllIs ks cs:=by
 obtain⟨cs,rfl⟩: ∃cs,v= .agg cs:=by
  unfold Value.okWide at hv
  split at hv
  ·obtain⟨cs,h1,_⟩:=hv;exact⟨cs,h1⟩
  ·obtain⟨cs,h1,_⟩:=hv;exact⟨cs,h1⟩
  ·rename_i h1 h2
   split at dt
   ·rename_i hu;exact absurd hu (h1 _)
   ·rename_i hu;exact absurd hu (h2 _ _)
   ·cases dt
 obtain⟨XT,hf⟩:=h;simp only[Value.cells] at hf;exact⟨cs.toList,by simp,Vs n t XT _ _ ks hf hk⟩
structure WC(ks:List (Option IntKind))(w:World)(a:Option Addr)(len cap:Nat)(rows:List (Ap)):Prop where
 nil:a=none->len=0/\cap=0
 le:len<=cap
 max:cap<=maxLen
 size:rows.length=len
 all: ∀r∈rows,AllIs ks r
 at_:0<len-> ∃b off,a=some ⟨b,off,none⟩/\b<w.heap.size/\ ∀i j,i<len->j<ks.length->w.cell? ⟨b,off+i*ks.length+j,none⟩=(rows[i]?.getD [])[j]?
theorem gF{e:TypeId}{d:DataW H}(n:Nat)
 (ht:P.underlying t=some (.slice e))(hk:N9 P n e=some ks)(ZT:ks.length=P.cellsOf e)(Aam:0<P.cellsOf e)
 (hv:Value.okWide P w r b0 t v)(h:DataW.Trod enc P w S6 S7 Z6 t v d p):
 ∃a len cap rows,v= .slice a len cap/\WC ks w a len cap rows:=by
 obtain⟨a0,len,cap,rfl⟩:=okWide_slice ht hv;obtain⟨XT,hf⟩:=h;simp only[Value.cells] at hf;rcases open_slice ht hf with⟨Oz,_⟩|⟨a,len',cap',m,n',D,Pl,Oz,hb,hl,hm,hmm,_,ue⟩
 ·simp at Oz;obtain⟨rfl,rfl,rfl⟩:=Oz;exact⟨none,0,0,[],rfl,⟨λ_=>⟨rfl,rfl⟩,Bf _,Bp _,rfl,by simp,by simp⟩⟩
 ·simp at Oz;obtain⟨rfl,rfl,rfl⟩:=Oz;have hlm:len<=m:=by rw[hmm];split<;>omega
  have hch: ∀i,i<len-> ∃cs',w.cells? S6 (a.add (i*P.cellsOf e)) (P.cellsOf e)=some cs'/\AllIs ks cs':=λi hi=>by obtain⟨cs',h1,h2⟩:=ue i Af;exact⟨cs',h1,Vs n e n' cs' _ ks h2 hk⟩
  refine⟨some a,len,cap,(List.range len).map λi=>(w.cells? S6 (a.add (i*P.cellsOf e)) (P.cellsOf e)).getD [],rfl,⟨by simp,hl,hm,by simp,?_,?_⟩⟩
  ·intro r hr;obtain⟨i,hi,rfl⟩:=Av.1 hr;obtain⟨cs',h1,h2⟩:=hch i (by simpa using hi);rw[h1];exact h2
  ·intro h0;obtain⟨cs0,h1,h2⟩:=hch 0 h0;obtain⟨_,qn,vW⟩:=World.cells?_some h1;have vX:=vW 0 Aam;have Aan:0<cs0.length:=by omega
   rw[Al Aan] at vX;have Dw:=World.cell?_spot vX;obtain⟨b,off,spot⟩:=a;simp[Addr.add] at Dw;subst Dw;refine⟨b,off,rfl,?_,λi j hi hj=>?_⟩
   ·have:=(Tc vX).1;simpa[Addr.add] using this
   ·obtain⟨cs',h1,h2⟩:=hch i hi;obtain⟨_,kc,jH⟩:=World.cells?_some h1;have:=jH j Af;simp only[A6,Fh hi,BU,Dx,h1];rw[<-this,ZT];congr 1;unfold Addr.add;by_cases hi0:i*P.cellsOf e=0
    ·rw[Ad hi0,hi0];by_cases vY:j=0
     ·rw[Ad vY];simp[vY]
     ·rw[Ab vY];simp
    ·rw[Ab hi0];by_cases vY:j=0
     ·rw[Ad vY];simp[vY]
     ·rw[Ab vY]
end
end Go.Proofs.YtlifcingifodfaaGreat
namespace Go.Proofs.YtlifcingifodfaaGreat
open List(toArray)
open Go.RowKit
variable{t k n e N f b i s j off' yb cap ft m:Nat}{P:Program}{α:Type}{v u:Value}{T ty src dst:TypeId}{a:Act}{ro:Option Nat}{fz:Nat×Nat}{vs r cs':Ap}{W E:World}{c x y:Code}{o oj:Oper}{xs:List Operand}{fn:Func}{ki k':IntKind}{o':Obj}{R:Ending->World->Prop}{p:Option Addr}{ρ:Operand->Value}{ds:List Deferred}{Kx:Act->World->Prop}{rs:List ResultVar}{pos:String}{g:Option (Nat×Bool)}{z:Operand}{wc ws:Array Value}{q:Bool}
theorem Ya{c:Array Value}{t:TypeId}{fr:Nat×Nat}(h:W.heap[b]?=some (.cells c t fr)): ∀i,W.cell? ⟨b,i,none⟩=c[i]?:=λi=>by simp[World.cell?,h]
theorem qN{c:Array Value}{t:TypeId}{fr:Nat×Nat}(h:W.heap[b]?=some (.cells c t fr))(v:Value):(W.setCell ⟨b,i,none⟩ v).heap[b]?=some (.cells (c.setIfInBounds i v) t fr):=by obtain⟨C9,hk⟩:=BH.1 h;show(W.heap.modify b _)[b]?=_;rw[CP (by rw[Array.size_modify];exact C9),Array.getElem_modify_self,hk];rfl
theorem Ka{b:Frame}{k:List Item}{cs:List Frame}{w:World}:step P (lone (b.atR a (.code (.scope c)::k)) cs w)= .next (lone (b.atR a (.code c:: .inScope c::k)) cs w):=
 step_lone_go (by simp[stepG,stepG.exec,Frame.atR])
theorem U8{b:Frame}{k:List Item}{cs:List Frame}{w:World}:step P (lone (b.atR a (.inScope c::k)) cs w)= .next (lone (b.atR a k) cs w):=
 step_lone_go (by simp[stepG,stepG.exec,Frame.atR])
theorem al{F:Fence}{Q:Exit->Act->World->Prop}{w:World}(h:c.wpIn F n P (Exit.noGoto Q) a w):(Code.scope c).wpIn F n P Q a w:=by
 intro b k cs pO hb hr;have h0:(lone (b.atR a (.code (.scope c)::k)) cs w).fenced P F:=fenced_calm hb hr rfl;obtain⟨e,a₁,w₁,hq,harr⟩:=h b (.inScope c::k) cs pO hb hr;cases e with
 |normal=>exact⟨.normal,a₁,w₁,hq,.head h0 Ka (StepsIn.trans harr (.one (fenced_calm hb hr rfl) U8))⟩
 |exit id=>exact⟨.exit id,a₁,w₁,hq,.of_steps (.one h0 Ka) ⟨λk' hk=>harr.1 k' (by simp[exitTo,hk]),λUR hk=>harr.2 UR (by simp[exitTo,hk])⟩⟩
 |goto l=>exact hq.elim
 |ret=>exact⟨_,a₁,w₁,hq,.of_steps (.one h0 Ka) harr⟩
 |panic ch=>exact⟨_,a₁,w₁,hq,.of_steps (.one h0 Ka) harr⟩
 |outgrown=>exact⟨_,a₁,w₁,hq,.of_steps (.one h0 Ka) harr⟩
abbrev Bd:=Nat×Obj
abbrev Ac:=List Bd
variable{l':Ac}{K:Value->Ac->Prop}
structure Sat(E:World)(l:Ac)(W:World):Prop where
 os:W.os=E.os
 tape:W.tape=E.tape
 output:W.output=E.output
 nodup:(l.map Prod.fst).Nodup
 has: ∀c,c∈l->W.heap[c.1]?=some c.2
section
variable{l:Ac}{c:Bd}{o:Obj}
theorem Sat.perm(h:Sat E l W)(p:l.Perm l'):Sat E l' W:=
 ⟨h.os,h.tape,h.output,(p.map _).nodup_iff.1 h.nodup,λc hc=>h.has c (p.mem_iff.2 hc)⟩
theorem Sat.sub(h:Sat E l W)(s:l'.Sublist l):Sat E l' W:=
 ⟨h.os,h.tape,h.output,List.Nodup.sublist (s.map _) h.nodup,λc hc=>h.has c (s.subset hc)⟩
theorem Sat.tail(h:Sat E (c::l) W):Sat E l W:=h.sub (D9 _ _)
theorem Sat.lt(h:Sat E l W)(hc:c∈l):c.1<W.heap.size:=(BH.1 (h.has c hc)).1
theorem Sat.drawn(h:Sat E l W)(n:Nat):Sat E l {W with drawn:=n}:=⟨h.os,h.tape,h.output,h.nodup,h.has⟩
theorem Sat.drew(h:Sat E l W):Sat E l W.drew:=⟨h.os,h.tape,h.output,h.nodup,h.has⟩
theorem Sat.alloc(h:Sat E l W)(o:Obj):Sat E ((W.heap.size,o)::l) (W.alloc o):=by
 refine⟨h.os,h.tape,h.output,?_,λc hc=>?_⟩
 ·rw[AJ,AP];refine⟨λhm=>?_,h.nodup⟩;obtain⟨c,hc,he⟩:=Av.1 hm;have:=h.lt hc;simp only at he;omega
 ·rcases At.1 hc with rfl|hc
  ·exact World.alloc_heap_new W o
  ·exact(Below.heap_alloc W o c.1 (h.lt hc)).trans (h.has c hc)
inductive Upd:Ac->Nat->Obj->Obj->Ac->Prop
 |here {l:Ac} {b:Nat} {o o':Obj}:Upd ((b,o)::l) b o o' ((b,o')::l)
 |there {l l':Ac} {b:Nat} {o o':Obj} {c:Bd}:Upd l b o o' l'->Upd (c::l) b o o' (c::l')
theorem Upd.mem(h:Upd l b o o' l'):(b,o)∈l:=by
 induction h with
 |here=>exact Ak
 |there _ ih=>exact An _ ih
theorem Upd.keys(h:Upd l b o o' l'):l'.map Prod.fst=l.map Prod.fst:=by
 induction h with
 |here=>rfl
 |there _ ih=>simp[ih]
theorem Upd.inv(h:Upd l b o o' l'): ∀c,c∈l'->c=(b,o')\/c∈l:=by
 induction h with
 |here=>intro c hc;rcases At.1 hc with rfl|hc
        ·exact .inl rfl
        ·exact .inr (An _ hc)
 |there _ ih=>intro c hc;rcases At.1 hc with rfl|hc
              ·exact .inr Ak
              ·exact(ih c hc).imp id (An _)
theorem gG{l:Ac}(h:(l.map Prod.fst).Nodup){o:Obj}(h1:(b,o)∈l)(h2:(b,o')∈l):o=o':=by
 induction l with
 |nil=>cases h1
 |cons c l ih=>
  rw[AJ,AP] at h;rcases At.1 h1 with e1|h1<;>rcases At.1 h2 with e2|h2
  ·rw[<-e1] at e2;cases e2;rfl
  ·exact absurd (Av.2 ⟨_,h2,by rw[<-e1]⟩) h.1
  ·exact absurd (Av.2 ⟨_,h1,by rw[<-e2]⟩) h.1
  ·exact ih h.2 h1 h2
theorem Upd.other(h:Upd l b o o' l')(hn:(l.map Prod.fst).Nodup): ∀c,c∈l'->c=(b,o')\/(c∈l/\c.1≠b):=by
 intro c hc;by_cases hb:c.1=b
 ·left;obtain⟨k,x⟩:=c;simp only at hb;subst hb;have hm:(k,o')∈l':=by
   clear hc hn
   induction h with
   |here=>exact Ak
   |there _ ih=>exact An _ ih
  rw[gG (by rw[h.keys];exact hn) hc hm]
 ·rcases h.inv c hc with rfl|hc
  ·exact absurd rfl hb
  ·exact .inr ⟨hc,hb⟩
theorem Sat.upd(h:Sat E l W)(u:Upd l b o o' l'):Sat E l' (W.putObj b o'):=by
 refine⟨h.os,h.tape,h.output,by rw[u.keys];exact h.nodup,λc hc=>?_⟩;rcases u.other h.nodup c hc with rfl|⟨hm,He⟩
 ·exact World.putObj_heap_same (h.lt u.mem)
 ·exact(World.putObj_heap_other He).trans (h.has c hm)
theorem Sat.setCell{cs:Array Value}{t:TypeId}(h:Sat E l W)(u:Upd l b (.cells cs t fz) (.cells (cs.setIfInBounds i v) t fz) l'):Sat E l' (W.setCell ⟨b,i,none⟩ v):=by
 refine⟨h.os,h.tape,h.output,by rw[u.keys];exact h.nodup,λc hc=>?_⟩;rcases u.other h.nodup c hc with rfl|⟨hm,He⟩
 ·exact qN (h.has _ u.mem) v
 ·exact(Below.heap_setCell _ _ _ _ He).trans (h.has c hm)
theorem Sat.cell{cs:Array Value}{t:TypeId}(h:Sat E l W)(hm:(b,Obj.cells cs t fz)∈l)(i:Nat):W.cell? ⟨b,i,none⟩=cs[i]?:=Ya (h.has _ hm) i
theorem Sat.frz{cs:Array Value}{t:TypeId}(h:Sat E l W)(hm:(b,Obj.cells cs t fz)∈l)(i:Nat):W.frozen? ⟨b,i,none⟩=(decide (fz.1<=i)&&decide (i<fz.2)):=by obtain⟨lo,hi⟩:=fz;simp[World.frozen?,h.has _ hm]
end
def sl(P:Program){α:Type}:Sem α->Ac->(α->Ac->Prop)->Prop
 | .pure a,l,Q=>Q a l
 | .load _ a k,l,Q=> ∃c t fz v,(a.block,Obj.cells c t fz)∈l/\a.spot=none/\c[a.off]?=some v/\sl P (k v) l Q
 | .store _ a v k,l,Q=>v.oneCell'=true/\ ∃c t fz l',Upd l a.block (.cells c t fz) (.cells (c.setIfInBounds a.off v) t fz) l'/\a.spot=none/\a.off<c.size/\(decide (fz.1<=a.off)&&decide (a.off<fz.2))=false/\sl P k l' Q
 | .new o k,l,Q=> ∀b,(∀c,c∈l->c.1≠b)->sl P (k b) ((b,o)::l) Q
 | .shape r k,l,Q=> ∃c t fz,(r,Obj.cells c t fz)∈l/\sl P (k (some (t,c.size))) l Q
 | .frozen a k,l,Q=> ∃c t fz,(a.block,Obj.cells c t fz)∈l/\a.spot=none/\sl P (k (decide (fz.1<=a.off)&&decide (a.off<fz.2))) l Q
 | .getObj r k,l,Q=> ∃o,(r,o)∈l/\o.isCells=false/\sl P (k o) l Q
 | .setObj r o' k,l,Q=> ∃o l',Upd l r o o' l'/\o.isCells=false/\sl P k l' Q
 | .choose q k,l,Q=> ∀t,sl P (k (if q.forced then 0 else q.cut t)) l Q
 | .program k,l,Q=>sl P (k P) l Q
 | .mark _ k,l,Q=>sl P k l Q
 | .halt _,_,_=>False
 | .freeze ..,_,_=>False
 | .sys ..,_,_=>False
theorem qO{Q Q':α->Ac->Prop}(hq: ∀a l,Q a l->Q' a l)(s:Sem α): ∀l,sl P s l Q->sl P s l Q':=by
 induction s with
 |pure a=>exact λl h=>hq _ _ h
 |load m a k ih=>rintro l ⟨c,t,fz,v,h1,h2,h3,h4⟩;exact⟨c,t,fz,v,h1,h2,h3,ih _ _ h4⟩
 |store m a v k ih=>rintro l ⟨h0,c,t,fz,l',h1,h2,h3,h4,h5⟩;exact⟨h0,c,t,fz,l',h1,h2,h3,h4,ih _ h5⟩
 |new o k ih=>exact λl h b hb=>ih _ _ (h b hb)
 |shape r k ih=>rintro l ⟨c,t,fz,h1,h2⟩;exact⟨c,t,fz,h1,ih _ _ h2⟩
 |frozen a k ih=>rintro l ⟨c,t,fz,h1,h2,h3⟩;exact⟨c,t,fz,h1,h2,ih _ _ h3⟩
 |getObj r k ih=>rintro l ⟨o,h1,h2,h3⟩;exact⟨o,h1,h2,ih _ _ h3⟩
 |setObj r o' k ih=>rintro l ⟨o,l',h1,h2,h3⟩;exact⟨o,l',h1,h2,ih _ h3⟩
 |choose q k ih=>exact λl h t=>ih _ _ (h t)
 |program k ih=>exact λl h=>ih _ _ h
 |mark m k ih=>exact λl h=>ih _ h
 |halt h=>exact λl h=>h
 |freeze a n k ih=>exact λl h=>h
 |sys c k ih=>exact λl h=>h
theorem AB{β:Type}{Q:β->Ac->Prop}{f:α->Sem β}(s:Sem α): ∀l,sl P (s>>=f) l Q<->sl P s l (λa l'=>sl P (f a) l' Q):=by
 show∀l,sl P (s.bind f) l Q<->_
 induction s with
 |pure a=>exact λl=>DG
 |load m a k ih=>intro l;simp only[Sem.bind,sl,ih]
 |store m a v k ih=>intro l;simp only[Sem.bind,sl,ih]
 |new o k ih=>intro l;simp only[Sem.bind,sl,ih]
 |shape r k ih=>intro l;simp only[Sem.bind,sl,ih]
 |frozen a k ih=>intro l;simp only[Sem.bind,sl,ih]
 |getObj r k ih=>intro l;simp only[Sem.bind,sl,ih]
 |setObj r o' k ih=>intro l;simp only[Sem.bind,sl,ih]
 |choose q k ih=>intro l;simp only[Sem.bind,sl,ih]
 |program k ih=>intro l;simp only[Sem.bind,sl,ih]
 |mark m k ih=>intro l;simp only[Sem.bind,sl,ih]
 |halt h=>exact λl=>DG
 |freeze a n k ih=>exact λl=>DG
 |sys c k ih=>exact λl=>DG
theorem Bn{Q:α->Ac->Prop}(a:α)(l:Ac):sl P (pure a:Sem α) l Q<->Q a l:=DG
theorem kL{Q:α->Ac->Prop}(s:Sem α): ∀(l:Ac) (W:World),sl P s l Q->Sat E l W-> ∃a W' l',s.run P W= .ok a W'/\Q a l'/\Sat E l' W':=by
 induction s with
 |pure a=>exact λl W h hs=>⟨a,W,l,rfl,h,hs⟩
 |load m a k ih=>rintro l W ⟨c,t,fz,v,h1,h2,h3,h4⟩ hs;obtain⟨x,W',l',hr,hq,hs'⟩:=ih v l W h4 hs;obtain⟨ab,ao,asp⟩:=a;simp only at h2 h3 h1;subst h2;exact⟨x,W',l',by simp[Sem.run,hs.cell h1,h3,hr],hq,hs'⟩
 |store m a v k ih=>rintro l W ⟨h0,c,t,fz,l1,h1,h2,h3,h4,h5⟩ hs;obtain⟨ab,ao,asp⟩:=a;simp only at h2 h3 h1 h4;subst h2;obtain⟨x,W',l',hr,hq,hs'⟩:=ih l1 _ h5 (hs.setCell h1);refine⟨x,W',l',?_,hq,hs'⟩;have hc:=hs.cell h1.mem ao;rw[CP h3] at hc;have hf:=(hs.frz h1.mem ao).trans h4;cases v<;>simp only[Value.oneCell',Bm] at h0<;>simp[Sem.run,hc,hf,hr]
 |new o k ih=>intro l W h hs;obtain⟨x,W',l',hr,hq,hs'⟩:=ih W.heap.size _ (W.alloc o) (h W.heap.size (λc hc=>by have:=hs.lt hc;omega)) (hs.alloc o);exact⟨x,W',l',hr,hq,hs'⟩
 |shape r k ih=>
  rintro l W ⟨c,t,fz,h1,h2⟩ hs;obtain⟨x,W',l',hr,hq,hs'⟩:=ih _ l W h2 hs;refine⟨x,W',l',?_,hq,hs'⟩;have:W.shape? r=some (t,c.size):=by simp[World.shape?,hs.has _ h1]
  simp[Sem.run,this,hr]
 |frozen a k ih=>rintro l W ⟨c,t,fz,h1,h2,h3⟩ hs;obtain⟨ab,ao,asp⟩:=a;simp only at h2 h3 h1;subst h2;obtain⟨x,W',l',hr,hq,hs'⟩:=ih _ l W h3 hs;exact⟨x,W',l',by simp only[Sem.run,hs.frz h1];exact hr,hq,hs'⟩
 |getObj r k ih=>rintro l W ⟨o,h1,h2,h3⟩ hs;obtain⟨x,W',l',hr,hq,hs'⟩:=ih _ l W h3 hs;refine⟨x,W',l',?_,hq,hs'⟩;have:=hs.has _ h1;simp only at this;cases o<;>first|(simp[Obj.isCells] at h2;done)|simp[Sem.run,this,hr]
 |setObj r o' k ih=>rintro l W ⟨o,l1,h1,h2,h3⟩ hs;obtain⟨x,W',l',hr,hq,hs'⟩:=ih l1 _ h3 (hs.upd h1);refine⟨x,W',l',?_,hq,hs'⟩;have:=hs.has _ h1.mem;simp only at this;simp only[World.putObj] at hr;cases o<;>first|(simp[Obj.isCells] at h2;done)|simp[Sem.run,this,hr]
 |choose q k ih=>
  intro l W h hs;by_cases hf:q.forced=true
  ·obtain⟨x,W',l',hr,hq,hs'⟩:=ih _ l W (h 0) hs;refine⟨x,W',l',?_,hq,hs'⟩;rw[Ad hf] at hr;simp[Sem.run,hf,hr]
  ·obtain⟨x,W',l',hr,hq,hs'⟩:=ih _ l {W with drawn:=W.drawn+1} (h (W.tape W.drawn q)) (hs.drawn _);refine⟨x,W',l',?_,hq,hs'⟩;rw[Ab hf] at hr;simp only[Bool.not_eq_true] at hf;simp[Sem.run,hf];exact hr
 |program k ih=>exact λl W h hs=>ih _ l W h hs
 |mark m k ih=>exact λl W h hs=>ih l W h hs
 |halt h=>exact λl W h hs=>h.elim
 |freeze a n k ih=>exact λl W h hs=>h.elim
 |sys c k ih=>exact λl W h hs=>h.elim
abbrev Fr:=List (Nat×Value)
variable{fr':Fr}
def BZ:Fr->Nat->Option Value
 |[],_=>none
 |(k,v)::r,d=>bif Nat.beq k d then some v else BZ r d
structure FSat(N:Nat)(fr:Fr)(a:Act):Prop where
 size:a.tmps.size=N
 at_: ∀d v,BZ fr d=some v->a.tmps[d]?=some v
def ev(fr:Fr):Operand->Option Value
 | .tmp t=>BZ fr t
 | .const v=>some v
 | .global g=>some (.pointer (some ⟨g,0,none⟩))
 | .func f=>some (.func (.func f) #[] #[])
def Sd(fr:Fr):List Operand->Option (Ap)
 |[]=>some []
 |x::r=>match ev fr x,Sd fr r with
  |some v,some vs=>some (v::vs)
  |_,_=>none
def Agrees(fr:Fr)(ρ:Operand->Value):Prop:= ∀x v,ev fr x=some v->ρ x=v
theorem FSat.agrees{fr:Fr}(h:FSat N fr a):Agrees fr a.eval:=by
 intro x v hx;cases x with
 |tmp t=>have:=h.at_ t v hx;simp[Act.eval,Do,this]
 |const u=>cases hx;rfl
 |global g=>cases hx;rfl
 |func f=>cases hx;rfl
theorem Agrees.list{fr:Fr}(h:Agrees fr ρ): ∀{xs:List Operand} {vs:Ap},Sd fr xs=some vs->xs.map ρ=vs
 |[],vs,e=>by cases e;rfl
 |x::r,vs,e=>by
  unfold Sd at e
  split at e
  ·rename_i v us h1 h2;cases e;rw[AJ,h x v h1,h.list h2]
  ·cases e
def Iq(d:Option Nat)(v:Value)(fr:Fr):Fr:=match d with|some d=>(d,v)::fr|none=>fr
def Kb(N:Nat):Option Nat->Bool
 |some d=>Nat.blt d N
 |none=>true
theorem FSat.put{fr:Fr}(h:FSat N fr a){d:Option Nat}(v:Value)(hd:Kb N d=true):FSat N (Iq d v fr) (a.put d v):=by
 cases d with
 |none=>exact h
 |some d=>
  have C9:d<N:=by simpa[Kb,Nat.blt_eq] using hd
  refine⟨by simp[Act.put,h.size],λk u hk=>?_⟩;simp only[Iq,BZ] at hk;simp only[Act.put];by_cases e:d=k
  ·subst e;simp at hk;subst hk;simp[h.size,C9]
  ·have:Nat.beq d k=false:=by
    cases hb:Nat.beq d k
    ·rfl
    ·exact absurd (FI hb) e
   rw[this] at hk;rw[Gs e];exact h.at_ k u hk
theorem FSat.sub{fr:Fr}(h:FSat N fr a)(hs: ∀d v,BZ fr' d=some v->BZ fr d=some v):FSat N fr' a:=⟨h.size,λd v hd=>h.at_ d v (hs d v hd)⟩
def FSub:Fr->Fr->Prop
 |[],_=>True
 |(d,v)::r,fr=>BZ fr d=some v/\FSub r fr
theorem FSub.spec: ∀{fr' fr:Fr},FSub fr' fr-> ∀d v,BZ fr' d=some v->BZ fr d=some v
 |[],_,_,d,v,hd=>by cases hd
 |(k,u)::r,fr,h,d,v,hd=>by
  unfold BZ at hd;cases hb:Nat.beq k d
  ·rw[hb] at hd;exact h.2.spec d v hd
  ·rw[hb] at hd;have:=FI hb;subst this;simp at hd;subst hd;exact h.1
def WD:Nat->Ap->Fr
 |_,[]=>[]
 |i,v::r=>(i,v)::WD (i+1) r
theorem Td: ∀(l:Ap) (i d:Nat) (v:Value),BZ (WD i l) d=some v->i<=d/\l[d-i]?=some v
 |[],i,d,v,h=>by cases h
 |u::r,i,d,v,h=>by
  unfold WD BZ at h;cases hb:Nat.beq i d
  ·rw[hb] at h;obtain⟨h1,h2⟩:=Td r (i+1) d v h;exact⟨Af,by rw[show d-i=(d-(i+1))+1 by omega];simpa using h2⟩
  ·rw[hb] at h;have:=FI hb;subst this;simp at h;subst h;simp
theorem gH(args:Ap)(N:Nat)(ds:List Deferred)(h:args.length<=N):FSat N (WD 0 args) {tmps:=args.toArray++Array.replicate (N-args.toArray.size) undef,defers:=ds}:=by refine⟨by simp;omega,λd v hd=>?_⟩;obtain⟨_,h2⟩:=Td args 0 d v hd;simp only[Nat.sub_zero] at h2;have C9:=(Ay.1 h2).1;show(args.toArray++_)[d]?=some v;rw[Array.getElem?_append_left (by simpa using C9)];simpa using h2
def Fw(ro:Option Nat):Fence:={Fence.wide with round:=ro}
structure Fn(P:Program)(f:FuncId)(args:Ap)(l:Ac)(K:Value->Ac->Prop):Prop where
 run: ∀E W,Sat E l W->Calls P f args.toArray W λe W'=> ∃v l',e= .returned v/\K v l'/\Sat E l' W'
theorem Fn.mono{P:Program}{f:FuncId}{args:Ap}{l:Ac}{K K':Value->Ac->Prop}(h:Fn P f args l K)(hk: ∀v l',K v l'->K' v l'):Fn P f args l K':=
 ⟨λE W hs=>(h.run E W hs).mono λe W' ⟨v,l',h1,h2,h3⟩=>⟨v,l',h1,hk _ _ h2,h3⟩⟩
structure Oa(P:Program)(r:Nat)(vs:Ap)(l:Ac)(K:Value->Ac->Prop):Prop where
 run: ∀E W,Sat E l W-> ∃fn tmps assign body,(Instr.yield r vs.toArray).run P W= .ok (.round r fn tmps assign body) W/\
  RoundIn Fence.wide 0 P r fn tmps assign body W λe W'=> ∃v l',e= .returned v/\K v l'/\Sat E l' W'
theorem am{l:Nat}{f:FuncId}{tmps:Array Value}{assign body:Code}{w:World}(h:RoundIn Fence.wide n P l f tmps assign body w R):RoundIn (Fw ro) n P l f tmps assign body w R:=h
theorem M6{f:FuncId}{args:Array Value}{w:World}(h:Calls P f args w R):CallsIn (Fw ro) n P f args w R:=(callsIn_wide (n:=n)).2 h
def Jh:Op->Bool
 | .defer _=>false
 |_=>true
def OpVal(P:Program)(ro:Option Nat)(o:Oper)(ρ:Operand->Value)(W:World)(K:Value->World->Prop):Prop:=
 match(execOp ρ o).run P W with
 | .ok (.value v) w'=>K v w'
 | .ok .skip w'=>K undef w'
 | .ok (.enter f args) w'=>CallsIn (Fw ro) 0 P f args w' (λe w''=> ∃v,e= .returned v/\K v w'')
 | .ok (.round r f tm asg bo) w'=>RoundIn (Fw ro) 0 P r f tm asg bo w' (λe w''=> ∃v,e= .returned v/\K v w'')
 |_=>False
theorem OpVal.mono{K K':Value->World->Prop}(hk: ∀v w,K v w->K' v w)(h:OpVal P ro o ρ W K):OpVal P ro o ρ W K':=by
 unfold OpVal at*
 split at h
 ·exact hk _ _ h
 ·exact hk _ _ h
 ·exact h.mono λe w ⟨v,h1,h2⟩=>⟨v,h1,hk _ _ h2⟩
 ·exact h.mono λe w ⟨v,h1,h2⟩=>⟨v,h1,hk _ _ h2⟩
 ·exact h.elim
theorem OpVal.wpIn{K:Value->World->Prop}{next:Act->World->Prop}{Q:Exit->Act->World->Prop}(hd:Jh o.op=true)(h:OpVal P ro o a.eval W K)(hk: ∀v w,K v w->next (a.put o.dst v) w):o.wpIn (Fw ro) 0 P a W next Q:=by
 unfold Oper.wpIn;refine⟨λ_ _=>trivial,?_⟩;rw[Oper.semAt_eq _ _ _ (λc hc=>by rw[hc] at hd;cases hd)];unfold OpVal at h
 split at h
 ·rename_i vZ;rw[vZ];exact hk _ _ h
 ·rename_i vZ;rw[vZ];exact hk _ _ h
 ·rename_i vZ;rw[vZ];exact⟨λh0=>(by cases h0),h.mono λe w ⟨v,h1,h2⟩=>by subst h1;exact hk _ _ h2⟩
 ·rename_i vZ;rw[vZ];exact⟨λh0=>(by cases h0),h.mono λe w ⟨v,h1,h2⟩=>by subst h1;exact hk _ _ h2⟩
 ·exact h.elim
structure OpE(P:Program)(ro:Option Nat)(N:Nat)(fr:Fr)(l:Ac)(o:Oper)(K:Value->Ac->Prop):Prop where
 nodef:Jh o.op=true
 val: ∀E a W,FSat N fr a->Sat E l W->OpVal P ro o a.eval W (λv W'=> ∃l',K v l'/\Sat E l' W')
theorem OpE.run{fr:Fr}{l:Ac}{Q:Exit->Act->World->Prop}(h:OpE P ro N fr l o K)(E:World)(a:Act)(W:World)(hf:FSat N fr a)(hs:Sat E l W):
 o.wpIn (Fw ro) 0 P a W (λa' W'=> ∃v l',a'=a.put o.dst v/\K v l'/\Sat E l' W') Q:=
 OpVal.wpIn h.nodef (h.val E a W hf hs) λv w ⟨l',h1,h2⟩=>⟨v,l',rfl,h1,h2⟩
structure OpQ(P:Program)(ro:Option Nat)(N:Nat)(fr:Fr)(R:Ac)(o:Oper)(v:Value):Prop where
 run: ∀l,(∀c,c∈R->c∈l)->OpE P ro N fr l o (λv' l'=>v'=v/\l'=l)
theorem OpE.mono{P:Program}{ro:Option Nat}{N:Nat}{fr:Fr}{l:Ac}{o:Oper}{K K':Value->Ac->Prop}(h:OpE P ro N fr l o K)(hk: ∀v l',K v l'->K' v l'):OpE P ro N fr l o K':=
 ⟨h.nodef,λE a W hf hs=>(h.val E a W hf hs).mono λv w ⟨l',h1,h2⟩=>⟨l',hk _ _ h1,h2⟩⟩
def Yb(P:Program)(K:Value->Ac->Prop):Next->Ac->Prop
 | .value v,l=>K v l
 | .skip,l=>K undef l
 | .enter f args,l=>Fn P f args.toList l K
 |_,_=>False
theorem DP{fr:Fr}{l:Ac}(hd:Jh o.op=true)
 (h: ∀ρ,Agrees fr ρ->sl P (execOp ρ o) l (Yb P K)):OpE P ro N fr l o K:=by
 refine⟨hd,λE a W hf hs=>?_⟩;obtain⟨x,W',l',hr,hq,hs'⟩:=kL _ l W (h _ hf.agrees) hs;unfold OpVal;rw[hr];cases x<;>simp only[Yb] at hq
 case value v=>exact⟨l',hq,hs'⟩
 case skip=>exact⟨l',hq,hs'⟩
 case enter f args=>have:=hq.run E W' hs';simp only[Array.toArray_toList] at this;refine M6 (this.mono ?_);rintro e W'' ⟨v,l'',rfl,hk,hs''⟩;exact⟨v,rfl,l'',hk,hs''⟩
section
variable{ops:Array Oper}{Q:Exit->Act->World->Prop}{A3:List Oper}{fr:Fr}{l:Ac}
structure DA(P:Program)(ro:Option Nat)(N:Nat)(E:World)(ops:Array Oper)(Q:Exit->Act->World->Prop)(A3:List Oper)(fr:Fr)(ds:List Deferred)(l:Ac):Prop where
 run: ∀a W,FSat N fr a->a.defers=ds->Sat E l W->wpListIn (Fw ro) 0 P ops Q A3 a W
structure BR(P:Program)(ro:Option Nat)(N:Nat)(E:World)(c:Code)(Q:Exit->Act->World->Prop)(fr:Fr)(ds:List Deferred)(l:Ac):Prop where
 run: ∀a W,FSat N fr a->a.defers=ds->Sat E l W->c.wpIn (Fw ro) 0 P Q a W
structure C0(N:Nat)(E:World)(Q:Exit->Act->World->Prop)(e:Exit)(fr:Fr)(ds:List Deferred)(l:Ac):Prop where
 run: ∀a W,FSat N fr a->a.defers=ds->Sat E l W->Q e a W
theorem ET(a:Act)(d:Option Nat)(v:Value):(a.put d v).defers=a.defers:=by cases d<;>rfl
theorem Vt(h:C0 N E Q .normal fr ds l):DA P ro N E ops Q [] fr ds l:=⟨h.run⟩
theorem s_e(h:OpE P ro N fr l o K)(hw:o.guard=none)(hd:Kb N o.dst=true)(hk: ∀v l',K v l'->DA P ro N E ops Q A3 (Iq o.dst v fr) ds l'):DA P ro N E ops Q (o::A3) fr ds l:=by refine⟨λa W hf hds hs=>?_⟩;refine wpListIn_plain hw λK' hK'=>Oper.wpIn_mono ?_ (h.run E a W hf hs);rintro a' W' ⟨v,l',rfl,hkv,hs'⟩;exact hK' _ _ ((hk v l' hkv).run _ _ (hf.put v hd) ((ET _ _ _).trans hds) hs')
theorem s_q(h:OpQ P ro N fr l o v)(hw:o.guard=none)(hd:Kb N o.dst=true)(hk:DA P ro N E ops Q A3 (Iq o.dst v fr) ds l):DA P ro N E ops Q (o::A3) fr ds l:=
 s_e (h.run l λ_ hc=>hc) hw hd λv' l' ⟨h1,h2⟩=>by rw[h1,h2];exact hk
theorem JS{fr:Fr}{d:Nat}{b:Bool}(hf:FSat N fr a)(hj:ops[j]?=some oj)(hd:oj.dst=some d)(hb:BZ fr d=some (.bool b)):yielded ops a.tmps j=some b:=by unfold yielded;simp[hj,hd,hf.at_ _ _ hb]
theorem Aa7{d:Nat}{b:Bool}(h:OpE P ro N fr l o K)(hw:o.guard=some (j,b))(hj:ops[j]?=some oj)(Ld:oj.dst=some d)(hb:BZ fr d=some (.bool b))(hd:Kb N o.dst=true)(hk: ∀v l',K v l'->DA P ro N E ops Q A3 (Iq o.dst v fr) ds l'):DA P ro N E ops Q (o::A3) fr ds l:=by refine⟨λa W hf hds hs=>?_⟩;have hy:=JS hf hj Ld hb;refine wpListIn_step λK' hK'=>?_;rw[Ad (by simp[Region.wanted,hw,hy])];refine Oper.wpIn_mono ?_ (h.run E a W hf hs);rintro a' W' ⟨v,l',rfl,hkv,hs'⟩;exact hK' _ _ ((hk v l' hkv).run _ _ (hf.put v hd) ((ET _ _ _).trans hds) hs')
theorem AeG{d:Nat}{b:Bool}(h:OpQ P ro N fr l o v)(hw:o.guard=some (j,b))(hj:ops[j]?=some oj)(Ld:oj.dst=some d)(hb:BZ fr d=some (.bool b))(hd:Kb N o.dst=true)(hk:DA P ro N E ops Q A3 (Iq o.dst v fr) ds l):DA P ro N E ops Q (o::A3) fr ds l:=
 Aa7 (h.run l λ_ hc=>hc) hw hj Ld hb hd λv' l' ⟨h1,h2⟩=>by rw[h1,h2];exact hk
theorem AeH{d:Nat}{b b':Bool}(hw:o.guard=some (j,b))(hj:ops[j]?=some oj)(Ld:oj.dst=some d)(hb:BZ fr d=some (.bool b'))(He:(b'==b)=false)(hd:Kb N o.dst=true)(hk:DA P ro N E ops Q A3 (Iq o.dst undef fr) ds l):DA P ro N E ops Q (o::A3) fr ds l:=by refine⟨λa W hf hds hs=>?_⟩;have hy:=JS hf hj Ld hb;refine wpListIn_step λK' hK'=>?_;rw[Ab (by simp[Region.wanted,hw,hy];intro e;rw[e] at He;simp at He)];exact⟨λ_ _=>trivial,hK' _ _ (hk.run _ _ (hf.put undef hd) ((ET _ _ _).trans hds) hs)⟩
theorem GR{d:Nat}(hb:BZ fr d=some v): ∀k u,BZ ((d,v)::fr) k=some u->BZ fr k=some u:=by
 intro k u h;unfold BZ at h;cases e:Nat.beq d k
 ·rw[e] at h;exact h
 ·rw[e] at h;have:=FI e;subst this;rw[hb];exact h
theorem qP(d:Nat){b:Bool}(hb:BZ fr d=some (.bool b))(ht:b=true->DA P ro N E ops Q A3 ((d,.bool true)::fr) ds l)(hf:b=false->DA P ro N E ops Q A3 ((d,.bool false)::fr) ds l):DA P ro N E ops Q A3 fr ds l:=by
 refine⟨λa W pP hds hs=>?_⟩;have key: ∀u,BZ fr d=some u->FSat N ((d,u)::fr) a:=λu hu=>⟨pP.size,λk w hk=>pP.at_ k w (GR hu k w hk)⟩
 cases b with
 |true=>exact(ht rfl).run a W (key _ hb) hds hs
 |false=>exact(hf rfl).run a W (key _ hb) hds hs
theorem dD(h:BR P ro N E x (Exit.then (y.wpIn (Fw ro) 0 P Q) Q) fr ds l):BR P ro N E (.seq x y) Q fr ds l:=⟨λa W hf hds hs=>wpIn_seq (h.run a W hf hds hs)⟩
theorem WE(h:C0 N E Q .normal fr ds l):BR P ro N E .skip Q fr ds l:=⟨λa W hf hds hs=>wpIn_skip (h.run a W hf hds hs)⟩
theorem Sq(h:C0 N E Q .normal fr ds l):BR P ro N E (.label k) Q fr ds l:=⟨λa W hf hds hs=>wpIn_label (h.run a W hf hds hs)⟩
theorem Te(h:C0 N E Q (.exit k) fr ds l):BR P ro N E (.exit k) Q fr ds l:=⟨λa W hf hds hs=>wpIn_exit (h.run a W hf hds hs)⟩
theorem dE(h:C0 N E Q .ret fr ds l):BR P ro N E .ret Q fr ds l:=⟨λa W hf hds hs=>wpIn_ret (h.run a W hf hds hs)⟩
theorem P7(h:BR P ro N E x (Exit.inBlock k Q) fr ds l):BR P ro N E (.block k x) Q fr ds l:=⟨λa W hf hds hs=>wpIn_block (h.run a W hf hds hs)⟩
theorem WF(h:BR P ro N E x (Exit.noGoto Q) fr ds l):BR P ro N E (.scope x) Q fr ds l:=⟨λa W hf hds hs=>al (h.run a W hf hds hs)⟩
theorem P8{os:List Oper}(h:DA P ro N E os.toArray Q os fr ds l):BR P ro N E (.region k os.toArray false) Q fr ds l:=⟨λa W hf hds hs=>wpIn_region_lit (h.run a W hf hds hs)⟩
theorem Mz{c:Operand}(hc:ev fr c=some (.bool true))(h:BR P ro N E x Q fr ds l):BR P ro N E (.cond c x y) Q fr ds l:=⟨λa W hf hds hs=>wpIn_cond_true (hf.agrees _ _ hc) (h.run a W hf hds hs)⟩
theorem MA{c:Operand}(hc:ev fr c=some (.bool false))(h:BR P ro N E y Q fr ds l):BR P ro N E (.cond c x y) Q fr ds l:=⟨λa W hf hds hs=>wpIn_cond_false (hf.agrees _ _ hc) (h.run a W hf hds hs)⟩
theorem uO(hs':FSub fr' fr)(h:BR P ro N E c Q fr' ds l):BR P ro N E c Q fr ds l:=⟨λa W hf hds hs=>h.run a W (hf.sub hs'.spec) hds hs⟩
def dF(N:Nat)(E:World){α:Type}(fx:α->Fr)(ds:List Deferred)(lx:α->Ac)(pre:α->Prop)(μ:α->Nat)(x:α)(a:Act)(W:World):Prop:=
 ∃y,pre y/\μ y<μ x/\FSat N (fx y) a/\a.defers=ds/\Sat E (lx y) W
theorem P9{p:Nat->Prop}(h: ∃n,p n): ∃n,p n/\ ∀m,p m->n<=m:=by
 obtain⟨n,hn⟩:=h
 induction n using Nat.strongRecOn with
 |_ n ih=>
  by_cases hc: ∃m,m<n/\p m
  ·obtain⟨m,C9,hm⟩:=hc;exact ih m C9 hm
  ·exact⟨n,hn,λm hm=>Mt λC9=>hc ⟨m,C9,hm⟩⟩
open Classical in
noncomputable def Tf(p:Nat->Prop):Nat:=if h: ∃n,p n then Classical.choose (P9 h) else 0
theorem LR{p:Nat->Prop}(h: ∃n,p n):p (Tf p)/\ ∀m,p m->Tf p<=m:=by unfold Tf;rw[dif_pos h];exact Classical.choose_spec (P9 h)
theorem wY(fx:α->Fr)(lx:α->Ac)(pre:α->Prop)(μ:α->Nat)(x₀:α)(h0:pre x₀)(hf0:FSub (fx x₀) fr)(qn:l.Perm (lx x₀))
 (round: ∀x,pre x->BR P ro N E c (Exit.then (dF N E fx ds lx pre μ x) Q) (fx x) ds (lx x)):BR P ro N E (.loop c) Q fr ds l:=by
 refine⟨λa W hf hds hs=>?_⟩;refine wpIn_loop (λa W=> ∃x,pre x/\FSat N (fx x) a/\a.defers=ds/\Sat E (lx x) W) (λa W=>Tf λn=> ∃x,pre x/\FSat N (fx x) a/\a.defers=ds/\Sat E (lx x) W/\μ x=n) ⟨x₀,h0,hf.sub hf0.spec,hds,hs.perm qn⟩ ?_;intro a W hI;have XU: ∃n,∃x,pre x/\FSat N (fx x) a/\a.defers=ds/\Sat E (lx x) W/\μ x=n:=by obtain⟨x,h1,h2,h3,h4⟩:=hI;exact⟨_,x,h1,h2,h3,h4,rfl⟩
 obtain⟨⟨x,h1,h2,h3,h4,h5⟩,_⟩:=LR XU;refine wpIn_mono ((round x h1).run a W h2 h3 h4) ?_;intro e a' W' hq;cases e with
 |normal=>obtain⟨y,k1,k2,k3,k4,k5⟩:=hq;refine⟨⟨y,k1,k3,k4,k5⟩,?_⟩;exact Ev ((LR (p:=λn=> ∃x,pre x/\FSat N (fx x) a'/\a'.defers=ds/\Sat E (lx x) W'/\μ x=n) ⟨_,y,k1,k3,k4,k5,rfl⟩).2 (μ y) ⟨y,k1,k3,k4,k5,rfl⟩) (by rw[<-h5];exact k2)
 |_=>exact hq
theorem Ob(h:BR P ro N E y Q fr ds l):C0 N E (Exit.then (y.wpIn (Fw ro) 0 P Q) Q) .normal fr ds l:=⟨h.run⟩
theorem LS(h:C0 N E Q (.exit k) fr ds l):C0 N E (Exit.then Kx Q) (.exit k) fr ds l:=⟨h.run⟩
theorem M7(h:C0 N E Q .ret fr ds l):C0 N E (Exit.then Kx Q) .ret fr ds l:=⟨h.run⟩
theorem Qa(h:C0 N E Q .normal fr ds l):C0 N E (Exit.inBlock k Q) .normal fr ds l:=⟨h.run⟩
theorem LT(h:C0 N E Q .ret fr ds l):C0 N E (Exit.inBlock k Q) .ret fr ds l:=⟨h.run⟩
theorem Ji(h:C0 N E Q .normal fr ds l):C0 N E (Exit.inBlock k Q) (.exit k) fr ds l:=⟨λa W hf hds hs=>by simp only[Exit.inBlock,CS];exact h.run a W hf hds hs⟩
theorem M8(He:Nat.beq j k=false)(h:C0 N E Q (.exit j) fr ds l):C0 N E (Exit.inBlock k Q) (.exit j) fr ds l:=⟨λa W hf hds hs=>by
 have:¬j=k:=λe=>by subst e;simp at He
 simp only[Exit.inBlock,Ab this];exact h.run a W hf hds hs⟩
theorem Sr(h:C0 N E Q .normal fr ds l):C0 N E (Exit.noGoto Q) .normal fr ds l:=⟨h.run⟩
theorem LU(h:C0 N E Q .ret fr ds l):C0 N E (Exit.noGoto Q) .ret fr ds l:=⟨h.run⟩
theorem wZ{fx:α->Fr}{lx:α->Ac}{pre:α->Prop}{μ:α->Nat}{x:α}(y:α)(h1:pre y)(h2:μ y<μ x)(h3:FSub (fx y) fr)(h4:l.Perm (lx y)):C0 N E (Exit.then (dF N E fx ds lx pre μ x) Q) .normal fr ds l:=
 ⟨λa W hf hds hs=>⟨y,h1,h2,hf.sub h3.spec,hds,hs.perm h4⟩⟩
end
def RK(E:World)(K:Value->Ac->Prop):Ending->World->Prop:=λe W'=> ∃v l',e= .returned v/\K v l'/\Sat E l' W'
theorem Tg{f:FuncId}{args:Ap}{l:Ac}(hf:P.funcs[f]?=some fn)(hb:fn.body=some c)(hn:Nat.ble args.length fn.ntmps=true)
 (h: ∀E,BR P none fn.ntmps E c (bodyPostM Fence.wide 0 P fn (RK E K)) (WD 0 args) [] l):Fn P f args l K:=by
 refine⟨λE W hs=>?_⟩;refine(callsIn_wide (n:=0)).1 (callsIn_of_wp_marks hf hb trivial ?_ rfl);exact(h E).run _ W (gH args _ [] (Nat.le_of_ble_eq_true hn)) rfl hs
inductive ResS(P:Program)(fr:Fr)(l:Ac):List ResultVar->Ap->Prop
 |nil:ResS P fr l [] []
 |tmp {t:Nat} {v:Value} {rs:List ResultVar} {vs:Ap}:BZ fr t=some v->ResS P fr l rs vs->ResS P fr l (.tmp t::rs) (v::vs)
 |cell {t:Nat} {T:TypeId} {v:Value} {b off:Nat} {rs:List ResultVar} {vs:Ap}:BZ fr t=some (.pointer (some ⟨b,off,none⟩))->(∀E W,Sat E l W->(loadVar T ⟨b,off,none⟩).run P W= .ok v W)->ResS P fr l rs vs->ResS P fr l (.cell t T::rs) (v::vs)
def JH:Ap->Value
 |[v]=>v
 |vs=> .tuple vs.toArray
def qQ(tmps:Array Value):ResultVar->Sem Value
 | .tmp t=>pure (tmps.getD t undef)
 | .cell b t=>do loadVar t (<-asAddr (tmps.getD b undef))
theorem Ti{P:Program}{N:Nat}{fr:Fr}{l:Ac}{E W:World}{a:Act}(hf:FSat N fr a)(hs:Sat E l W): ∀{rs:List ResultVar} {vs:Ap},ResS P fr l rs vs->(rs.mapM (qQ a.tmps)).run P W= .ok vs W
 |[],_,.nil=>by simp[Sem.run]
 |_,_,.tmp (t:=t) (v:=v) (rs:=rs) (vs:=vs) h1 h2=>by
  have e:a.tmps.getD t undef=v:=by rw[Do,hf.at_ _ _ h1];rfl
  have e1:(qQ a.tmps (.tmp t)).run P W= .ok v W:=by show(pure _:Sem Value).run P W=_;rw[e];rfl
  rw[List.mapM_cons,Sem.run_bind,e1];simp only[Result.andThen];rw[Sem.run_bind,Ti hf hs h2];rfl
 |_,_,.cell (t:=t) (v:=v) (T:=T) (b:=b) (off:=off) h1 h3 h2=>by
  have e:a.tmps.getD t undef= .pointer (some ⟨b,off,none⟩):=by rw[Do,hf.at_ _ _ h1];rfl
  have e1:(qQ a.tmps (.cell t T)).run P W= .ok v W:=by show(asAddr (a.tmps.getD t undef)>>=loadVar T).run P W=_;rw[e,Sem.run_bind];exact h3 E W hs
  rw[List.mapM_cons,Sem.run_bind,e1];simp only[Result.andThen];rw[Sem.run_bind,Ti hf hs h2];rfl
theorem RD{fr:Fr}{l:Ac}(hr:fn.results=rs.toArray)(hf:FSat N fr a)(hs:Sat E l W)(h:ResS P fr l rs vs):
 (results fn a.tmps).run P W= .ok (JH vs) W:=by
 have e:results fn a.tmps=(do let us<-fn.results.mapM (qQ a.tmps);pure (if h:us.size=1 then us[0] else .tuple us)):=rfl;rw[e,hr,List.mapM_toArray,Sem.run_bind,map_eq_pure_bind,Sem.run_bind,Ti hf hs h];simp only[Result.andThen,Sem.run_pure];congr 1
 match vs with
 |[]=>rfl
 |[v]=>rfl
 |_::_::_=>rfl
def Cr(D:Nat):Bd:=(D,.deferred (some []))
def Hw(D:Nat):Deferred:={target:= .collected D,args:=#[]}
theorem Ra{P:Program}{fn:Func}{R:Ending->World->Prop}{tmps:Array Value}{E:World}{l:Ac}{v:Value}: ∀(Ds:List Nat) (W:World),Sat E (Ds.map Cr++l) W->
 (∀W',Sat E l W'->(results fn tmps).run P W'= .ok v W'/\R (.returned v) W')->LeavesInM Fence.wide 0 P fn tmps R (Ds.map Hw) .returning W
 |[],W,hs,hr=>⟨v,hr W hs⟩
 |D::Ds,W,hs,hr=>by have hK:W.heap[D]?=some (.deferred (some [])):=hs.has (D,_) Ak;have Sn:Sat E ((D,.deferred none)::(Ds.map Cr++l)) (W.putObj D (.deferred none)):=hs.upd Upd.here;exact⟨by simp,.inl ⟨D,_,rfl,run_takeDeferred hK,Ra Ds _ Sn.tail hr⟩⟩
theorem Aa8{fr:Fr}{l:Ac}(Ds:List Nat)(hr:fn.results=rs.toArray)(hp:l.Perm (Ds.map Cr++l'))(h:ResS P fr l' rs vs)(hk:K (JH vs) l'):
 C0 N E (bodyPostM Fence.wide 0 P fn (RK E K)) .ret fr (Ds.map Hw) l:=by
 refine⟨λa W hf hds hs=>?_⟩;show LeavesInM Fence.wide 0 P fn a.tmps (RK E K) a.defers .returning W;rw[hds];exact Ra (v:=JH vs) Ds W (hs.perm hp) λW' hs'=>⟨RD hr hf hs' h,_,l',rfl,hk,hs'⟩
theorem dG{fr:Fr}{l:Ac}(h:C0 N E (bodyPostM Fence.wide 0 P fn R) .ret fr ds l):C0 N E (bodyPostM Fence.wide 0 P fn R) .normal fr ds l:=⟨h.run⟩
def foV(P:Program)(s f:Nat):Option Nat:=match P.underlying s with
 |some (.struct fs)=>match fs[f]? with
  |some fd=>match P.info? fd.type with
   |some i=>if i.size=0 then none else some fd.offset
   |none=>none
  |none=>none
 |_=>none
def fvV(P:Program)(s f:Nat):Option (Nat×Nat):=match P.underlying s with
 |some (.struct fs)=>(fs[f]?).map λfd=>(fd.offset,fd.type)
 |_=>none
def atV(P:Program)(t:Nat):Option (Nat×Nat×Nat):=match P.underlying t with
 |some (.array n e)=>(P.info? e).map λi=>(n,e,i.size)
 |_=>none
def stV(P:Program)(t:Nat):Option (Nat×Nat×Nat):=match P.underlying t with
 |some (.slice e)=>(P.info? e).map λi=>(e,i.size,i.bytes)
 |_=>none
def w9(P:Program)(t:Nat):Option (Ap):=match P.info? t with
 |some i=>match i.zero with
  |some z=>some z.cells.toList
  |none=>none
 |none=>none
def qR(P:Program)(t:Nat):Bool:=match P.underlying t with
 |some (.struct _)=>false
 |some (.array ..)=>false
 |some _=>(P.info? t).any λi=>i.size==1
 |none=>false
def uP(P:Program)(t:Nat):Option Nat:=match P.underlying t with
 |some (.struct _)=>(P.info? t).map (·.size)
 |some (.array ..)=>(P.info? t).map (·.size)
 |_=>none
def qS(P:Program)(t:Nat):Option IntKind:=match P.underlying t with
 |some (.int k)=>some k
 |_=>none
def ptV(P:Program)(t:Nat):Option Nat:=match P.underlying t with
 |some (.pointer e)=>some e
 |_=>none
def mtV(P:Program)(t:Nat):Option (Nat×Nat):=match P.underlying t with
 |some (.map k e)=>some (k,e)
 |_=>none
class FO(P:Program)(s f:Nat)(k:outParam Nat):Prop where out:foV P s f=some k
class FV(P:Program)(s f:Nat)(k t:outParam Nat):Prop where out:fvV P s f=some (k,t)
class AT(P:Program)(t:Nat)(n e z:outParam Nat):Prop where out:atV P t=some (n,e,z)
class ST(P:Program)(t:Nat)(e z y:outParam Nat):Prop where out:stV P t=some (e,z,y)
class ZV(P:Program)(t:Nat)(z:outParam (Ap)):Prop where out:w9 P t=some z
class OC(P:Program)(t:Nat):Prop where out:qR P t=true
class AG(P:Program)(t:Nat)(z:outParam Nat):Prop where out:uP P t=some z
class IT(P:Program)(t:Nat)(k:outParam IntKind):Prop where out:qS P t=some k
class PT(P:Program)(t:Nat)(e:outParam Nat):Prop where out:ptV P t=some e
class MT(P:Program)(t:Nat)(k e:outParam Nat):Prop where out:mtV P t=some (k,e)
class EN(P:Program)(f:Nat):Prop where out: ∀args w,(callFunc f args).run P w= .ok (.enter f args) w
section
variable{Q:α->Ac->Prop}{l:Ac}
theorem Cc{d:TypeDesc}{f:TypeDesc->Sem α}(h:P.underlying t=some d):sl P (underlying t>>=f) l Q<->sl P (f d) l Q:=by rw[AB];show sl P (match P.underlying t with|some d=>pure d|none=>stuck "no such type") l _<->_;rw[h];rfl
theorem E1{Q:TypeDesc->Ac->Prop}{d:TypeDesc}(h:P.underlying t=some d):sl P (underlying t) l Q<->Q d l:=by show sl P (match P.underlying t with|some d=>pure d|none=>stuck "no such type") l _<->_;rw[h];rfl
theorem J3{i:TypeInfo}{f:TypeInfo->Sem α}(h:P.info? t=some i):sl P (typeInfo t>>=f) l Q<->sl P (f i) l Q:=by rw[AB];show sl P (match P.info? t with|some i=>pure i|none=>stuck "no such type") l _<->_;rw[h];rfl
theorem E2{i:TypeInfo}{f:Nat->Sem α}(h:P.info? t=some i):sl P (sizeOf t>>=f) l Q<->sl P (f i.size) l Q:=by rw[AB];show sl P (typeInfo t>>=λi=>pure i.size) l _<->_;rw[J3 h];rfl
theorem Hx{Q:Nat->Ac->Prop}{i:TypeInfo}(h:P.info? t=some i):sl P (sizeOf t) l Q<->Q i.size l:=by show sl P (typeInfo t>>=λi=>pure i.size) l _<->_;rw[J3 h];rfl
theorem PH{f:Program->Sem α}:sl P (program>>=f) l Q<->sl P (f P) l Q:=DG
def Oc:TypeDesc->Bool
 | .struct _=>true
 | .array _ _=>true
 |_=>false
theorem MC{d:TypeDesc}{f:Bool->Sem α}(h:P.underlying t=some d):sl P (isAgg t>>=f) l Q<->sl P (f (Oc d)) l Q:=by rw[AB];show sl P (underlying t>>=λd=>match d with| .struct _| .array _ _=>pure true|_=>pure false) l _<->_;rw[Cc h];cases d<;>rfl
end
theorem GE(b off n:Nat):(⟨b,off,none⟩:Addr).add n=⟨b,off+n,none⟩:=by
 unfold Addr.add
 split
 ·rename_i h;subst h;rfl
 ·rfl
section
variable{fr:Fr}{R l:Ac}{d:Option Nat}{aft:Array Edge}{x y:Operand}{w:Value}{off:Nat}
theorem BN(hd:Jh o.op=true)(h: ∀ρ l,Agrees fr ρ->(∀c,c∈R->c∈l)->sl P (execOp ρ o) l (λnx l'=>nx= .value v/\l'=l)):OpQ P ro N fr R o v:=
 ⟨λl hl=>DP hd λρ hρ=>qO (λnx l' ⟨h1,h2⟩=>by rw[h1];exact⟨rfl,h2⟩) _ _ (h ρ l hρ hl)⟩
theorem xb(hx:ev fr x=some v):OpQ P ro N fr R ⟨d,.move x,ty,pos,aft,g⟩ v:=BN rfl λρ l hρ _=>⟨by rw[hρ x v hx],rfl⟩
theorem kM(hx:ev fr x=some v):OpQ P ro N fr R ⟨d,.assign x,ty,pos,aft,g⟩ v:=BN rfl λρ l hρ _=>⟨by rw[hρ x v hx],rfl⟩
theorem kN(hx:ev fr x=some (.bool true))(hy:ev fr y=some v):OpQ P ro N fr R ⟨d,.pick x y z,ty,pos,aft,g⟩ v:=BN rfl λρ l hρ _=>by simp only[execOp,hρ x _ hx,asBool];exact⟨by simp[hρ y _ hy],rfl⟩
theorem kO(hx:ev fr x=some (.bool false))(hz:ev fr z=some v):OpQ P ro N fr R ⟨d,.pick x y z,ty,pos,aft,g⟩ v:=BN rfl λρ l hρ _=>by simp only[execOp,hρ x _ hx,asBool];exact⟨by simp[hρ z _ hz],rfl⟩
theorem ap{a:Addr}(hx:ev fr x=some (.pointer (some a))):OpQ P ro N fr R ⟨d,.nilCheck x,ty,pos,aft,g⟩ (.pointer (some a)):=BN rfl λρ l hρ _=>by simp only[execOp,hρ x _ hx];exact⟨rfl,rfl⟩
theorem kP(h:foV P s f=some k): ∃fs fd i,P.underlying s=some (.struct fs)/\fs[f]?=some fd/\P.info? fd.type=some i/\i.size≠0/\fd.offset=k:=by
 unfold foV at h
 split at h
 ·rename_i fs hu
  split at h
  ·rename_i fd hf
   split at h
   ·rename_i i hi
    split at h
    ·cases h
    ·rename_i hz;cases h;exact⟨fs,fd,i,hu,hf,hi,hz,rfl⟩
   ·cases h
  ·cases h
 ·cases h
theorem Yc(hx:ev fr x=some (.pointer (some ⟨b,off,none⟩)))[c:FO P s f k](ho:off+k=off'):OpQ P ro N fr R ⟨d,.fieldAddr s x f,ty,pos,aft,g⟩ (.pointer (some ⟨b,off',none⟩)):=BN rfl λρ l hρ _=>by subst ho;obtain⟨fs,fd,i,h1,h2,h3,h4,h5⟩:=kP c.out;simp only[execOp,hρ x _ hx,Instr.fieldAt,AB];rw[<-AB,Cc h1];simp only[h2,AB,Bn,Instr.sureAddr,fieldPlace];rw[<-AB,E2 h3];simp only[h4,C6,Bn,GE,h5];exact⟨trivial,trivial⟩
theorem MD(h:atV P t=some (n,e,k)): ∃i,P.underlying t=some (.array n e)/\P.info? e=some i/\i.size=k:=by
 unfold atV at h
 split at h
 ·rename_i hu;obtain⟨i,hi,h2⟩:=Ea.1 h;cases h2;exact⟨i,hu,hi,rfl⟩
 ·cases h
theorem E8{y:Nat}(h:stV P t=some (e,k,y)): ∃i,P.underlying t=some (.slice e)/\P.info? e=some i/\i.size=k/\i.bytes=y:=by
 unfold stV at h
 split at h
 ·rename_i hu;obtain⟨i,hi,h2⟩:=Ea.1 h;cases h2;exact⟨i,hu,hi,rfl,rfl⟩
 ·cases h
theorem Tj{i:Int}(hx:ev fr x=some (.pointer (some ⟨b,off,none⟩)))(hy:ev fr y=some (.int ki i))[c:AT P t n e k](hi:0<=i/\i<(n:Int)):
 OpQ P ro N fr R ⟨d,.indexAddr t x y,ty,pos,aft,g⟩ (.pointer (some ⟨b,off+i.toNat*k,none⟩)):=BN rfl λρ l hρ _=>by
 obtain⟨Hv,h1,h2,h3⟩:=MD c.out;simp only[execOp,hρ x _ hx,hρ y _ hy,Instr.indexAt,AB,asIntOf,Bn];rw[<-AB,Cc h1];simp only[AB,Bn,Instr.sureAddr];rw[<-AB,Cc h1];simp only[Ad hi,AB,Bn];rw[Hx h2];simp only[GE,h3];exact⟨trivial,trivial⟩
theorem Yd(hx:ev fr x=some (.pointer (some ⟨b,off,none⟩)))(hy:ev fr y=some (.int ki (m:Nat)))[c:AT P t n e k](hi:m<n)(ho:off+m*k=off'):
 OpQ P ro N fr R ⟨d,.indexAddr t x y,ty,pos,aft,g⟩ (.pointer (some ⟨b,off',none⟩)):=by
 subst ho;have:=Tj (P:=P) (ro:=ro) (N:=N) (R:=R) (d:=d) (ty:=ty) (pos:=pos) (aft:=aft) (g:=g) (c:=c) hx hy ⟨Af,Af⟩;simpa using this
theorem Vu{i:Int}(hx:ev fr x=some (.slice (some ⟨b,off,none⟩) n cap))(hy:ev fr y=some (.int ki i))[c:ST P t e k yb](hi:0<=i/\i<(n:Int)):
 OpQ P ro N fr R ⟨d,.indexAddr t x y,ty,pos,aft,g⟩ (.pointer (some ⟨b,off+i.toNat*k,none⟩)):=BN rfl λρ l hρ _=>by
 obtain⟨Hv,h1,h2,h3,_⟩:=E8 c.out;simp only[execOp,hρ x _ hx,hρ y _ hy,Instr.indexAt,AB,asIntOf,Bn];rw[<-AB,Cc h1];simp only[AB,Bn];rw[<-AB,Cc h1];simp only[Ad hi,AB,Bn];rw[Hx h2];simp only[GE,h3];exact⟨trivial,trivial⟩
theorem aq(hx:ev fr x=some (.slice (some ⟨b,off,none⟩) n cap))(hy:ev fr y=some (.int ki (m:Nat)))[c:ST P t e k yb](hi:m<n)(ho:off+m*k=off'):
 OpQ P ro N fr R ⟨d,.indexAddr t x y,ty,pos,aft,g⟩ (.pointer (some ⟨b,off',none⟩)):=by
 subst ho;have:=Vu (P:=P) (ro:=ro) (N:=N) (R:=R) (d:=d) (ty:=ty) (pos:=pos) (aft:=aft) (g:=g) (c:=c) hx hy ⟨Af,Af⟩;simpa using this
def au:Ap->Nat->Option Value
 |[],_=>none
 |x::_,0=>some x
 |_::r,n+1=>au r n
theorem qT(l:Ap): ∀i,au l i=l[i]?:=by
 induction l with
 |nil=>intro i;cases i<;>rfl
 |cons x r ih=>intro i;cases i with
  |zero=>rfl
  |succ n=>simp only[au,Db];exact ih n
theorem Ye{l:Ap}(h:au l i=some v):(toArray l)[i]?=some v:=by rw[AE,<-qT];exact h
inductive LGet:Ap->Nat->Value->Prop
 |zero {x:Value} {r:Ap}:LGet (x::r) 0 x
 |succ {x v:Value} {r:Ap} {n:Nat}:LGet r n v->LGet (x::r) (n+1) v
theorem LGet.spec{l:Ap}(h:LGet l i v):au l i=some v:=by
 induction h with
 |zero=>rfl
 |succ _ ih=>exact ih
theorem Lh{l:Ap}(h:LGet l i v):(toArray l)[i]?=some v:=Ye h.spec
inductive LSet:Ap->Nat->Value->Ap->Prop
 |zero {x v:Value} {r:Ap}:LSet (x::r) 0 v (v::r)
 |succ {x v:Value} {r r':Ap} {n:Nat}:LSet r n v r'->LSet (x::r) (n+1) v (x::r')
theorem LSet.spec{l l':Ap}(h:LSet l i v l'):l.set i v=l'/\i<l.length:=by
 induction h with
 |zero=>simp
 |succ _ ih=>simp[ih.1,ih.2]
inductive LSub:Ap->Nat->Nat->Ap->Prop
 |done {l:Ap}:LSub l 0 0 []
 |take {x:Value} {l r:Ap} {n:Nat}:LSub l 0 n r->LSub (x::l) 0 (n+1) (x::r)
 |drop {x:Value} {l r:Ap} {k n:Nat}:LSub l k n r->LSub (x::l) (k+1) n r
theorem LSub.spec{l:Ap}(h:LSub l k n r):(l.drop k).take n=r/\k+n<=l.length:=by
 induction h with
 |done=>simp
 |take _ ih=>simp only[List.drop_zero] at ih⊢;simp[ih.1];omega
 |drop _ ih=>simp only[List.drop_succ_cons,Bu];exact⟨ih.1,Af⟩
inductive LSetA:Ap->Nat->Ap->Ap->Prop
 |done {l:Ap}:LSetA l 0 [] l
 |put {x v:Value} {l r vs:Ap}:LSetA l 0 vs r->LSetA (x::l) 0 (v::vs) (v::r)
 |skip {x:Value} {l r vs:Ap} {k:Nat}:LSetA l k vs r->LSetA (x::l) (k+1) vs (x::r)
theorem ME(h:qR P t=true): ∃u i,P.underlying t=some u/\Oc u=false/\P.info? t=some i/\i.size=1:=by
 unfold qR at h
 split at h
 ·cases h
 ·cases h
 ·rename_i u Z7 kh hu;cases hi:P.info? t with
  |none=>rw[hi] at h;cases h
  |some i=>rw[hi] at h;refine⟨u,i,hu,?_,rfl,by simpa using h⟩;cases u<;>first|rfl|exact(Z7 _ rfl).elim|exact(kh _ _ rfl).elim
 ·cases h
theorem Yf{Q:α->Ac->Prop}{f:Value->Sem α}{cs:Array Value}(hc:qR P t=true)(hm:(b,Obj.cells cs T fz)∈l)(hv:cs[off]?=some v)(h:sl P (f v) l Q):sl P (loadVar t ⟨b,off,none⟩>>=f) l Q:=by obtain⟨u,i,h1,h2,_,_⟩:=ME hc;rw[AB];unfold loadVar;rw[MC h1,h2];exact⟨cs,T,fz,v,hm,rfl,hv,h⟩
theorem DS{cs:Array Value}(hx:ev fr x=some (.pointer (some ⟨b,off,none⟩)))[c:OC P t](hm:(b,Obj.cells cs T fz)∈R)(hv:cs[off]?=some v):OpQ P ro N fr R ⟨d,.load t x,ty,pos,aft,g⟩ v:=BN rfl λρ l hρ hR=>by simp only[execOp,hρ x _ hx,Instr.loadAt,AB,Instr.sureAddr,Bn];have:=Yf (P:=P) (f:=λv=>(pure v:Sem Value)) (Q:=λa l'=>Next.value a= .value v/\l'=l) c.out (hR _ hm) hv ⟨rfl,rfl⟩;rw[AB] at this;exact this
theorem Qb{α:Type}{Q:α->Ac->Prop}{f:Array Value->Sem α}{cs:Array Value}{T:TypeId}{fz:Nat×Nat}(hm:(b,Obj.cells cs T fz)∈l): ∀(n i:Nat) (acc:Array Value),off+i+n<=cs.size->sl P (f (acc++cs.extract (off+i) (off+i+n))) l Q->sl P (loadCellsFrom ⟨b,off,none⟩ i n acc>>=f) l Q
 |0,i,acc,_,h=>by
  have e:cs.extract (off+i) (off+i+0)=#[]:=by simp;omega
  rw[e,K6] at h;exact h
 |n+1,i,acc,LQ,h=>by
  unfold loadCellsFrom;rw[AB,AB];show sl P (load ((⟨b,off,none⟩:Addr).add i)) l _;rw[GE];have C9:off+i<cs.size:=by omega
  refine⟨cs,T,fz,cs[off+i],hm,rfl,CP C9,?_⟩;show sl P (loadCellsFrom ⟨b,off,none⟩ (i+1) n (acc.push cs[off+i])) l _;rw[<-AB];refine Qb hm n (i+1) _ Af ?_;have e:acc.push cs[off+i]++cs.extract (off+(i+1)) (off+(i+1)+n)=acc++cs.extract (off+i) (off+i+(n+1)):=by apply BP.1;simp only[Array.toList_append,LL,F8,Cj,Am,Cn];congr 1;rw[show off+i+(n+1)-(off+i)=n+1 by omega,show off+(i+1)+n-(off+(i+1))=n by omega];rw[Di (i:=off+i) (by simpa using C9),List.take_succ_cons];simp[J0]
  rw[e];exact h
theorem Kc(h:uP P t=some n): ∃u i,P.underlying t=some u/\Oc u=true/\P.info? t=some i/\i.size=n:=by
 unfold uP at h
 split at h
 ·rename_i hu;obtain⟨i,hi,h2⟩:=Ea.1 h;exact⟨_,i,hu,rfl,hi,h2⟩
 ·rename_i hu;obtain⟨i,hi,h2⟩:=Ea.1 h;exact⟨_,i,hu,rfl,hi,h2⟩
 ·cases h
theorem Yg{Q:α->Ac->Prop}{f:Value->Sem α}{cs:Array Value}(hc:uP P t=some n)(hm:(b,Obj.cells cs T fz)∈l)(LQ:off+n<=cs.size)(h:sl P (f (.agg (cs.extract off (off+n)))) l Q):sl P (loadVar t ⟨b,off,none⟩>>=f) l Q:=by obtain⟨u,i,h1,h2,h3,h4⟩:=Kc hc;rw[AB];unfold loadVar;rw[MC h1,h2];simp only[CS];rw[E2 h3,h4];refine Qb hm n 0 #[] Af ?_;simp only[CV,K7];exact h
theorem Dt{cs:Array Value}(hx:ev fr x=some (.pointer (some ⟨b,off,none⟩)))[c:AG P t n](hm:(b,Obj.cells cs T fz)∈R)(LQ:off+n<=cs.size)(hv:cs.extract off (off+n)=wc):OpQ P ro N fr R ⟨d,.load t x,ty,pos,aft,g⟩ (.agg wc):=BN rfl λρ l hρ hR=>by subst hv;simp only[execOp,hρ x _ hx,Instr.loadAt,AB,Instr.sureAddr,Bn];have:=Yg (P:=P) (f:=λv=>(pure v:Sem Value)) (Q:=λa l'=>Next.value a= .value (.agg (cs.extract off (off+n)))/\l'=l) c.out (hR _ hm) LQ ⟨rfl,rfl⟩;rw[AB] at this;exact this
theorem Ge{cs:Ap}(hx:ev fr x=some (.pointer (some ⟨b,off,none⟩)))[c:AG P t n](hm:(b,Obj.cells (toArray cs) T fz)∈R){wc:Ap}(hv:LSub cs off n wc):OpQ P ro N fr R ⟨d,.load t x,ty,pos,aft,g⟩ (.agg (toArray wc)):=
 Dt hx hm (by simpa using hv.spec.2) (by apply BP.1;rw[F8,Cj];simpa using hv.spec.1)
end
section
variable{fr:Fr}{R l:Ac}{d:Option Nat}{aft:Array Edge}{x y:Operand}{w:Value}{off:Nat}{t t2:TypeId}
def qU(k:IntKind):Int:=if k.signed then-(2^(k.bits-1):Int) else 0
def qV(k:IntKind):Int:=if k.signed then(2^(k.bits-1):Int)-1 else(2^k.bits:Int)-1
theorem dH(k:IntKind)(n:Int)(h1:qU k<=n)(h2:n<=qV k):k.wrap n=n:=by unfold IntKind.wrap qU qV at*;cases k<;>simp[IntKind.signed,IntKind.bits] at* <;>(try split)<;>omega
theorem xd(n:Int)(h: -9223372036854775808<=n/\n<=9223372036854775807):IntKind.i64.wrap n=n:=dH _ _ (by simpa[qU,IntKind.signed,IntKind.bits] using h.1) (by simpa[qV,IntKind.signed,IntKind.bits] using h.2)
def kQ(k:IntKind)(n:Int):Prop:=match k with
 | .i64=> -9223372036854775808<=n/\n<=9223372036854775807
 | .u64=>0<=n/\n<=18446744073709551615
 | .u8=>0<=n/\n<=255
 | .i32=> -2147483648<=n/\n<=2147483647
 | .u32=>0<=n/\n<=4294967295
 |_=>False
theorem MF{k:IntKind}{n:Int}(h:kQ k n):k.wrap n=n:=by cases k<;>simp only[kQ] at h<;>first|exact h.elim|exact dH _ _ (by simpa[qU,IntKind.signed,IntKind.bits] using h.1) (by simpa[qV,IntKind.signed,IntKind.bits] using h.2)
theorem Ss{n:Int}(h1: -9223372036854775808<=n)(h2:n<=9223372036854775807):kQ .i64 n:=⟨h1,h2⟩
theorem Qc{n:Int}(h1:0<=n)(h2:n<18446744073709551616):kQ .u64 n:=⟨h1,Af⟩
theorem De(op:BinOp)(k k':IntKind)(i j:Int):eqGuard op t x y (.int k i) (.int k' j)=pure ():=by unfold eqGuard;split<;>rfl
theorem Qd(op:BinOp)(i j:Bool):eqGuard op t x y (.bool i) (.bool j)=pure ():=by unfold eqGuard;split<;>rfl
theorem Kd(op:BinOp)(i j:Option Addr):eqGuard op t x y (.pointer i) (.pointer j)=pure ():=by unfold eqGuard;split<;>rfl
theorem av(op:BinOp)(i j:Option Addr)(a b c e:Nat):eqGuard op t x y (.slice i a b) (.slice j c e)=pure ():=by unfold eqGuard;split<;>rfl
theorem IV{op:BinOp}(hx:ev fr x=some u)(hy:ev fr y=some w)(hg: ∀x y,eqGuard op t x y u w=pure ())(h:binOp op t u w=pure v):OpQ P ro N fr R ⟨d,.binOp op t x y t2,ty,pos,aft,g⟩ v:=BN rfl λρ l hρ _=>by simp only[execOp,hρ x _ hx,hρ y _ hy,AB,hg,h];exact⟨rfl,rfl⟩
variable{k:IntKind}{i j:Int}
theorem Aa9(hx:ev fr x=some (.int k i))(hy:ev fr y=some (.int k j))(h:kQ k (i+j)):OpQ P ro N fr R ⟨d,.binOp .add t x y t2,ty,pos,aft,g⟩ (.int k (i+j)):=
 IV hx hy (λ_ _=>De _ _ _ _ _) (by simp[binOp,Op.intArith,MF h])
theorem uQ(hx:ev fr x=some (.int k i))(hy:ev fr y=some (.int k j))(h:kQ k (i-j)):OpQ P ro N fr R ⟨d,.binOp .sub t x y t2,ty,pos,aft,g⟩ (.int k (i-j)):=
 IV hx hy (λ_ _=>De _ _ _ _ _) (by simp[binOp,Op.intArith,MF h])
theorem Aba(hx:ev fr x=some (.int k i))(hy:ev fr y=some (.int k j))(h:kQ k (i*j)):OpQ P ro N fr R ⟨d,.binOp .mul t x y t2,ty,pos,aft,g⟩ (.int k (i*j)):=
 IV hx hy (λ_ _=>De _ _ _ _ _) (by simp[binOp,Op.intArith,MF h])
theorem qW(hx:ev fr x=some (.int k i))(hy:ev fr y=some (.int k j)):OpQ P ro N fr R ⟨d,.binOp .add t x y t2,ty,pos,aft,g⟩ (.int k (k.wrap (i+j))):=
 IV hx hy (λ_ _=>De _ _ _ _ _) (by simp[binOp,Op.intArith])
theorem qX(hx:ev fr x=some (.int k i))(hy:ev fr y=some (.int k j)):OpQ P ro N fr R ⟨d,.binOp .mul t x y t2,ty,pos,aft,g⟩ (.int k (k.wrap (i*j))):=
 IV hx hy (λ_ _=>De _ _ _ _ _) (by simp[binOp,Op.intArith])
theorem Abb(hx:ev fr x=some (.int k i))(hy:ev fr y=some (.int k j))(h0:0<=i)(h1:0<j)(h:kQ k i):OpQ P ro N fr R ⟨d,.binOp .quo t x y t2,ty,pos,aft,g⟩ (.int k (i/j)):=
 IV hx hy (λ_ _=>De _ _ _ _ _) (by
  have e:i.tdiv j=i/j:=Int.tdiv_eq_ediv_of_nonneg h0;have h2:i/j<=i:=Int.ediv_le_self _ h0;have h3:0<=i/j:=Int.ediv_nonneg h0 Af;have hr:kQ k (i/j):=by cases k<;>simp only[kQ] at h⊢ <;>first|exact h|omega
  simp[binOp,Op.intDiv,show ¬j=0 by omega,e,MF hr])
theorem Abc(hx:ev fr x=some (.int k i))(hy:ev fr y=some (.int k j))(h0:0<=i)(h1:0<j):OpQ P ro N fr R ⟨d,.binOp .rem t x y t2,ty,pos,aft,g⟩ (.int k (i%j)):=
 IV hx hy (λ_ _=>De _ _ _ _ _) (by have e:i.tmod j=i%j:=Int.tmod_eq_emod_of_nonneg h0;simp[binOp,Op.intDiv,show ¬j=0 by omega,e])
theorem Abd(hx:ev fr x=some (.int k i))(hy:ev fr y=some (.int k j)):OpQ P ro N fr R ⟨d,.binOp .lss t x y t2,ty,pos,aft,g⟩ (.bool (decide (i<j))):=
 IV hx hy (λ_ _=>De _ _ _ _ _) (by simp[binOp,Op.intCmp])
theorem Abe(hx:ev fr x=some (.int k i))(hy:ev fr y=some (.int k j)):OpQ P ro N fr R ⟨d,.binOp .leq t x y t2,ty,pos,aft,g⟩ (.bool (decide (i<=j))):=
 IV hx hy (λ_ _=>De _ _ _ _ _) (by simp[binOp,Op.intCmp])
theorem Abf(hx:ev fr x=some (.int k i))(hy:ev fr y=some (.int k j)):OpQ P ro N fr R ⟨d,.binOp .gtr t x y t2,ty,pos,aft,g⟩ (.bool (decide (j<i))):=
 IV hx hy (λ_ _=>De _ _ _ _ _) (by simp[binOp,Op.intCmp])
theorem Abg(hx:ev fr x=some (.int k i))(hy:ev fr y=some (.int k j)):OpQ P ro N fr R ⟨d,.binOp .geq t x y t2,ty,pos,aft,g⟩ (.bool (decide (j<=i))):=
 IV hx hy (λ_ _=>De _ _ _ _ _) (by simp[binOp,Op.intCmp])
theorem Abh(hx:ev fr x=some (.int k i))(hy:ev fr y=some (.int k j)):OpQ P ro N fr R ⟨d,.binOp .eql t x y t2,ty,pos,aft,g⟩ (.bool (decide (i=j))):=
 IV hx hy (λ_ _=>De _ _ _ _ _) (by simp[binOp,Op.intCmp];rfl)
theorem Abi(hx:ev fr x=some (.int k i))(hy:ev fr y=some (.int k j)):OpQ P ro N fr R ⟨d,.binOp .neq t x y t2,ty,pos,aft,g⟩ (.bool (decide (¬i=j))):=
 IV hx hy (λ_ _=>De _ _ _ _ _) (by simp[binOp,Op.intCmp,bne];rfl)
theorem Abj{bb:Bool}(hx:ev fr x=some (.bool bb)):OpQ P ro N fr R ⟨d,.unOp .not t x,ty,pos,aft,g⟩ (.bool (!bb)):=BN rfl λρ l hρ _=>by simp only[execOp,hρ x _ hx,Op.unary,AB];exact⟨rfl,rfl⟩
theorem xe(hx:ev fr x=some (.int k i))[c1:IT P src k][c2:IT P dst k'](h:kQ k' i):OpQ P ro N fr R ⟨d,.convert src dst x,ty,pos,aft,g⟩ (.int k' i):=BN rfl λρ l hρ _=>by
 have h1:P.underlying src=some (.int k):=by have:=c1.out;unfold qS at this;split at this<;>simp_all
 have h2:P.underlying dst=some (.int k'):=by have:=c2.out;unfold qS at this;split at this<;>simp_all
 simp only[execOp,hρ x _ hx,convert,AB];rw[E1 h1,E1 h2];exact⟨by rw[MF h],rfl⟩
theorem Qe(hx:ev fr x=some (.int k i))[c1:IT P src k][c2:IT P dst k']:OpQ P ro N fr R ⟨d,.convert src dst x,ty,pos,aft,g⟩ (.int k' (k'.wrap i)):=BN rfl λρ l hρ _=>by
 have h1:P.underlying src=some (.int k):=by have:=c1.out;unfold qS at this;split at this<;>simp_all
 have h2:P.underlying dst=some (.int k'):=by have:=c2.out;unfold qS at this;split at this<;>simp_all
 simp only[execOp,hρ x _ hx,convert,AB];rw[E1 h1,E1 h2];exact⟨rfl,rfl⟩
theorem Od{t:Nat}(h:ptV P t=some e):P.underlying t=some (.pointer e):=by unfold ptV at h;split at h<;>simp_all
theorem qY(hx:ev fr x=some (.pointer p))(hy:ev fr y=some (.pointer none))[c:PT P t e]:OpQ P ro N fr R ⟨d,.binOp .eql t x y t2,ty,pos,aft,g⟩ (.bool p.isNone):=BN rfl λρ l hρ _=>by simp only[execOp,hρ x _ hx,hρ y _ hy,AB,Kd,Bn,binOp];unfold Op.equal Op.maxDepth Op.equalIn;rw[Cc (Od c.out)];cases p<;>exact⟨rfl,rfl⟩
theorem qZ(hx:ev fr x=some (.pointer p))(hy:ev fr y=some (.pointer none))[c:PT P t e]:OpQ P ro N fr R ⟨d,.binOp .neq t x y t2,ty,pos,aft,g⟩ (.bool p.isSome):=BN rfl λρ l hρ _=>by simp only[execOp,hρ x _ hx,hρ y _ hy,AB,Kd,Bn,binOp];unfold Op.equal Op.maxDepth Op.equalIn;rw[Cc (Od c.out)];cases p<;>exact⟨rfl,rfl⟩
theorem Abk{p:Bool}(hx:ev fr x=some (.bool p))(hy:ev fr y=some (.bool q))(ht:P.underlying t=some .bool):OpQ P ro N fr R ⟨d,.binOp .eql t x y t2,ty,pos,aft,g⟩ (.bool (p==q)):=BN rfl λρ l hρ _=>by simp only[execOp,hρ x _ hx,hρ y _ hy,AB,Qd,Bn,binOp];unfold Op.equal Op.maxDepth Op.equalIn;rw[Cc ht];exact⟨rfl,rfl⟩
theorem Abl{p:Bool}(hx:ev fr x=some (.bool p))(hy:ev fr y=some (.bool q))(ht:P.underlying t=some .bool):OpQ P ro N fr R ⟨d,.binOp .neq t x y t2,ty,pos,aft,g⟩ (.bool (!(p==q))):=BN rfl λρ l hρ _=>by simp only[execOp,hρ x _ hx,hρ y _ hy,AB,Qd,Bn,binOp];unfold Op.equal Op.maxDepth Op.equalIn;rw[Cc ht];exact⟨rfl,rfl⟩
theorem gI{vs:Array Value}{ix:Nat}(hx:ev fr x=some (.tuple vs))(hv:vs[ix]?=some v):OpQ P ro N fr R ⟨d,.extract x ix,ty,pos,aft,g⟩ v:=BN rfl λρ l hρ _=>by simp only[execOp,hρ x _ hx,AB,Instr.extract,hv];exact⟨rfl,rfl⟩
theorem aw(hx:Sd fr xs=some vs):OpQ P ro N fr R ⟨d,.makeFunc (.func f) #[] xs.toArray,ty,pos,aft,g⟩ (.func (.func f) #[] vs.toArray):=BN rfl λρ l hρ _=>by simp only[execOp,AB,Instr.makeFunc,Dj,hρ.list hx];exact⟨rfl,rfl⟩
theorem Qf{k t:Nat}(h:fvV P s f=some (k,t)): ∃fs fd,P.underlying s=some (.struct fs)/\fs[f]?=some fd/\fd.offset=k/\fd.type=t:=by
 unfold fvV at h
 split at h
 ·rename_i fs hu;obtain⟨fd,hf,h2⟩:=Ea.1 h;cases h2;exact⟨fs,fd,hu,hf,rfl,rfl⟩
 ·cases h
theorem Yh{Q:α->Ac->Prop}{f:Value->Sem α}{t:Nat}{cs:Array Value}(hc:qR P t=true)(hv:cs[off]?=some v)(h:sl P (f v) l Q):sl P (part t cs off>>=f) l Q:=by obtain⟨u,i,h1,h2,_,_⟩:=ME hc;rw[AB];unfold part;rw[MC h1,h2];simp only[Bm,C6,hv];exact h
theorem kR{Q:α->Ac->Prop}{f:Value->Sem α}{t:Nat}{cs:Array Value}(hc:uP P t=some n)(h:sl P (f (.agg (cs.extract off (off+n)))) l Q):sl P (part t cs off>>=f) l Q:=by obtain⟨u,i,h1,h2,h3,h4⟩:=Kc hc;rw[AB];unfold part;rw[MC h1,h2];simp only[CS];rw[E2 h3,h4];exact h
theorem q5{k:Nat}{cs:Array Value}(hx:ev fr x=some (.agg cs))[c:FV P s f k ft][c2:OC P ft](hv:cs[k]?=some v):OpQ P ro N fr R ⟨d,.field s x f,ty,pos,aft,g⟩ v:=BN rfl λρ l hρ _=>by obtain⟨fs,fd,h1,h2,h3,h4⟩:=Qf c.out;simp only[execOp,hρ x _ hx,AB,Instr.field];rw[<-AB,Cc h1];simp only[h2,asAgg,AB,Bn,h3,h4];have:=Yh (P:=P) (l:=l) (f:=λv=>(pure v:Sem Value)) (Q:=λa l'=>Next.value a= .value v/\l'=l) c2.out hv ⟨rfl,rfl⟩;rw[AB] at this;exact this
theorem kS{k:Nat}{cs:Array Value}(hx:ev fr x=some (.agg cs))[c:FV P s f k ft][c2:AG P ft n](hv:cs.extract k (k+n)=wc):OpQ P ro N fr R ⟨d,.field s x f,ty,pos,aft,g⟩ (.agg wc):=BN rfl λρ l hρ _=>by subst hv;obtain⟨fs,fd,h1,h2,h3,h4⟩:=Qf c.out;simp only[execOp,hρ x _ hx,AB,Instr.field];rw[<-AB,Cc h1];simp only[h2,asAgg,AB,Bn,h3,h4];have:=kR (P:=P) (l:=l) (f:=λv=>(pure v:Sem Value)) (Q:=λa l'=>Next.value a= .value (.agg (cs.extract k (k+n)))/\l'=l) c2.out ⟨rfl,rfl⟩;rw[AB] at this;exact this
theorem kT{kk:Nat}(hx:ev fr x=some (.slice p n cap))[c:ST P t e kk yb]:OpQ P ro N fr R ⟨d,.call {callee:= .builtin .len,args:=#[x],argTypes:=#[t]},ty,pos,aft,g⟩ (.int .i64 (n:Nat)):=BN rfl λρ l hρ _=>by obtain⟨Hv,h1,_⟩:=E8 c.out;simp only[execOp,resolve,AB,Bn,invoke,builtin,Dj,AJ,CX,hρ x _ hx,Builtin.len_];show sl P (underlying t>>=_) l _;rw[Cc h1];exact⟨rfl,rfl⟩
theorem Dn{fs cs:Array Value}{at_:Array TypeId}(hx:ev fr x=some (.func (.func f) fs cs))(hy:Sd fr xs=some vs)[c:EN P f](h:Fn P f (fs.toList++vs++cs.toList) l K):OpE P ro N fr l ⟨d,.call {callee:= .value x,args:=xs.toArray,argTypes:=at_},ty,pos,aft,g⟩ K:=by
 refine⟨rfl,λE a W hf hs=>?_⟩;have hρ:=hf.agrees;unfold OpVal;have e:(execOp a.eval ⟨d,.call {callee:= .value x,args:=xs.toArray,argTypes:=at_},ty,pos,aft,g⟩).run P W= .ok (.enter f (fs.toList++vs++cs.toList).toArray) W:=by simp only[execOp,resolve,Dj,hρ.list hy,hρ x _ hx,Deferred.ofValue,Sem.run_bind];simp only[Sem.run_pure,Result.andThen,invoke];rw[c.out];congr 2;apply BP.1;simp
 rw[e];refine M6 ((h.run E W hs).mono ?_);rintro e W'' ⟨v,l'',rfl,hk,hs''⟩;exact⟨v,rfl,l'',hk,hs''⟩
theorem Az{at_:Array TypeId}(hx:ev fr x=some (.func (.func f) #[] #[]))(hy:Sd fr xs=some vs)[c:EN P f](h:Fn P f vs l K):OpE P ro N fr l ⟨d,.call {callee:= .value x,args:=xs.toArray,argTypes:=at_},ty,pos,aft,g⟩ K:=
 Dn hx hy (by simpa using h)
theorem AL{at_:Array TypeId}(hx:ev fr x=some (.func (.func f) #[] #[]))(hy:Sd fr xs=some vs)[c:EN P f](h: ∀l,(∀c,c∈R->c∈l)->Fn P f vs l (λv' l'=>v'=v/\l'=l)):OpQ P ro N fr R ⟨d,.call {callee:= .value x,args:=xs.toArray,argTypes:=at_},ty,pos,aft,g⟩ v:=
 ⟨λl hl=>Az hx hy (h l hl)⟩
theorem C5{r:Nat}{at_:Array TypeId}(hx:ev fr x=some (.func (.yield r) #[] #[]))(hy:Sd fr xs=some vs)(h:Oa P r vs l K):OpE P ro N fr l ⟨d,.call {callee:= .value x,args:=xs.toArray,argTypes:=at_},ty,pos,aft,g⟩ K:=by
 refine⟨rfl,λE a W hf hs=>?_⟩;have hρ:=hf.agrees;unfold OpVal;obtain⟨fn,tmps,assign,body,S8,hR⟩:=h.run E W hs;have e:(execOp a.eval ⟨d,.call {callee:= .value x,args:=xs.toArray,argTypes:=at_},ty,pos,aft,g⟩).run P W= .ok (.round r fn tmps assign body) W:=by simp only[execOp,resolve,Dj,hρ.list hy,hρ x _ hx,Deferred.ofValue,Sem.run_bind];simp only[Sem.run_pure,Result.andThen,invoke];rw[<-S8];congr 1;simp
 rw[e];refine am (hR.mono ?_);rintro e W'' ⟨v,l'',rfl,hk,hs''⟩;exact⟨v,rfl,l'',hk,hs''⟩
theorem kU{k:Nat}{cs wc:Ap}(hx:ev fr x=some (.agg (toArray cs)))[c:FV P s f k ft][c2:AG P ft n](hv:LSub cs k n wc):OpQ P ro N fr R ⟨d,.field s x f,ty,pos,aft,g⟩ (.agg (toArray wc)):=
 kS hx (by apply BP.1;rw[F8,Cj];simpa using hv.spec.1)
theorem Ke{t:Nat}{z:Ap}(h:w9 P t=some z): ∃i zv,P.info? t=some i/\i.zero=some zv/\zv.cells.toList=z:=by
 unfold w9 at h
 split at h
 ·rename_i i hi
  split at h
  ·rename_i zv hz;cases h;exact⟨i,zv,hi,hz,rfl⟩
  ·cases h
 ·cases h
theorem e_alloc{zs:Ap}[c:ZV P t zs]:OpE P ro N fr l ⟨d,.alloc t,ty,pos,aft,g⟩ (λv l'=> ∃b,(∀c,c∈l->c.1≠b)/\v= .pointer (some ⟨b,0,none⟩)/\l'=(b,.cells zs.toArray t (0,0))::l):=DP rfl λρ hρ=>by obtain⟨i,zv,h1,h2,h3⟩:=Ke c.out;simp only[execOp,AB,Instr.alloc,zeroValue];rw[<-AB,J3 h1,h2];simp only[Bn,newVar,newRow,AB];intro b hb;exact⟨b,hb,rfl,by rw[<-h3]⟩
theorem uR(hx:ev fr x=some v):OpE P ro N fr l ⟨d,.box e x,ty,pos,aft,g⟩ (λv' l'=> ∃b,(∀c,c∈l->c.1≠b)/\v'= .pointer (some ⟨b,0,none⟩)/\l'=(b,.cells v.cells e (0,0))::l):=DP rfl λρ hρ=>by simp only[execOp,AB,Instr.box,hρ x _ hx,newVar,newRow];intro b hb;exact⟨b,hb,rfl,rfl⟩
theorem OX(h:v.oneCell'=true):v.cells=#[v]:=by cases v<;>first|rfl|(simp[Value.oneCell'] at h)
theorem WG{Q:α->Ac->Prop}{f:Unit->Sem α}{cs:Array Value}(hc:qR P t=true)(h1:v.oneCell'=true)(C9:off<cs.size)(hu:Upd l b (.cells cs T (0,0)) (.cells (cs.setIfInBounds off v) T (0,0)) l')(h:sl P (f ()) l' Q):sl P (storeVar t ⟨b,off,none⟩ v>>=f) l Q:=by obtain⟨u,i,_,_,h3,h4⟩:=ME hc;rw[AB];unfold storeVar;rw[E2 h3,OX h1,h4];exact⟨h1,cs,T,(0,0),l',hu,rfl,C9,by simp[Addr.add],h⟩
theorem Du{cs:Array Value}(hx:ev fr x=some (.pointer (some ⟨b,off,none⟩)))(hy:ev fr y=some v)[c:OC P t](h1:v.oneCell'=true)(hu:Upd l b (.cells cs T (0,0)) (.cells (cs.setIfInBounds off v) T (0,0)) l')(C9:off<cs.size):OpE P ro N fr l ⟨d,.store t x y,ty,pos,aft,g⟩ (λv' l2=>v'=undef/\l2=l'):=DP rfl λρ hρ=>by simp only[execOp,hρ x _ hx,hρ y _ hy,Instr.storeAt,AB,Instr.sureAddr,Bn];have:=WG (P:=P) (f:=λv=>(pure v:Sem Unit)) (Q:=λa l2=>Yb P (λv' l2=>v'=undef/\l2=l') Next.skip l2) c.out h1 C9 hu ⟨rfl,rfl⟩;rw[AB] at this;exact this
theorem Ez(hx:ev fr x=some v)(h1:v.oneCell'=true):OpE P ro N fr l ⟨d,.box e x,ty,pos,aft,g⟩ (λv' l'=> ∃b,(∀c,c∈l->c.1≠b)/\v'= .pointer (some ⟨b,0,none⟩)/\l'=(b,.cells (toArray [v]) e (0,0))::l):=
 (uR hx).mono λv' l' ⟨b,h0,h1',h2⟩=>⟨b,h0,h1',by rw[h2,OX h1]⟩
theorem CH(hx:ev fr x=some (.agg ws)):OpE P ro N fr l ⟨d,.box e x,ty,pos,aft,g⟩ (λv' l'=> ∃b,(∀c,c∈l->c.1≠b)/\v'= .pointer (some ⟨b,0,none⟩)/\l'=(b,.cells ws e (0,0))::l):=uR hx
theorem GF{cs:Ap}(hx:ev fr x=some (.pointer (some ⟨b,off,none⟩)))(hy:ev fr y=some v)[c:OC P t](h1:v.oneCell'=true)(hm:(b,Obj.cells (toArray cs) T (0,0))∈l)(hs:LSet cs off v cs')(hu:Upd l b (.cells (toArray cs) T (0,0)) (.cells (toArray cs') T (0,0)) l'):OpE P ro N fr l ⟨d,.store t x y,ty,pos,aft,g⟩ (λv' l2=>v'=undef/\l2=l'):=by refine Du hx hy h1 (cs:=toArray cs) (T:=T) ?_ (by simpa using hs.spec.2);rw[BB,hs.spec.1];exact hu
def Da(cs:Array Value)(off:Nat):Ap->Array Value
 |[]=>cs
 |v::r=>Da (cs.setIfInBounds off v) (off+1) r
theorem Upd.mid{l l'':Ac}{o o'':Obj}(o':Obj)(h:Upd l b o o'' l''): ∃l',Upd l b o o' l'/\Upd l' b o' o'' l'':=by
 induction h with
 |here=>exact⟨_,.here,.here⟩
 |there _ ih=>obtain⟨l',h1,h2⟩:=ih;exact⟨_,.there h1,.there h2⟩
theorem Upd.same'{l:Ac}{o:Obj}(h:Upd l b o o' l')(e:o=o'):l'=l:=by
 induction h with
 |here=>rw[e]
 |there _ ih=>rw[ih e]
theorem Upd.same{l:Ac}{o:Obj}(h:Upd l b o o l'):l'=l:=h.same' rfl
theorem Mj{α:Type}{Q:α->Ac->Prop}{f:Unit->Sem α}{T:TypeId}: ∀(vs:Ap) (i:Nat) (cs:Array Value) (l l':Ac),(∀v,v∈vs->v.oneCell'=true)->off+i+vs.length<=cs.size->Upd l b (.cells cs T (0,0)) (.cells (Da cs (off+i) vs) T (0,0)) l'->sl P (f ()) l' Q->sl P (storeCells ⟨b,off,none⟩ vs i>>=f) l Q
 |[],i,cs,l,l',_,_,hu,h=>by have:=hu.same;subst this;exact h
 |v::r,i,cs,l,l',hv,LQ,hu,h=>by unfold storeCells;rw[AB,AB];show sl P (store ((⟨b,off,none⟩:Addr).add i) v) l _;rw[GE];obtain⟨l1,h1,h2⟩:=hu.mid (.cells (cs.setIfInBounds (off+i) v) T (0,0));simp only[Bu] at LQ;refine⟨hv v Ak,cs,T,(0,0),l1,h1,rfl,by simp only;omega,by simp,?_⟩;show sl P (storeCells ⟨b,off,none⟩ r (i+1)) l1 _;rw[<-AB];exact Mj r (i+1) _ l1 l' (λu hu=>hv u (An _ hu)) (by simp;omega) h2 h
theorem LSetA.spec{l:Ap}{k:Nat}(h:LSetA l k vs r):Da (toArray l) k vs=toArray r/\k+vs.length<=l.length:=by
 have key: ∀(vs:Ap) (pre l:Ap) (k:Nat),Da (toArray (pre++l)) (pre.length+k) vs=toArray (pre++(Da (toArray l) k vs).toList):=by
  intro vs
  induction vs with
  |nil=>intro pre l k;simp[Da]
  |cons v vs ih=>intro pre l k;simp only[Da,BB];rw[Cv _ _ Af,show pre.length+k-pre.length=k by omega,show pre.length+k+1=pre.length+(k+1) by omega];exact ih pre _ _
 induction h with
 |done=>exact⟨rfl,Bp _⟩
 |put h ih=>rename_i x v l r vs;refine⟨?_,by have:=ih.2;simp only[Bu];omega⟩;simp only[Da,BB,Fy];have:=key vs [v] l 0;simp only[Bl,Cn,BF,CV] at this⊢;rw[this,ih.1]
 |skip h ih=>rename_i x l r vs k;refine⟨?_,by have:=ih.2;simp only[Bu];omega⟩;have:=key vs [x] l k;simp only[Bl,Cn] at this;rw[KM k 1,this,ih.1]
theorem EH{cs:Array Value}(hx:ev fr x=some (.pointer (some ⟨b,off,none⟩)))(hy:ev fr y=some (.agg ws))[c:AG P t n](hn:ws.size=n)(h1: ∀v,v∈ws.toList->v.oneCell'=true)(hu:Upd l b (.cells cs T (0,0)) (.cells (Da cs off ws.toList) T (0,0)) l')(C9:off+n<=cs.size):OpE P ro N fr l ⟨d,.store t x y,ty,pos,aft,g⟩ (λv' l2=>v'=undef/\l2=l'):=DP rfl λρ hρ=>by obtain⟨u,i,_,_,h3,h4⟩:=Kc c.out;simp only[execOp,hρ x _ hx,hρ y _ hy,Instr.storeAt,AB,Instr.sureAddr,Bn];unfold storeVar;rw[E2 h3,h4];have e:(Value.agg ws).cells=ws:=rfl;rw[e,hn];simp only[ne_eq,not_true,C6];have:=Mj (P:=P) (f:=λv=>(pure v:Sem Unit)) (Q:=λa l2=>Yb P (λv' l2=>v'=undef/\l2=l') Next.skip l2) ws.toList 0 cs l l' h1 (by simp;omega) hu ⟨rfl,rfl⟩;rw[AB] at this;exact this
theorem Vv{cs ws:Ap}(hx:ev fr x=some (.pointer (some ⟨b,off,none⟩)))(hy:ev fr y=some (.agg (toArray ws)))[c:AG P t n](hn:ws.length=n)(h1: ∀v,v∈ws->v.oneCell'=true)(hm:(b,Obj.cells (toArray cs) T (0,0))∈l)(hs:LSetA cs off ws cs')(hu:Upd l b (.cells (toArray cs) T (0,0)) (.cells (toArray cs') T (0,0)) l'):OpE P ro N fr l ⟨d,.store t x y,ty,pos,aft,g⟩ (λv' l2=>v'=undef/\l2=l'):=by refine EH hx hy (cs:=toArray cs) (T:=T) (by simpa using hn) (by simpa using h1) ?_ (by have:=hs.spec.2;simp;omega);have e:=hs.spec.1;simp only at e⊢;rw[e];exact hu
end
end Go.Proofs.YtlifcingifodfaaGreat
