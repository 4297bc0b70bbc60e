/- Laws that the statement's proof leans on (joined out of several texts). -/
import Derived.WalkKit
import Derived.ProofKit
import Derived.OpenShut
import Derived.ChangeOld
import Derived.Below
import Derived.Deep.Slices
import Derived.Handy
import Derived.RangeFuncNested
import Derived.RangeFuncBound
import Derived.RangeFuncCalls
import Derived.RangeFuncLeaves
import Derived.Shelf.Abstract
import Derived.Shelf.RegionOpen
import Derived.OwnWalkIn
import Derived.TacticsInMore
import Derived.LoopNIn
import Derived.LoopIn
import Derived.WalkSmall
import Derived.Lib.Hide
import Derived.BigFrameIn
import Derived.BigRegion
import Derived.Deep.QuietTactic
import Derived.BigQuiet
import Derived.WalkMore
import Derived.KernelRfl
namespace Go.Proofs
abbrev BD:=@Array.getElem?_eq_some_iff
abbrev D5:=@List.foldl_cons
abbrev He:=@Option.bind_some
abbrev Ad:=@if_pos
abbrev An:=@List.mem_cons_of_mem
abbrev Ak:=@List.mem_cons_self
abbrev Ai:=@List.length_append
abbrev Ac:=@if_neg
abbrev FA:=@Nat.succ_mul
abbrev Ig:=@Option.bind_eq_some_iff
abbrev Ay:=@List.getElem?_eq_some_iff
abbrev Al:=@List.getElem?_eq_getElem
abbrev Ed:=@List.take_length
abbrev A7:=@Nat.le_refl
abbrev Bl:=@Nat.zero_le
abbrev Au:=@List.mem_map
abbrev A0:=@List.getElem?_map
abbrev ES:=@List.getElem?_range
abbrev BL:=@Option.map_some
abbrev Di:=@Option.getD_some
abbrev CB:=@Array.getElem?_eq_getElem
abbrev DQ:=@List.sublist_cons_self
abbrev AI:=@List.map_cons
abbrev AN:=@List.nodup_cons
abbrev Ap:=@List.mem_cons
abbrev Do:=@Iff.rfl
abbrev Bi:=@Bool.false_eq_true
abbrev Db:=@Array.getD_eq_getD_getElem?
abbrev Fe:=@Nat.eq_of_beq_eq_true
abbrev FQ:=@Array.getElem?_setIfInBounds_ne
abbrev Lo:=@Nat.le_of_not_lt
abbrev D8:=@Nat.lt_of_le_of_lt
abbrev CT:=@if_true
abbrev CR:=@if_false
abbrev C8:=@Option.map_eq_some_iff
abbrev CX:=@List.getElem?_cons_succ
abbrev AC:=@List.getElem?_toArray
abbrev Br:=@List.length_cons
abbrev J5:=@Array.append_empty
abbrev BO:=@Array.toList_inj
abbrev KG:=@Array.toList_push
abbrev GM:=@Array.toList_extract
abbrev Cj:=@List.extract_eq_take_drop
abbrev Am:=@List.append_assoc
abbrev Cb:=@List.singleton_append
abbrev C4:=@List.drop_eq_getElem_cons
abbrev Ji:=@Nat.add_assoc
abbrev CH:=@Nat.add_zero
abbrev J6:=@Array.empty_append
abbrev C5:=@List.map_toArray
abbrev CI:=@List.map_nil
abbrev Bt:=@List.setIfInBounds_toArray
abbrev Cm:=@List.set_append_right
abbrev E6:=@List.set_cons_zero
abbrev Bh:=@List.length_singleton
abbrev BC:=@Nat.zero_add
abbrev JP:=@Nat.add_comm
abbrev At:=@decide_eq_true
abbrev Av:=@decide_eq_false
abbrev Iy:=@List.Perm.refl
abbrev AH:=@List.perm_middle
abbrev Ex:=@List.Perm.append_left
abbrev HE:=@List.all_cons
abbrev AR:=@Bool.and_eq_true
abbrev Aa:=@List.mem_append_right
abbrev Iz:=@List.Perm.append_right
abbrev Ey:=@List.perm_append_comm
abbrev AZ:=@List.all_eq_true
abbrev D6:=@Bool.or_eq_true
abbrev I5:=@beq_iff_eq
abbrev Bg:=@decide_eq_true_eq
abbrev KH:=@Array.getElem_mem
abbrev BY:=@List.pairwise_cons
abbrev Ff:=@Ne.symm
abbrev AE:=@List.mem_append
abbrev Ah:=@List.mem_append_left
abbrev Aq:=@List.map_append
abbrev Ae:=@List.cons_append
abbrev Bm:=@List.pairwise_append
abbrev Ga:=@List.append_of_mem
abbrev JK:=@List.Sublist.append
abbrev Em:=@List.Sublist.refl
abbrev Bf:=@List.append_nil
abbrev Ag:=@List.nil_append
abbrev Cc:=@List.cons.injEq
abbrev IV:=@List.contains_iff_mem
abbrev Hf:=@List.any_eq_true
abbrev DC:=@Bool.not_eq_true'
abbrev DM:=@List.nodup_iff_pairwise_ne
abbrev Cp:=@List.pairwise_map
abbrev FW:=@List.length_eq_zero_iff
abbrev HF:=@true_and
abbrev BN:=@congrArg
abbrev A3:=@List.length_map
abbrev IA:=@Option.some.injEq
abbrev HX:=@List.getElem?_take
abbrev J7:=@List.getElem?_drop
abbrev E0:=@Nat.add_mul
abbrev DY:=@List.eq_nil_of_length_eq_zero
abbrev Bn:=@List.size_toArray
abbrev FB:=@Nat.mul_le_mul_right
abbrev Dx:=@List.length_drop
abbrev AF:=@List.getElem?_append_left
abbrev J8:=@Nat.pos_of_ne_zero
abbrev C9:=@List.ext_getElem?
abbrev BG:=@List.replicate_succ
abbrev Cq:=@List.flatten_cons
abbrev Dj:=@Nat.mod_eq_of_lt
abbrev AU:=@List.getElem?_append_right
abbrev JL:=@Nat.succ_eq_add_one
abbrev J9:=@Nat.mod_eq_sub_mod
abbrev Lp:=@Array.toList_map
abbrev Ka:=@Array.toList_range
abbrev GN:=@Nat.mod_lt
abbrev FX:=@List.getElem!_eq_getElem?_getD
abbrev Bc:=@List.getElem?_eq_none
abbrev DD:=@Nat.sub_self
abbrev Dt:=@Option.map_none
abbrev CY:=@List.getElem?_cons_zero
abbrev D1:=@List.eq_of_mem_replicate
abbrev Hw:=@Array.toList_modify
abbrev IS:=@List.eraseIdxIfInBounds_toArray
abbrev Dc:=@List.eraseIdx_eq_take_drop_succ
abbrev Gx:=@List.map_take
abbrev Ci:=@List.mem_filter
abbrev Hg:=@List.getElem_mem
abbrev BB:=@List.find?_cons
abbrev Gb:=@Nat.zero_mul
abbrev GO:=@Bool.not_false
abbrev A6:=@List.mem_of_getElem?
abbrev Hh:=@List.nil_sublist
abbrev AA:=@List.perm_append_comm_assoc
abbrev IB:=@Nat.mul_le_mul
abbrev BZ:=@List.Sublist.subset
abbrev Bp:=@Bool.true_and
abbrev Be:=@Bool.false_and
abbrev Cd:=@List.take_append_drop
abbrev FY:=@List.foldl_nil
abbrev Dp:=@List.drop_of_length_le
abbrev Kb:=@List.drop_drop
abbrev HO:=@List.headD_cons
abbrev ER:=@List.length_nil
abbrev GP:=@Std.Legacy.Range.forIn_eq_forIn_range'
abbrev KI:=@List.mem_range'_1
abbrev Cr:=@List.flatMap_cons
abbrev Gj:=@List.take_left'
abbrev I6:=@List.drop_append
abbrev EG:=@List.extract_toArray
abbrev Cx:=@Nat.add_sub_cancel_left
abbrev Bu:=@List.nodup_append
abbrev KJ:=@Nat.lt_succ_of_lt
abbrev Ax:=@List.mem_singleton
abbrev Hi:=@Nat.lt_succ_self
abbrev Is:=@List.eraseIdx_append_of_length_le
abbrev Kc:=@List.findIdx?_cons
abbrev AY:=@Int.toNat_natCast
abbrev Ev:=@Nat.min_eq_left
abbrev DN:=@BitVec.ofInt_natCast
abbrev D9:=@BitVec.toNat_ofNat
abbrev Lq:=@BitVec.toNat_and
abbrev JB:=@Nat.and_le_left
abbrev BP:=@Nat.le_trans
abbrev JC:=@Int.natCast_mul
abbrev La:=@Bool.false_or
abbrev LP:=@Nat.mul_comm
abbrev EU:=@Array.getElem?_eq_none
abbrev IC:=@List.tail_cons
abbrev IU:=@List.replicate_append_replicate
abbrev Dq:=@Array.ext_getElem?
abbrev Ee:=@List.getElem?_replicate
abbrev Cg:=@List.take_add_one
abbrev BE:=@List.take_prefix
abbrev Bv:=@List.take_of_length_le
abbrev DV:=@List.flatMap_append
abbrev CJ:=@List.map_map
abbrev HP:=@List.drop_left'
abbrev C6:=@List.length_take
abbrev I7:=@List.mem_flatMap
abbrev BQ:=@List.not_mem_nil
abbrev Eo:=@or_false
abbrev It:=@List.set_eq_take_append_cons_drop
abbrev GQ:=@List.set_append_left
abbrev HY:=@List.set_cons_succ
abbrev GA:=@List.getElem?_set
abbrev Ep:=@of_decide_eq_true
abbrev Iu:=@List.findIdx?_eq_some_iff_getElem
abbrev Jo:=@List.getElem?_of_mem
abbrev Gk:=@List.takeWhile_append_of_pos
abbrev E7:=@List.takeWhile_cons_of_neg
abbrev GR:=@List.dropWhile_cons_of_neg
abbrev Hs:=@List.pairwise_iff_getElem
abbrev BI:=@List.takeWhile_append_dropWhile
abbrev GS:=@List.takeWhile_cons_of_pos
abbrev ID:=@List.dropWhile_sublist
abbrev Df:=@Nat.mul_one
abbrev FC:=@List.length_eraseIdx
abbrev GH:=@Array.getElem?_setIfInBounds_self_of_lt
abbrev Cu:=@List.range_succ
abbrev Dr:=@List.filter_append
abbrev E4:=@List.filter_cons
abbrev Gl:=@List.prefix_rfl
abbrev Gc:=@List.prefix_append
abbrev Er:=@List.mem_range
abbrev Dm:=@List.find?_append
abbrev By:=@List.find?_eq_none
abbrev DO:=@List.find?_some
abbrev Bz:=@List.mem_of_find?_eq_some
abbrev GB:=@List.idxOf_lt_length_of_mem
abbrev GT:=@List.IsPrefix.subset
abbrev CU:=@List.length_filter_le
abbrev EJ:=@Nat.le_succ_of_le
abbrev HH:=@Option.isSome_iff_exists
abbrev AV:=@Option.some.inj
abbrev IE:=@Bool.and_false
abbrev HZ:=@Option.isSome_some
abbrev Ih:=@List.filter_cons_of_neg
abbrev DF:=@Nat.testBit_eq_decide_div_mod_eq
abbrev IF:=@and_true
abbrev Ea:=@Nat.lt_of_lt_of_le
abbrev CN:=@Nat.pow_le_pow_right
abbrev EW:=@Nat.testBit_lt_two_pow
abbrev E8:=@Option.isSome_none
abbrev E9:=@List.perm_ext_iff_of_nodup
abbrev H0:=@List.all_takeWhile
abbrev Bd:=@List.getD_eq_getElem?_getD
abbrev Bw:=@List.map_congr_left
abbrev Gm:=@Nat.two_pow_pos
abbrev Ii:=@Nat.testBit_mod_two_pow
abbrev EL:=@Nat.testBit_div_two_pow
abbrev Jp:=@Nat.eq_of_testBit_eq
abbrev EX:=@Array.getElem?_extract
abbrev DR:=@List.getElem?_set_self
abbrev Gn:=@Prod.ext
abbrev FD:=@List.getElem?_set_ne
abbrev Gp:=@List.dropLast_cons_of_ne_nil
abbrev Lr:=@List.cons_ne_nil
abbrev I8:=@List.dropLast_append_of_ne_nil
abbrev DZ:=@List.takeWhile_prefix
abbrev Gq:=@List.dropLast_concat_getLast
abbrev FJ:=@List.Sublist.append_left
abbrev CC:=@List.mem_or_eq_of_mem_set
abbrev JD:=@Bool.eq_iff_iff
abbrev Ef:=@decide_eq_false_iff_not
abbrev AL:=@List.getElem_toArray
abbrev AK:=@List.getElem_cons_zero
abbrev H9:=@decide_eq_true_iff
abbrev Cv:=@List.length_set
abbrev FK:=@List.mem_of_mem_eraseIdx
abbrev FL:=@not_not_intro
abbrev DW:=@List.toList_toArray
abbrev JQ:=@List.set_set
abbrev Hj:=@List.map_set
abbrev IW:=@List.IsPrefix.getElem
abbrev Ht:=@List.getElem_append_right
abbrev EM:=@List.length_range
abbrev IX:=@List.length_replicate
abbrev JE:=@Bool.toNat_true
abbrev Ls:=@Bool.toNat_false
abbrev EO:=@List.foldl_append
abbrev Gr:=@List.take_range
abbrev I9:=@List.append_inj'
abbrev AQ:=@List.getElem_cons_succ
abbrev F7:=@decide_true
abbrev Hk:=@decide_false
abbrev Ij:=@List.prefix_iff_eq_take
abbrev Lb:=@Bool.toNat_le
abbrev FE:=@Classical.not_not
theorem Af{p:Prop}(h:p:=by omega):p:=h
theorem Bs{p:Prop}(h:p:=by kernel_rfl):p:=h
theorem AX{p:Prop}(h:p:=by decide):p:=h
end Go.Proofs
set_option maxHeartbeats 4000000
set_option linter.unusedVariables false
set_option linter.unusedSimpArgs false
namespace Go.Proofs.YtlkgekpmileobaaGreat
open List(toArray)
open Go.ChangeShapes Go.WideShapes Go.ChangeAt Go.RowKit Go.Deep
variable{v:Value}{a ks:List (Option IntKind)}{x:List Value}{r:Reach}{b0:Nat}{t:TypeId}{p:List MemPlace}
def pW:Option IntKind->Value->Prop
 |some k,v=> ∃a:Int,v= .int k a/\(Lit.int k a).wf=true
 |none,v=> ∃b:Bool,v= .bool b
def AllIs:List (Option IntKind)->List Value->Prop
 |[],cs=>cs=[]
 |k::ks,cs=> ∃c r,cs=c::r/\pW k c/\AllIs ks r
theorem AllIs.append{b:List (Option IntKind)}{y:List Value}(h:AllIs a x)(k:AllIs b y):AllIs (a++b) (x++y):=by
 induction a generalizing x with
 |nil=>cases h;exact k
 |cons q a ih=>obtain⟨c,r,rfl,h1,h2⟩:=h;exact⟨c,r++y,rfl,h1,ih h2⟩
theorem AllIs.len(h:AllIs a x):x.length=a.length:=by
 induction a generalizing x with
 |nil=>cases h;rfl
 |cons q a ih=>obtain⟨c,r,rfl,h1,h2⟩:=h;simp[ih h2]
def MW(P:Program):Nat->TypeId->Option (List (Option IntKind))
 |0,_=>none
 |n+1,t=>
  match P.underlying t with
  |some (.int k)=>some [some k]
  |some .bool=>some [none]
  |some (.struct fs)=>fs.toList.foldl (λacc f=>acc.bind λl=>(MW P n f.type).bind λks=>if f.offset=l.length/\ks.length=P.cellsOf f.type then some (l++ks) else none) (some []) |>.bind λks=>if ks.length=P.cellsOf t then some ks else none
  |some (.array len e)=>(MW P n e).bind λks=>if ks.length=P.cellsOf e/\len*P.cellsOf e=P.cellsOf t then some ((List.replicate len ks).flatten) else none
  |_=>none
theorem LQ{α β:Type}(g:List α->β->Option (List α))(fs:List β):fs.foldl (λacc f=>acc.bind λl=>g l f) none=none:=by
 induction fs with
 |nil=>rfl
 |cons f fs ih=>simpa using ih
theorem Q9{w:World}{a:Addr}(h:w.cell? a=some v):a.block<w.heap.size/\True:=by
 refine⟨?_,trivial⟩;unfold World.cell? at h
 split at h
 ·rename_i ho;exact(BD.1 ho).1
 ·cases h
section
variable{H:Type}{enc:TypeId×Value->H}{P:Program}{w:World}{base:Nat}{spare:Nat->Bool}{held:Bool}
theorem VN(n m:Nat)(ih: ∀(t:TypeId) (m:Nat) (cs:List Value) (x:DataW H×List MemPlace) (ks:List (Option IntKind)),DataW.trod enc P w base spare held m t cs=some x->MW P n t=some ks->AllIs ks cs)(cs:List Value):
 ∀(fs:List Field) (l ks:List (Option IntKind)),(∀f∈fs,∃x,DataW.trod enc P w base spare held m f.type ((cs.drop f.offset).take (P.cellsOf f.type))=some x)->
  AllIs l (cs.take l.length)->fs.foldl (λacc f=>acc.bind λl=>(MW P n f.type).bind λks=>if f.offset=l.length/\ks.length=P.cellsOf f.type then some (l++ks) else none) (some l)=some ks->AllIs ks (cs.take ks.length):=by
 intro fs
 induction fs with
 |nil=>intro l ks _ hl h;simp at h;subst h;exact hl
 |cons f fs ihf=>
  intro l ks hx hl h;simp only[D5,He] at h;cases hk:MW P n f.type with
  |none=>rw[hk] at h;simp only[Option.bind_none] at h;rw[LQ] at h;cases h
  |some kf=>
   rw[hk] at h;simp only[He] at h;by_cases hc:f.offset=l.length/\kf.length=P.cellsOf f.type
   ·rw[Ad hc] at h;refine ihf _ _ (λg hg=>hx g (An _ hg)) ?_ h;obtain⟨x,hxf⟩:=hx f Ak;have:=ih f.type m _ x kf hxf hk;rw[Ai,List.take_add,<-hc.1];rw[<-hc.2] at this;rw[hc.1] at this⊢;exact hl.append this
   ·rw[Ac hc,LQ] at h;cases h
theorem bH(n m:Nat)(e:TypeId)(ks:List (Option IntKind))(ih: ∀(cs:List Value) (x:DataW H×List MemPlace),DataW.trod enc P w base spare held m e cs=some x->AllIs ks cs)(cs:List Value)(hk:ks.length=P.cellsOf e):
 ∀(k:Nat),(∀i,i<k-> ∃x,DataW.trod enc P w base spare held m e ((cs.drop (i*P.cellsOf e)).take (P.cellsOf e))=some x)->AllIs ((List.replicate k ks).flatten) (cs.take (k*P.cellsOf e)):=by
 intro k
 induction k with
 |zero=>intro _;simp[AllIs]
 |succ k ihk=>intro h;have h1:=ihk (λi hi=>h i Af);obtain⟨x,hx⟩:=h k Af;have h2:=ih _ x hx;rw[FA,List.take_add,List.replicate_succ',List.flatten_append];simpa using h1.append h2
theorem Tt: ∀(n:Nat) (t:TypeId) (m:Nat) (cs:List Value) (x:DataW H×List MemPlace) (ks:List (Option IntKind)),DataW.trod enc P w base spare held m t cs=some x->MW P n t=some ks->AllIs ks cs:=by
 intro n
 induction n with
 |zero=>intro t m cs x ks _ h;simp[MW] at h
 |succ n ih=>
  intro t m cs x ks hx h;unfold MW at h
  split at h
  ·rename_i k ht;obtain⟨a,rfl,_,wa⟩:=DataW.trod_int ht hx;cases h;exact⟨_,_,rfl,⟨a,rfl,wa⟩,rfl⟩
  ·rename_i ht;obtain⟨b,rfl,_⟩:=DataW.trod_bool ht hx;cases h;exact⟨_,_,rfl,⟨b,rfl⟩,rfl⟩
  ·rename_i fs ht;obtain⟨xs,m',_,_,hl,hlen,hf⟩:=DataW.trod_struct ht hx;obtain⟨k0,hk0,hk1⟩:=Ig.1 h;by_cases hc:k0.length=P.cellsOf t
   ·rw[Ad hc] at hk1;cases hk1;have:=VN n m' ih cs fs.toList [] ks (λf hfm=>by
     obtain⟨i,hi,he⟩:=List.getElem_of_mem hfm;have h0:=hf i f (by rw[<-Array.getElem?_toList];exact Ay.2 ⟨hi,he⟩);have hix:i<xs.length:=by rw[hlen];simpa using hi
     exact⟨xs[i],by rw[h0];exact Al hix⟩) rfl hk0
    rwa [hc,<-hl,Ed] at this
   ·rw[Ac hc] at hk1;cases hk1
  ·rename_i len e ht;obtain⟨xs,m',_,_,hl,hlen,hf⟩:=DataW.trod_array ht hx;cases hk:MW P n e with
   |none=>rw[hk] at h;cases h
   |some ke=>
    rw[hk] at h;simp only[He] at h;by_cases hc:ke.length=P.cellsOf e/\len*P.cellsOf e=P.cellsOf t
    ·rw[Ad hc] at h;cases h;have:=bH n m' e ke (λcs' x' hx'=>ih e m' cs' x' ke hx' hk) cs hc.1 len (λi hi=>by
      have h0:=hf i hi;have hix:i<xs.length:=by omega
      exact⟨xs[i],by rw[h0];exact Al hix⟩)
     rwa [hc.2,<-hl,Ed] at this
    ·rw[Ac hc] at h;cases h
  ·cases h
theorem bI{d:DataW H}(n:Nat)
 (hag:(match P.underlying t with|some (.struct _)|some (.array _ _)=>true|_=>false)=true)(hk:MW P n t=some ks)
 (hv:Value.okWide P w r b0 t v)(h:DataW.Trod enc P w base spare held t v d p): ∃cs:List Value,v= .agg cs.toArray/\AllIs ks cs:=by
 obtain⟨cs,rfl⟩: ∃cs,v= .agg cs:=by
  unfold Value.okWide at hv
  split at hv
  ·obtain⟨cs,h1,_⟩:=hv;exact⟨cs,h1⟩
  ·obtain⟨cs,h1,_⟩:=hv;exact⟨cs,h1⟩
  ·rename_i h1 h2
   split at hag
   ·rename_i hu;exact absurd hu (h1 _)
   ·rename_i hu;exact absurd hu (h2 _ _)
   ·cases hag
 obtain⟨fuel,hf⟩:=h;simp only[Value.cells] at hf;exact⟨cs.toList,by simp,Tt n t fuel _ _ ks hf hk⟩
structure UB(ks:List (Option IntKind))(w:World)(a:Option Addr)(len cap:Nat)(rows:List (List Value)):Prop where
 nil:a=none->len=0/\cap=0
 le:len<=cap
 max:cap<=maxLen
 size:rows.length=len
 all: ∀r∈rows,AllIs ks r
 at_:0<len-> ∃b off,a=some ⟨b,off,none⟩/\b<w.heap.size/\ ∀i j,i<len->j<ks.length->w.cell? ⟨b,off+i*ks.length+j,none⟩=(rows[i]?.getD [])[j]?
theorem bJ{e:TypeId}{d:DataW H}(n:Nat)
 (ht:P.underlying t=some (.slice e))(hk:MW P n e=some ks)(hkl:ks.length=P.cellsOf e)(hpos:0<P.cellsOf e)
 (hv:Value.okWide P w r b0 t v)(h:DataW.Trod enc P w base spare held t v d p):
 ∃a len cap rows,v= .slice a len cap/\UB ks w a len cap rows:=by
 obtain⟨a0,len,cap,rfl⟩:=okWide_slice ht hv;obtain⟨fuel,hf⟩:=h;simp only[Value.cells] at hf;rcases open_slice ht hf with⟨Nl,_⟩|⟨a,len',cap',m,n',D,Pl,Nl,hb,hl,hm,hmm,_,hel⟩
 ·simp at Nl;obtain⟨rfl,rfl,rfl⟩:=Nl;exact⟨none,0,0,[],rfl,⟨λ_=>⟨rfl,rfl⟩,A7 _,Bl _,rfl,by simp,by simp⟩⟩
 ·simp at Nl;obtain⟨rfl,rfl,rfl⟩:=Nl;have hlm:len<=m:=by rw[hmm];split<;>omega
  have hch: ∀i,i<len-> ∃cs',w.cells? base (a.add (i*P.cellsOf e)) (P.cellsOf e)=some cs'/\AllIs ks cs':=λi hi=>by obtain⟨cs',h1,h2⟩:=hel i Af;exact⟨cs',h1,Tt n e n' cs' _ ks h2 hk⟩
  refine⟨some a,len,cap,(List.range len).map λi=>(w.cells? base (a.add (i*P.cellsOf e)) (P.cellsOf e)).getD [],rfl,⟨by simp,hl,hm,by simp,?_,?_⟩⟩
  ·intro r hr;obtain⟨i,hi,rfl⟩:=Au.1 hr;obtain⟨cs',h1,h2⟩:=hch i (by simpa using hi);rw[h1];exact h2
  ·intro h0;obtain⟨cs0,h1,h2⟩:=hch 0 h0;obtain⟨_,hl0,hc0⟩:=World.cells?_some h1;have hc00:=hc0 0 hpos;have hlen0:0<cs0.length:=by omega
   rw[Al hlen0] at hc00;have hsp:=World.cell?_spot hc00;obtain⟨b,off,spot⟩:=a;simp[Addr.add] at hsp;subst hsp;refine⟨b,off,rfl,?_,λi j hi hj=>?_⟩
   ·have:=(Q9 hc00).1;simpa[Addr.add] using this
   ·obtain⟨cs',h1,h2⟩:=hch i hi;obtain⟨_,hl1,hc1⟩:=World.cells?_some h1;have:=hc1 j Af;simp only[A0,ES hi,BL,Di,h1];rw[<-this,hkl];congr 1;unfold Addr.add;by_cases hi0:i*P.cellsOf e=0
    ·rw[Ad hi0,hi0];by_cases hj0:j=0
     ·rw[Ad hj0];simp[hj0]
     ·rw[Ac hj0];simp
    ·rw[Ac hi0];by_cases hj0:j=0
     ·rw[Ad hj0];simp[hj0]
     ·rw[Ac hj0]
end
end Go.Proofs.YtlkgekpmileobaaGreat
namespace Go.Proofs.YtlkgekpmileobaaGreat
open List(toArray)
open Go.RowKit
variable{t k n N e j f i s off' yb cap r dj m D:Nat}{P:Program}{α:Type}{E W:World}{cs tmps ws:Array Value}{v u:Value}{ro:Option Nat}{oj o:Oper}{c x y assign body:Code}{b b' q:Bool}{vs args cs':List Value}{T ty src dst:TypeId}{a:Act}{Q:Exit->Act->World->Prop}{fz:Nat×Nat}{ds:List Deferred}{fn:Func}{p:Prop}{xs:List Operand}{rs:List ResultVar}{ki k':IntKind}{o':Obj}{R:Ending->World->Prop}{ops:Array Oper}{rest:List Oper}{g:Option (Nat×Bool)}{ρ:Operand->Value}{Kx:Act->World->Prop}{pos:String}{z:Operand}
theorem VO{b:Nat}{c:Array Value}{t:TypeId}{fr:Nat×Nat}(h:W.heap[b]?=some (.cells c t fr)): ∀i,W.cell? ⟨b,i,none⟩=c[i]?:=λi=>by simp[World.cell?,h]
theorem lk{b:Nat}{c:Array Value}{t:TypeId}{fr:Nat×Nat}(h:W.heap[b]?=some (.cells c t fr))(v:Value):(W.setCell ⟨b,i,none⟩ v).heap[b]?=some (.cells (c.setIfInBounds i v) t fr):=by obtain⟨hlt,hk⟩:=BD.1 h;show(W.heap.modify b _)[b]?=_;rw[CB (by rw[Array.size_modify];exact hlt),Array.getElem_modify_self,hk];rfl
theorem Jq{b:Frame}{k:List Item}{cs:List Frame}{w:World}:step P (lone (b.atR a (.code (.scope c)::k)) cs w)= .next (lone (b.atR a (.code c:: .inScope c::k)) cs w):=
 step_lone_go (by simp[stepG,stepG.exec,Frame.atR])
theorem Tc{b:Frame}{k:List Item}{cs:List Frame}{w:World}:step P (lone (b.atR a (.inScope c::k)) cs w)= .next (lone (b.atR a k) cs w):=
 step_lone_go (by simp[stepG,stepG.exec,Frame.atR])
theorem XG{F:Fence}{w:World}(h:c.wpIn F n P (Exit.noGoto Q) a w):(Code.scope c).wpIn F n P Q a w:=by
 intro b k cs hro hb hr;have h0:(lone (b.atR a (.code (.scope c)::k)) cs w).fenced P F:=fenced_calm hb hr rfl;obtain⟨e,a₁,w₁,hq,harr⟩:=h b (.inScope c::k) cs hro hb hr;cases e with
 |normal=>exact⟨.normal,a₁,w₁,hq,.head h0 Jq (StepsIn.trans harr (.one (fenced_calm hb hr rfl) Tc))⟩
 |exit id=>exact⟨.exit id,a₁,w₁,hq,.of_steps (.one h0 Jq) ⟨λk' hk=>harr.1 k' (by simp[exitTo,hk]),λhr' hk=>harr.2 hr' (by simp[exitTo,hk])⟩⟩
 |goto l=>exact hq.elim
 |ret=>exact⟨_,a₁,w₁,hq,.of_steps (.one h0 Jq) harr⟩
 |panic ch=>exact⟨_,a₁,w₁,hq,.of_steps (.one h0 Jq) harr⟩
 |outgrown=>exact⟨_,a₁,w₁,hq,.of_steps (.one h0 Jq) harr⟩
abbrev Ab:=Nat×Obj
variable{l' L:List Ab}{K:Value->List Ab->Prop}
structure Sat(E:World)(l:List Ab)(W:World):Prop where
 os:W.os=E.os
 tape:W.tape=E.tape
 output:W.output=E.output
 nodup:(l.map Prod.fst).Nodup
 has: ∀c,c∈l->W.heap[c.1]?=some c.2
section
variable{l:List Ab}{c:Ab}{b:Nat}{o:Obj}
theorem Sat.perm(h:Sat E l W)(p:l.Perm l'):Sat E l' W:=
 ⟨h.os,h.tape,h.output,(p.map _).nodup_iff.1 h.nodup,λc hc=>h.has c (p.mem_iff.2 hc)⟩
theorem Sat.sub(h:Sat E l W)(s:l'.Sublist l):Sat E l' W:=
 ⟨h.os,h.tape,h.output,List.Nodup.sublist (s.map _) h.nodup,λc hc=>h.has c (s.subset hc)⟩
theorem Sat.tail(h:Sat E (c::l) W):Sat E l W:=h.sub (DQ _ _)
theorem Sat.lt(h:Sat E l W)(hc:c∈l):c.1<W.heap.size:=(BD.1 (h.has c hc)).1
theorem Sat.drawn(h:Sat E l W)(n:Nat):Sat E l {W with drawn:=n}:=⟨h.os,h.tape,h.output,h.nodup,h.has⟩
theorem Sat.drew(h:Sat E l W):Sat E l W.drew:=⟨h.os,h.tape,h.output,h.nodup,h.has⟩
theorem Sat.alloc(h:Sat E l W)(o:Obj):Sat E ((W.heap.size,o)::l) (W.alloc o):=by
 refine⟨h.os,h.tape,h.output,?_,λc hc=>?_⟩
 ·rw[AI,AN];refine⟨λhm=>?_,h.nodup⟩;obtain⟨c,hc,he⟩:=Au.1 hm;have:=h.lt hc;simp only at he;omega
 ·rcases Ap.1 hc with rfl|hc
  ·exact World.alloc_heap_new W o
  ·exact(Below.heap_alloc W o c.1 (h.lt hc)).trans (h.has c hc)
inductive Upd:List Ab->Nat->Obj->Obj->List Ab->Prop
 |here {l:List Ab} {b:Nat} {o o':Obj}:Upd ((b,o)::l) b o o' ((b,o')::l)
 |there {l l':List Ab} {b:Nat} {o o':Obj} {c:Ab}:Upd l b o o' l'->Upd (c::l) b o o' (c::l')
theorem Upd.mem(h:Upd l b o o' l'):(b,o)∈l:=by
 induction h with
 |here=>exact Ak
 |there _ ih=>exact An _ ih
theorem Upd.keys(h:Upd l b o o' l'):l'.map Prod.fst=l.map Prod.fst:=by
 induction h with
 |here=>rfl
 |there _ ih=>simp[ih]
theorem Upd.inv(h:Upd l b o o' l'): ∀c,c∈l'->c=(b,o')\/c∈l:=by
 induction h with
 |here=>intro c hc;rcases Ap.1 hc with rfl|hc
        ·exact .inl rfl
        ·exact .inr (An _ hc)
 |there _ ih=>intro c hc;rcases Ap.1 hc with rfl|hc
              ·exact .inr Ak
              ·exact(ih c hc).imp id (An _)
theorem bK{l:List Ab}(h:(l.map Prod.fst).Nodup){b:Nat}{o:Obj}(h1:(b,o)∈l)(h2:(b,o')∈l):o=o':=by
 induction l with
 |nil=>cases h1
 |cons c l ih=>
  rw[AI,AN] at h;rcases Ap.1 h1 with e1|h1<;>rcases Ap.1 h2 with e2|h2
  ·rw[<-e1] at e2;cases e2;rfl
  ·exact absurd (Au.2 ⟨_,h2,by rw[<-e1]⟩) h.1
  ·exact absurd (Au.2 ⟨_,h1,by rw[<-e2]⟩) h.1
  ·exact ih h.2 h1 h2
theorem Upd.other(h:Upd l b o o' l')(hn:(l.map Prod.fst).Nodup): ∀c,c∈l'->c=(b,o')\/(c∈l/\c.1≠b):=by
 intro c hc;by_cases hb:c.1=b
 ·left;obtain⟨k,x⟩:=c;simp only at hb;subst hb;have hm:(k,o')∈l':=by
   clear hc hn
   induction h with
   |here=>exact Ak
   |there _ ih=>exact An _ ih
  rw[bK (by rw[h.keys];exact hn) hc hm]
 ·rcases h.inv c hc with rfl|hc
  ·exact absurd rfl hb
  ·exact .inr ⟨hc,hb⟩
theorem Sat.upd(h:Sat E l W)(u:Upd l b o o' l'):Sat E l' (W.putObj b o'):=by
 refine⟨h.os,h.tape,h.output,by rw[u.keys];exact h.nodup,λc hc=>?_⟩;rcases u.other h.nodup c hc with rfl|⟨hm,hne⟩
 ·exact World.putObj_heap_same (h.lt u.mem)
 ·exact(World.putObj_heap_other hne).trans (h.has c hm)
theorem Sat.setCell{t:TypeId}(h:Sat E l W)(u:Upd l b (.cells cs t fz) (.cells (cs.setIfInBounds i v) t fz) l'):Sat E l' (W.setCell ⟨b,i,none⟩ v):=by
 refine⟨h.os,h.tape,h.output,by rw[u.keys];exact h.nodup,λc hc=>?_⟩;rcases u.other h.nodup c hc with rfl|⟨hm,hne⟩
 ·exact lk (h.has _ u.mem) v
 ·exact(Below.heap_setCell _ _ _ _ hne).trans (h.has c hm)
theorem Sat.cell{t:TypeId}(h:Sat E l W)(hm:(b,Obj.cells cs t fz)∈l)(i:Nat):W.cell? ⟨b,i,none⟩=cs[i]?:=VO (h.has _ hm) i
theorem Sat.frz{t:TypeId}(h:Sat E l W)(hm:(b,Obj.cells cs t fz)∈l)(i:Nat):W.frozen? ⟨b,i,none⟩=(decide (fz.1<=i)&&decide (i<fz.2)):=by obtain⟨lo,hi⟩:=fz;simp[World.frozen?,h.has _ hm]
end
def sl(P:Program){α:Type}:Sem α->List Ab->(α->List Ab->Prop)->Prop
 | .pure a,l,Q=>Q a l
 | .load _ a k,l,Q=> ∃c t fz v,(a.block,Obj.cells c t fz)∈l/\a.spot=none/\c[a.off]?=some v/\sl P (k v) l Q
 | .store _ a v k,l,Q=>v.oneCell'=true/\ ∃c t fz l',Upd l a.block (.cells c t fz) (.cells (c.setIfInBounds a.off v) t fz) l'/\a.spot=none/\a.off<c.size/\(decide (fz.1<=a.off)&&decide (a.off<fz.2))=false/\sl P k l' Q
 | .new o k,l,Q=> ∀b,(∀c,c∈l->c.1≠b)->sl P (k b) ((b,o)::l) Q
 | .shape r k,l,Q=> ∃c t fz,(r,Obj.cells c t fz)∈l/\sl P (k (some (t,c.size))) l Q
 | .frozen a k,l,Q=> ∃c t fz,(a.block,Obj.cells c t fz)∈l/\a.spot=none/\sl P (k (decide (fz.1<=a.off)&&decide (a.off<fz.2))) l Q
 | .getObj r k,l,Q=> ∃o,(r,o)∈l/\o.isCells=false/\sl P (k o) l Q
 | .setObj r o' k,l,Q=> ∃o l',Upd l r o o' l'/\o.isCells=false/\sl P k l' Q
 | .choose q k,l,Q=> ∀t,sl P (k (if q.forced then 0 else q.cut t)) l Q
 | .program k,l,Q=>sl P (k P) l Q
 | .mark _ k,l,Q=>sl P k l Q
 | .halt _,_,_=>False
 | .freeze ..,_,_=>False
 | .sys ..,_,_=>False
theorem ll{Q Q':α->List Ab->Prop}(hq: ∀a l,Q a l->Q' a l)(s:Sem α): ∀l,sl P s l Q->sl P s l Q':=by
 induction s with
 |pure a=>exact λl h=>hq _ _ h
 |load m a k ih=>rintro l ⟨c,t,fz,v,h1,h2,h3,h4⟩;exact⟨c,t,fz,v,h1,h2,h3,ih _ _ h4⟩
 |store m a v k ih=>rintro l ⟨h0,c,t,fz,l',h1,h2,h3,h4,h5⟩;exact⟨h0,c,t,fz,l',h1,h2,h3,h4,ih _ h5⟩
 |new o k ih=>exact λl h b hb=>ih _ _ (h b hb)
 |shape r k ih=>rintro l ⟨c,t,fz,h1,h2⟩;exact⟨c,t,fz,h1,ih _ _ h2⟩
 |frozen a k ih=>rintro l ⟨c,t,fz,h1,h2,h3⟩;exact⟨c,t,fz,h1,h2,ih _ _ h3⟩
 |getObj r k ih=>rintro l ⟨o,h1,h2,h3⟩;exact⟨o,h1,h2,ih _ _ h3⟩
 |setObj r o' k ih=>rintro l ⟨o,l',h1,h2,h3⟩;exact⟨o,l',h1,h2,ih _ h3⟩
 |choose q k ih=>exact λl h t=>ih _ _ (h t)
 |program k ih=>exact λl h=>ih _ _ h
 |mark m k ih=>exact λl h=>ih _ h
 |halt h=>exact λl h=>h
 |freeze a n k ih=>exact λl h=>h
 |sys c k ih=>exact λl h=>h
theorem AB{β:Type}{Q:β->List Ab->Prop}{f:α->Sem β}(s:Sem α): ∀l,sl P (s>>=f) l Q<->sl P s l (λa l'=>sl P (f a) l' Q):=by
 show∀l,sl P (s.bind f) l Q<->_
 induction s with
 |pure a=>exact λl=>Do
 |load m a k ih=>intro l;simp only[Sem.bind,sl,ih]
 |store m a v k ih=>intro l;simp only[Sem.bind,sl,ih]
 |new o k ih=>intro l;simp only[Sem.bind,sl,ih]
 |shape r k ih=>intro l;simp only[Sem.bind,sl,ih]
 |frozen a k ih=>intro l;simp only[Sem.bind,sl,ih]
 |getObj r k ih=>intro l;simp only[Sem.bind,sl,ih]
 |setObj r o' k ih=>intro l;simp only[Sem.bind,sl,ih]
 |choose q k ih=>intro l;simp only[Sem.bind,sl,ih]
 |program k ih=>intro l;simp only[Sem.bind,sl,ih]
 |mark m k ih=>intro l;simp only[Sem.bind,sl,ih]
 |halt h=>exact λl=>Do
 |freeze a n k ih=>exact λl=>Do
 |sys c k ih=>exact λl=>Do
theorem Bj{Q:α->List Ab->Prop}(a:α)(l:List Ab):sl P (pure a:Sem α) l Q<->Q a l:=Do
theorem fy{Q:α->List Ab->Prop}(s:Sem α): ∀(l:List Ab) (W:World),sl P s l Q->Sat E l W-> ∃a W' l',s.run P W= .ok a W'/\Q a l'/\Sat E l' W':=by
 induction s with
 |pure a=>exact λl W h hs=>⟨a,W,l,rfl,h,hs⟩
 |load m a k ih=>rintro l W ⟨c,t,fz,v,h1,h2,h3,h4⟩ hs;obtain⟨x,W',l',hr,hq,hs'⟩:=ih v l W h4 hs;obtain⟨ab,ao,asp⟩:=a;simp only at h2 h3 h1;subst h2;exact⟨x,W',l',by simp[Sem.run,hs.cell h1,h3,hr],hq,hs'⟩
 |store m a v k ih=>rintro l W ⟨h0,c,t,fz,l1,h1,h2,h3,h4,h5⟩ hs;obtain⟨ab,ao,asp⟩:=a;simp only at h2 h3 h1 h4;subst h2;obtain⟨x,W',l',hr,hq,hs'⟩:=ih l1 _ h5 (hs.setCell h1);refine⟨x,W',l',?_,hq,hs'⟩;have hc:=hs.cell h1.mem ao;rw[CB h3] at hc;have hf:=(hs.frz h1.mem ao).trans h4;cases v<;>simp only[Value.oneCell',Bi] at h0<;>simp[Sem.run,hc,hf,hr]
 |new o k ih=>intro l W h hs;obtain⟨x,W',l',hr,hq,hs'⟩:=ih W.heap.size _ (W.alloc o) (h W.heap.size (λc hc=>by have:=hs.lt hc;omega)) (hs.alloc o);exact⟨x,W',l',hr,hq,hs'⟩
 |shape r k ih=>
  rintro l W ⟨c,t,fz,h1,h2⟩ hs;obtain⟨x,W',l',hr,hq,hs'⟩:=ih _ l W h2 hs;refine⟨x,W',l',?_,hq,hs'⟩;have:W.shape? r=some (t,c.size):=by simp[World.shape?,hs.has _ h1]
  simp[Sem.run,this,hr]
 |frozen a k ih=>rintro l W ⟨c,t,fz,h1,h2,h3⟩ hs;obtain⟨ab,ao,asp⟩:=a;simp only at h2 h3 h1;subst h2;obtain⟨x,W',l',hr,hq,hs'⟩:=ih _ l W h3 hs;exact⟨x,W',l',by simp only[Sem.run,hs.frz h1];exact hr,hq,hs'⟩
 |getObj r k ih=>rintro l W ⟨o,h1,h2,h3⟩ hs;obtain⟨x,W',l',hr,hq,hs'⟩:=ih _ l W h3 hs;refine⟨x,W',l',?_,hq,hs'⟩;have:=hs.has _ h1;simp only at this;cases o<;>first|(simp[Obj.isCells] at h2;done)|simp[Sem.run,this,hr]
 |setObj r o' k ih=>rintro l W ⟨o,l1,h1,h2,h3⟩ hs;obtain⟨x,W',l',hr,hq,hs'⟩:=ih l1 _ h3 (hs.upd h1);refine⟨x,W',l',?_,hq,hs'⟩;have:=hs.has _ h1.mem;simp only at this;simp only[World.putObj] at hr;cases o<;>first|(simp[Obj.isCells] at h2;done)|simp[Sem.run,this,hr]
 |choose q k ih=>
  intro l W h hs;by_cases hf:q.forced=true
  ·obtain⟨x,W',l',hr,hq,hs'⟩:=ih _ l W (h 0) hs;refine⟨x,W',l',?_,hq,hs'⟩;rw[Ad hf] at hr;simp[Sem.run,hf,hr]
  ·obtain⟨x,W',l',hr,hq,hs'⟩:=ih _ l {W with drawn:=W.drawn+1} (h (W.tape W.drawn q)) (hs.drawn _);refine⟨x,W',l',?_,hq,hs'⟩;rw[Ac hf] at hr;simp only[Bool.not_eq_true] at hf;simp[Sem.run,hf];exact hr
 |program k ih=>exact λl W h hs=>ih _ l W h hs
 |mark m k ih=>exact λl W h hs=>ih l W h hs
 |halt h=>exact λl W h hs=>h.elim
 |freeze a n k ih=>exact λl W h hs=>h.elim
 |sys c k ih=>exact λl W h hs=>h.elim
abbrev Fr:=List (Nat×Value)
variable{fr':Fr}
def BU:Fr->Nat->Option Value
 |[],_=>none
 |(k,v)::r,d=>bif Nat.beq k d then some v else BU r d
structure FSat(N:Nat)(fr:Fr)(a:Act):Prop where
 size:a.tmps.size=N
 at_: ∀d v,BU fr d=some v->a.tmps[d]?=some v
def ev(fr:Fr):Operand->Option Value
 | .tmp t=>BU fr t
 | .const v=>some v
 | .global g=>some (.pointer (some ⟨g,0,none⟩))
 | .func f=>some (.func (.func f) #[] #[])
def Qm(fr:Fr):List Operand->Option (List Value)
 |[]=>some []
 |x::r=>match ev fr x,Qm fr r with
  |some v,some vs=>some (v::vs)
  |_,_=>none
def Agrees(fr:Fr)(ρ:Operand->Value):Prop:= ∀x v,ev fr x=some v->ρ x=v
theorem FSat.agrees{fr:Fr}(h:FSat N fr a):Agrees fr a.eval:=by
 intro x v hx;cases x with
 |tmp t=>have:=h.at_ t v hx;simp[Act.eval,Db,this]
 |const u=>cases hx;rfl
 |global g=>cases hx;rfl
 |func f=>cases hx;rfl
theorem Agrees.list{fr:Fr}(h:Agrees fr ρ): ∀{xs:List Operand} {vs:List Value},Qm fr xs=some vs->xs.map ρ=vs
 |[],vs,e=>by cases e;rfl
 |x::r,vs,e=>by
  unfold Qm at e
  split at e
  ·rename_i v us h1 h2;cases e;rw[AI,h x v h1,h.list h2]
  ·cases e
def HI(d:Option Nat)(v:Value)(fr:Fr):Fr:=match d with|some d=>(d,v)::fr|none=>fr
def Jr(N:Nat):Option Nat->Bool
 |some d=>Nat.blt d N
 |none=>true
theorem FSat.put{fr:Fr}(h:FSat N fr a){d:Option Nat}(v:Value)(hd:Jr N d=true):FSat N (HI d v fr) (a.put d v):=by
 cases d with
 |none=>exact h
 |some d=>
  have hlt:d<N:=by simpa[Jr,Nat.blt_eq] using hd
  refine⟨by simp[Act.put,h.size],λk u hk=>?_⟩;simp only[HI,BU] at hk;simp only[Act.put];by_cases e:d=k
  ·subst e;simp at hk;subst hk;simp[h.size,hlt]
  ·have:Nat.beq d k=false:=by
    cases hb:Nat.beq d k
    ·rfl
    ·exact absurd (Fe hb) e
   rw[this] at hk;rw[FQ e];exact h.at_ k u hk
theorem FSat.sub{fr:Fr}(h:FSat N fr a)(hs: ∀d v,BU fr' d=some v->BU fr d=some v):FSat N fr' a:=⟨h.size,λd v hd=>h.at_ d v (hs d v hd)⟩
def FSub:Fr->Fr->Prop
 |[],_=>True
 |(d,v)::r,fr=>BU fr d=some v/\FSub r fr
theorem FSub.spec: ∀{fr' fr:Fr},FSub fr' fr-> ∀d v,BU fr' d=some v->BU fr d=some v
 |[],_,_,d,v,hd=>by cases hd
 |(k,u)::r,fr,h,d,v,hd=>by
  unfold BU at hd;cases hb:Nat.beq k d
  ·rw[hb] at hd;exact h.2.spec d v hd
  ·rw[hb] at hd;have:=Fe hb;subst this;simp at hd;subst hd;exact h.1
def UC:Nat->List Value->Fr
 |_,[]=>[]
 |i,v::r=>(i,v)::UC (i+1) r
theorem Ra: ∀(l:List Value) (i d:Nat) (v:Value),BU (UC i l) d=some v->i<=d/\l[d-i]?=some v
 |[],i,d,v,h=>by cases h
 |u::r,i,d,v,h=>by
  unfold UC BU at h;cases hb:Nat.beq i d
  ·rw[hb] at h;obtain⟨h1,h2⟩:=Ra r (i+1) d v h;exact⟨Af,by rw[show d-i=(d-(i+1))+1 by omega];simpa using h2⟩
  ·rw[hb] at h;have:=Fe hb;subst this;simp at h;subst h;simp
theorem bL(args:List Value)(N:Nat)(ds:List Deferred)(h:args.length<=N):FSat N (UC 0 args) {tmps:=args.toArray++Array.replicate (N-args.toArray.size) undef,defers:=ds}:=by refine⟨by simp;omega,λd v hd=>?_⟩;obtain⟨_,h2⟩:=Ra args 0 d v hd;simp only[Nat.sub_zero] at h2;have hlt:=(Ay.1 h2).1;show(args.toArray++_)[d]?=some v;rw[Array.getElem?_append_left (by simpa using hlt)];simpa using h2
def Fw(ro:Option Nat):Fence:={Fence.wide with round:=ro}
structure Fn(P:Program)(f:FuncId)(args:List Value)(l:List Ab)(K:Value->List Ab->Prop):Prop where
 run: ∀E W,Sat E l W->Calls P f args.toArray W λe W'=> ∃v l',e= .returned v/\K v l'/\Sat E l' W'
theorem Fn.mono{P:Program}{f:FuncId}{args:List Value}{l:List Ab}{K K':Value->List Ab->Prop}(h:Fn P f args l K)(hk: ∀v l',K v l'->K' v l'):Fn P f args l K':=
 ⟨λE W hs=>(h.run E W hs).mono λe W' ⟨v,l',h1,h2,h3⟩=>⟨v,l',h1,hk _ _ h2,h3⟩⟩
structure MX(P:Program)(r:Nat)(vs:List Value)(l:List Ab)(K:Value->List Ab->Prop):Prop where
 run: ∀E W,Sat E l W-> ∃fn tmps assign body,(Instr.yield r vs.toArray).run P W= .ok (.round r fn tmps assign body) W/\
  RoundIn Fence.wide 0 P r fn tmps assign body W λe W'=> ∃v l',e= .returned v/\K v l'/\Sat E l' W'
theorem XH{l:Nat}{f:FuncId}{w:World}(h:RoundIn Fence.wide n P l f tmps assign body w R):RoundIn (Fw ro) n P l f tmps assign body w R:=h
theorem LR{f:FuncId}{args:Array Value}{w:World}(h:Calls P f args w R):CallsIn (Fw ro) n P f args w R:=(callsIn_wide (n:=n)).2 h
def IG:Op->Bool
 | .defer _=>false
 |_=>true
def OpVal(P:Program)(ro:Option Nat)(o:Oper)(ρ:Operand->Value)(W:World)(K:Value->World->Prop):Prop:=
 match(execOp ρ o).run P W with
 | .ok (.value v) w'=>K v w'
 | .ok .skip w'=>K undef w'
 | .ok (.enter f args) w'=>CallsIn (Fw ro) 0 P f args w' (λe w''=> ∃v,e= .returned v/\K v w'')
 | .ok (.round r f tm asg bo) w'=>RoundIn (Fw ro) 0 P r f tm asg bo w' (λe w''=> ∃v,e= .returned v/\K v w'')
 |_=>False
theorem OpVal.mono{K K':Value->World->Prop}(hk: ∀v w,K v w->K' v w)(h:OpVal P ro o ρ W K):OpVal P ro o ρ W K':=by
 unfold OpVal at*
 split at h
 ·exact hk _ _ h
 ·exact hk _ _ h
 ·exact h.mono λe w ⟨v,h1,h2⟩=>⟨v,h1,hk _ _ h2⟩
 ·exact h.mono λe w ⟨v,h1,h2⟩=>⟨v,h1,hk _ _ h2⟩
 ·exact h.elim
theorem OpVal.wpIn{K:Value->World->Prop}{next:Act->World->Prop}(hd:IG o.op=true)(h:OpVal P ro o a.eval W K)(hk: ∀v w,K v w->next (a.put o.dst v) w):o.wpIn (Fw ro) 0 P a W next Q:=by
 unfold Oper.wpIn;refine⟨λ_ _=>trivial,?_⟩;rw[Oper.semAt_eq _ _ _ (λc hc=>by rw[hc] at hd;cases hd)];unfold OpVal at h
 split at h
 ·rename_i heq;rw[heq];exact hk _ _ h
 ·rename_i heq;rw[heq];exact hk _ _ h
 ·rename_i heq;rw[heq];exact⟨λh0=>(by cases h0),h.mono λe w ⟨v,h1,h2⟩=>by subst h1;exact hk _ _ h2⟩
 ·rename_i heq;rw[heq];exact⟨λh0=>(by cases h0),h.mono λe w ⟨v,h1,h2⟩=>by subst h1;exact hk _ _ h2⟩
 ·exact h.elim
structure OpE(P:Program)(ro:Option Nat)(N:Nat)(fr:Fr)(l:List Ab)(o:Oper)(K:Value->List Ab->Prop):Prop where
 nodef:IG o.op=true
 val: ∀E a W,FSat N fr a->Sat E l W->OpVal P ro o a.eval W (λv W'=> ∃l',K v l'/\Sat E l' W')
theorem OpE.run{fr:Fr}{l:List Ab}(h:OpE P ro N fr l o K)(E:World)(a:Act)(W:World)(hf:FSat N fr a)(hs:Sat E l W):
 o.wpIn (Fw ro) 0 P a W (λa' W'=> ∃v l',a'=a.put o.dst v/\K v l'/\Sat E l' W') Q:=
 OpVal.wpIn h.nodef (h.val E a W hf hs) λv w ⟨l',h1,h2⟩=>⟨v,l',rfl,h1,h2⟩
structure OpQ(P:Program)(ro:Option Nat)(N:Nat)(fr:Fr)(R:List Ab)(o:Oper)(v:Value):Prop where
 run: ∀l,(∀c,c∈R->c∈l)->OpE P ro N fr l o (λv' l'=>v'=v/\l'=l)
theorem OpE.mono{P:Program}{ro:Option Nat}{N:Nat}{fr:Fr}{l:List Ab}{o:Oper}{K K':Value->List Ab->Prop}(h:OpE P ro N fr l o K)(hk: ∀v l',K v l'->K' v l'):OpE P ro N fr l o K':=
 ⟨h.nodef,λE a W hf hs=>(h.val E a W hf hs).mono λv w ⟨l',h1,h2⟩=>⟨l',hk _ _ h1,h2⟩⟩
def VP(P:Program)(K:Value->List Ab->Prop):Next->List Ab->Prop
 | .value v,l=>K v l
 | .skip,l=>K undef l
 | .enter f args,l=>Fn P f args.toList l K
 |_,_=>False
theorem Dy{fr:Fr}{l:List Ab}(hd:IG o.op=true)
 (h: ∀ρ,Agrees fr ρ->sl P (execOp ρ o) l (VP P K)):OpE P ro N fr l o K:=by
 refine⟨hd,λE a W hf hs=>?_⟩;obtain⟨x,W',l',hr,hq,hs'⟩:=fy _ l W (h _ hf.agrees) hs;unfold OpVal;rw[hr];cases x<;>simp only[VP] at hq
 case value v=>exact⟨l',hq,hs'⟩
 case skip=>exact⟨l',hq,hs'⟩
 case enter f args=>have:=hq.run E W' hs';simp only[Array.toArray_toList] at this;refine LR (this.mono ?_);rintro e W'' ⟨v,l'',rfl,hk,hs''⟩;exact⟨v,rfl,l'',hk,hs''⟩
section
variable{fr:Fr}{l:List Ab}
structure Dk(P:Program)(ro:Option Nat)(N:Nat)(E:World)(ops:Array Oper)(Q:Exit->Act->World->Prop)(rest:List Oper)(fr:Fr)(ds:List Deferred)(l:List Ab):Prop where
 run: ∀a W,FSat N fr a->a.defers=ds->Sat E l W->wpListIn (Fw ro) 0 P ops Q rest a W
structure BH(P:Program)(ro:Option Nat)(N:Nat)(E:World)(c:Code)(Q:Exit->Act->World->Prop)(fr:Fr)(ds:List Deferred)(l:List Ab):Prop where
 run: ∀a W,FSat N fr a->a.defers=ds->Sat E l W->c.wpIn (Fw ro) 0 P Q a W
structure CO(N:Nat)(E:World)(Q:Exit->Act->World->Prop)(e:Exit)(fr:Fr)(ds:List Deferred)(l:List Ab):Prop where
 run: ∀a W,FSat N fr a->a.defers=ds->Sat E l W->Q e a W
theorem Es(a:Act)(d:Option Nat)(v:Value):(a.put d v).defers=a.defers:=by cases d<;>rfl
theorem Tu(h:CO N E Q .normal fr ds l):Dk P ro N E ops Q [] fr ds l:=⟨h.run⟩
theorem we(h:OpE P ro N fr l o K)(hw:o.guard=none)(hd:Jr N o.dst=true)(hk: ∀v l',K v l'->Dk P ro N E ops Q rest (HI o.dst v fr) ds l'):Dk P ro N E ops Q (o::rest) fr ds l:=by refine⟨λa W hf hds hs=>?_⟩;refine wpListIn_plain hw λK' hK'=>Oper.wpIn_mono ?_ (h.run E a W hf hs);rintro a' W' ⟨v,l',rfl,hkv,hs'⟩;exact hK' _ _ ((hk v l' hkv).run _ _ (hf.put v hd) ((Es _ _ _).trans hds) hs')
theorem yw(h:OpQ P ro N fr l o v)(hw:o.guard=none)(hd:Jr N o.dst=true)(hk:Dk P ro N E ops Q rest (HI o.dst v fr) ds l):Dk P ro N E ops Q (o::rest) fr ds l:=
 we (h.run l λ_ hc=>hc) hw hd λv' l' ⟨h1,h2⟩=>by rw[h1,h2];exact hk
theorem Ja{fr:Fr}{d:Nat}(hf:FSat N fr a)(hj:ops[j]?=some oj)(hd:oj.dst=some d)(hb:BU fr d=some (.bool b)):yielded ops a.tmps j=some b:=by unfold yielded;simp[hj,hd,hf.at_ _ _ hb]
theorem tc{d:Nat}(h:OpE P ro N fr l o K)(hw:o.guard=some (j,b))(hj:ops[j]?=some oj)(hjd:oj.dst=some d)(hb:BU fr d=some (.bool b))(hd:Jr N o.dst=true)(hk: ∀v l',K v l'->Dk P ro N E ops Q rest (HI o.dst v fr) ds l'):Dk P ro N E ops Q (o::rest) fr ds l:=by refine⟨λa W hf hds hs=>?_⟩;have hy:=Ja hf hj hjd hb;refine wpListIn_step λK' hK'=>?_;rw[Ad (by simp[Region.wanted,hw,hy])];refine Oper.wpIn_mono ?_ (h.run E a W hf hs);rintro a' W' ⟨v,l',rfl,hkv,hs'⟩;exact hK' _ _ ((hk v l' hkv).run _ _ (hf.put v hd) ((Es _ _ _).trans hds) hs')
theorem wg{d:Nat}(h:OpQ P ro N fr l o v)(hw:o.guard=some (j,b))(hj:ops[j]?=some oj)(hjd:oj.dst=some d)(hb:BU fr d=some (.bool b))(hd:Jr N o.dst=true)(hk:Dk P ro N E ops Q rest (HI o.dst v fr) ds l):Dk P ro N E ops Q (o::rest) fr ds l:=
 tc (h.run l λ_ hc=>hc) hw hj hjd hb hd λv' l' ⟨h1,h2⟩=>by rw[h1,h2];exact hk
theorem wh{d:Nat}(hw:o.guard=some (j,b))(hj:ops[j]?=some oj)(hjd:oj.dst=some d)(hb:BU fr d=some (.bool b'))(hne:(b'==b)=false)(hd:Jr N o.dst=true)(hk:Dk P ro N E ops Q rest (HI o.dst undef fr) ds l):Dk P ro N E ops Q (o::rest) fr ds l:=by refine⟨λa W hf hds hs=>?_⟩;have hy:=Ja hf hj hjd hb;refine wpListIn_step λK' hK'=>?_;rw[Ac (by simp[Region.wanted,hw,hy];intro e;rw[e] at hne;simp at hne)];exact⟨λ_ _=>trivial,hK' _ _ (hk.run _ _ (hf.put undef hd) ((Es _ _ _).trans hds) hs)⟩
theorem Gd{d:Nat}(hb:BU fr d=some v): ∀k u,BU ((d,v)::fr) k=some u->BU fr k=some u:=by
 intro k u h;unfold BU at h;cases e:Nat.beq d k
 ·rw[e] at h;exact h
 ·rw[e] at h;have:=Fe e;subst this;rw[hb];exact h
theorem lr(d:Nat)(hb:BU fr d=some (.bool b))(ht:b=true->Dk P ro N E ops Q rest ((d,.bool true)::fr) ds l)(hf:b=false->Dk P ro N E ops Q rest ((d,.bool false)::fr) ds l):Dk P ro N E ops Q rest fr ds l:=by
 refine⟨λa W hfr hds hs=>?_⟩;have key: ∀u,BU fr d=some u->FSat N ((d,u)::fr) a:=λu hu=>⟨hfr.size,λk w hk=>hfr.at_ k w (Gd hu k w hk)⟩
 cases b with
 |true=>exact(ht rfl).run a W (key _ hb) hds hs
 |false=>exact(hf rfl).run a W (key _ hb) hds hs
theorem Zx(h:BH P ro N E x (Exit.then (y.wpIn (Fw ro) 0 P Q) Q) fr ds l):BH P ro N E (.seq x y) Q fr ds l:=⟨λa W hf hds hs=>wpIn_seq (h.run a W hf hds hs)⟩
theorem UD(h:CO N E Q .normal fr ds l):BH P ro N E .skip Q fr ds l:=⟨λa W hf hds hs=>wpIn_skip (h.run a W hf hds hs)⟩
theorem Qy(h:CO N E Q .normal fr ds l):BH P ro N E (.label k) Q fr ds l:=⟨λa W hf hds hs=>wpIn_label (h.run a W hf hds hs)⟩
theorem Rb(h:CO N E Q (.exit k) fr ds l):BH P ro N E (.exit k) Q fr ds l:=⟨λa W hf hds hs=>wpIn_exit (h.run a W hf hds hs)⟩
theorem Zy(h:CO N E Q .ret fr ds l):BH P ro N E .ret Q fr ds l:=⟨λa W hf hds hs=>wpIn_ret (h.run a W hf hds hs)⟩
theorem OS(h:BH P ro N E x (Exit.inBlock k Q) fr ds l):BH P ro N E (.block k x) Q fr ds l:=⟨λa W hf hds hs=>wpIn_block (h.run a W hf hds hs)⟩
theorem UE(h:BH P ro N E x (Exit.noGoto Q) fr ds l):BH P ro N E (.scope x) Q fr ds l:=⟨λa W hf hds hs=>XG (h.run a W hf hds hs)⟩
theorem OT{os:List Oper}(h:Dk P ro N E os.toArray Q os fr ds l):BH P ro N E (.region k os.toArray false) Q fr ds l:=⟨λa W hf hds hs=>wpIn_region_lit (h.run a W hf hds hs)⟩
theorem Lt{c:Operand}(hc:ev fr c=some (.bool true))(h:BH P ro N E x Q fr ds l):BH P ro N E (.cond c x y) Q fr ds l:=⟨λa W hf hds hs=>wpIn_cond_true (hf.agrees _ _ hc) (h.run a W hf hds hs)⟩
theorem Lu{c:Operand}(hc:ev fr c=some (.bool false))(h:BH P ro N E y Q fr ds l):BH P ro N E (.cond c x y) Q fr ds l:=⟨λa W hf hds hs=>wpIn_cond_false (hf.agrees _ _ hc) (h.run a W hf hds hs)⟩
theorem oU(hs':FSub fr' fr)(h:BH P ro N E c Q fr' ds l):BH P ro N E c Q fr ds l:=⟨λa W hf hds hs=>h.run a W (hf.sub hs'.spec) hds hs⟩
def Zz(N:Nat)(E:World){α:Type}(fx:α->Fr)(ds:List Deferred)(lx:α->List Ab)(pre:α->Prop)(μ:α->Nat)(x:α)(a:Act)(W:World):Prop:=
 ∃y,pre y/\μ y<μ x/\FSat N (fx y) a/\a.defers=ds/\Sat E (lx y) W
theorem OU{p:Nat->Prop}(h: ∃n,p n): ∃n,p n/\ ∀m,p m->n<=m:=by
 obtain⟨n,hn⟩:=h
 induction n using Nat.strongRecOn with
 |_ n ih=>
  by_cases hc: ∃m,m<n/\p m
  ·obtain⟨m,hlt,hm⟩:=hc;exact ih m hlt hm
  ·exact⟨n,hn,λm hm=>Lo λhlt=>hc ⟨m,hlt,hm⟩⟩
open Classical in
noncomputable def Rc(p:Nat->Prop):Nat:=if h: ∃n,p n then Classical.choose (OU h) else 0
theorem KL{p:Nat->Prop}(h: ∃n,p n):p (Rc p)/\ ∀m,p m->Rc p<=m:=by unfold Rc;rw[dif_pos h];exact Classical.choose_spec (OU h)
theorem pX(fx:α->Fr)(lx:α->List Ab)(pre:α->Prop)(μ:α->Nat)(x₀:α)(h0:pre x₀)(hf0:FSub (fx x₀) fr)(hl0:l.Perm (lx x₀))
 (round: ∀x,pre x->BH P ro N E c (Exit.then (Zz N E fx ds lx pre μ x) Q) (fx x) ds (lx x)):BH P ro N E (.loop c) Q fr ds l:=by
 refine⟨λa W hf hds hs=>?_⟩;refine wpIn_loop (λa W=> ∃x,pre x/\FSat N (fx x) a/\a.defers=ds/\Sat E (lx x) W) (λa W=>Rc λn=> ∃x,pre x/\FSat N (fx x) a/\a.defers=ds/\Sat E (lx x) W/\μ x=n) ⟨x₀,h0,hf.sub hf0.spec,hds,hs.perm hl0⟩ ?_;intro a W hI;have hex: ∃n,∃x,pre x/\FSat N (fx x) a/\a.defers=ds/\Sat E (lx x) W/\μ x=n:=by obtain⟨x,h1,h2,h3,h4⟩:=hI;exact⟨_,x,h1,h2,h3,h4,rfl⟩
 obtain⟨⟨x,h1,h2,h3,h4,h5⟩,_⟩:=KL hex;refine wpIn_mono ((round x h1).run a W h2 h3 h4) ?_;intro e a' W' hq;cases e with
 |normal=>obtain⟨y,k1,k2,k3,k4,k5⟩:=hq;refine⟨⟨y,k1,k3,k4,k5⟩,?_⟩;exact D8 ((KL (p:=λn=> ∃x,pre x/\FSat N (fx x) a'/\a'.defers=ds/\Sat E (lx x) W'/\μ x=n) ⟨_,y,k1,k3,k4,k5,rfl⟩).2 (μ y) ⟨y,k1,k3,k4,k5,rfl⟩) (by rw[<-h5];exact k2)
 |_=>exact hq
theorem MY(h:BH P ro N E y Q fr ds l):CO N E (Exit.then (y.wpIn (Fw ro) 0 P Q) Q) .normal fr ds l:=⟨h.run⟩
theorem KM(h:CO N E Q (.exit k) fr ds l):CO N E (Exit.then Kx Q) (.exit k) fr ds l:=⟨h.run⟩
theorem LS(h:CO N E Q .ret fr ds l):CO N E (Exit.then Kx Q) .ret fr ds l:=⟨h.run⟩
theorem OV(h:CO N E Q .normal fr ds l):CO N E (Exit.inBlock k Q) .normal fr ds l:=⟨h.run⟩
theorem KO(h:CO N E Q .ret fr ds l):CO N E (Exit.inBlock k Q) .ret fr ds l:=⟨h.run⟩
theorem IH(h:CO N E Q .normal fr ds l):CO N E (Exit.inBlock k Q) (.exit k) fr ds l:=⟨λa W hf hds hs=>by simp only[Exit.inBlock,CT];exact h.run a W hf hds hs⟩
theorem LT(hne:Nat.beq j k=false)(h:CO N E Q (.exit j) fr ds l):CO N E (Exit.inBlock k Q) (.exit j) fr ds l:=⟨λa W hf hds hs=>by
 have:¬j=k:=λe=>by subst e;simp at hne
 simp only[Exit.inBlock,Ac this];exact h.run a W hf hds hs⟩
theorem Qz(h:CO N E Q .normal fr ds l):CO N E (Exit.noGoto Q) .normal fr ds l:=⟨h.run⟩
theorem KP(h:CO N E Q .ret fr ds l):CO N E (Exit.noGoto Q) .ret fr ds l:=⟨h.run⟩
theorem pY{fx:α->Fr}{lx:α->List Ab}{pre:α->Prop}{μ:α->Nat}{x:α}(y:α)(h1:pre y)(h2:μ y<μ x)(h3:FSub (fx y) fr)(h4:l.Perm (lx y)):CO N E (Exit.then (Zz N E fx ds lx pre μ x) Q) .normal fr ds l:=
 ⟨λa W hf hds hs=>⟨y,h1,h2,hf.sub h3.spec,hds,hs.perm h4⟩⟩
end
def RK(E:World)(K:Value->List Ab->Prop):Ending->World->Prop:=λe W'=> ∃v l',e= .returned v/\K v l'/\Sat E l' W'
theorem Rd{f:FuncId}{l:List Ab}(hf:P.funcs[f]?=some fn)(hb:fn.body=some c)(hn:Nat.ble args.length fn.ntmps=true)
 (h: ∀E,BH P none fn.ntmps E c (bodyPostM Fence.wide 0 P fn (RK E K)) (UC 0 args) [] l):Fn P f args l K:=by
 refine⟨λE W hs=>?_⟩;refine(callsIn_wide (n:=0)).1 (callsIn_of_wp_marks hf hb trivial ?_ rfl);exact(h E).run _ W (bL args _ [] (Nat.le_of_ble_eq_true hn)) rfl hs
inductive ResS(P:Program)(fr:Fr)(l:List Ab):List ResultVar->List Value->Prop
 |nil:ResS P fr l [] []
 |tmp {t:Nat} {v:Value} {rs:List ResultVar} {vs:List Value}:BU fr t=some v->ResS P fr l rs vs->ResS P fr l (.tmp t::rs) (v::vs)
 |cell {t:Nat} {T:TypeId} {v:Value} {b off:Nat} {rs:List ResultVar} {vs:List Value}:BU fr t=some (.pointer (some ⟨b,off,none⟩))->(∀E W,Sat E l W->(loadVar T ⟨b,off,none⟩).run P W= .ok v W)->ResS P fr l rs vs->ResS P fr l (.cell t T::rs) (v::vs)
def Iw:List Value->Value
 |[v]=>v
 |vs=> .tuple vs.toArray
def lu(tmps:Array Value):ResultVar->Sem Value
 | .tmp t=>pure (tmps.getD t undef)
 | .cell b t=>do loadVar t (<-asAddr (tmps.getD b undef))
theorem Re{P:Program}{N:Nat}{fr:Fr}{l:List Ab}{E W:World}{a:Act}(hf:FSat N fr a)(hs:Sat E l W): ∀{rs:List ResultVar} {vs:List Value},ResS P fr l rs vs->(rs.mapM (lu a.tmps)).run P W= .ok vs W
 |[],_,.nil=>by simp[Sem.run]
 |_,_,.tmp (t:=t) (v:=v) (rs:=rs) (vs:=vs) h1 h2=>by
  have e:a.tmps.getD t undef=v:=by rw[Db,hf.at_ _ _ h1];rfl
  have e1:(lu a.tmps (.tmp t)).run P W= .ok v W:=by show(pure _:Sem Value).run P W=_;rw[e];rfl
  rw[List.mapM_cons,Sem.run_bind,e1];simp only[Result.andThen];rw[Sem.run_bind,Re hf hs h2];rfl
 |_,_,.cell (t:=t) (v:=v) (T:=T) (b:=b) (off:=off) h1 h3 h2=>by
  have e:a.tmps.getD t undef= .pointer (some ⟨b,off,none⟩):=by rw[Db,hf.at_ _ _ h1];rfl
  have e1:(lu a.tmps (.cell t T)).run P W= .ok v W:=by show(asAddr (a.tmps.getD t undef)>>=loadVar T).run P W=_;rw[e,Sem.run_bind];exact h3 E W hs
  rw[List.mapM_cons,Sem.run_bind,e1];simp only[Result.andThen];rw[Sem.run_bind,Re hf hs h2];rfl
theorem P5{fr:Fr}{l:List Ab}(hr:fn.results=rs.toArray)(hf:FSat N fr a)(hs:Sat E l W)(h:ResS P fr l rs vs):
 (results fn a.tmps).run P W= .ok (Iw vs) W:=by
 have e:results fn a.tmps=(do let us<-fn.results.mapM (lu a.tmps);pure (if h:us.size=1 then us[0] else .tuple us)):=rfl;rw[e,hr,List.mapM_toArray,Sem.run_bind,map_eq_pure_bind,Sem.run_bind,Re hf hs h];simp only[Result.andThen,Sem.run_pure];congr 1
 match vs with
 |[]=>rfl
 |[v]=>rfl
 |_::_::_=>rfl
def Cf(D:Nat):Ab:=(D,.deferred (some []))
def GU(D:Nat):Deferred:={target:= .collected D,args:=#[]}
theorem PE{P:Program}{fn:Func}{R:Ending->World->Prop}{tmps:Array Value}{E:World}{l:List Ab}{v:Value}: ∀(Ds:List Nat) (W:World),Sat E (Ds.map Cf++l) W->
 (∀W',Sat E l W'->(results fn tmps).run P W'= .ok v W'/\R (.returned v) W')->LeavesInM Fence.wide 0 P fn tmps R (Ds.map GU) .returning W
 |[],W,hs,hr=>⟨v,hr W hs⟩
 |D::Ds,W,hs,hr=>by have hK:W.heap[D]?=some (.deferred (some [])):=hs.has (D,_) Ak;have hs1:Sat E ((D,.deferred none)::(Ds.map Cf++l)) (W.putObj D (.deferred none)):=hs.upd Upd.here;exact⟨by simp,.inl ⟨D,_,rfl,run_takeDeferred hK,PE Ds _ hs1.tail hr⟩⟩
theorem tf{fr:Fr}{l:List Ab}(Ds:List Nat)(hr:fn.results=rs.toArray)(hp:l.Perm (Ds.map Cf++l'))(h:ResS P fr l' rs vs)(hk:K (Iw vs) l'):
 CO N E (bodyPostM Fence.wide 0 P fn (RK E K)) .ret fr (Ds.map GU) l:=by
 refine⟨λa W hf hds hs=>?_⟩;show LeavesInM Fence.wide 0 P fn a.tmps (RK E K) a.defers .returning W;rw[hds];exact PE (v:=Iw vs) Ds W (hs.perm hp) λW' hs'=>⟨P5 hr hf hs' h,_,l',rfl,hk,hs'⟩
theorem ZA{fr:Fr}{l:List Ab}(h:CO N E (bodyPostM Fence.wide 0 P fn R) .ret fr ds l):CO N E (bodyPostM Fence.wide 0 P fn R) .normal fr ds l:=⟨h.run⟩
def vG(P:Program)(s f:Nat):Option Nat:=match P.underlying s with
 |some (.struct fs)=>match fs[f]? with
  |some fd=>match P.info? fd.type with
   |some i=>if i.size=0 then none else some fd.offset
   |none=>none
  |none=>none
 |_=>none
def vH(P:Program)(s f:Nat):Option (Nat×Nat):=match P.underlying s with
 |some (.struct fs)=>(fs[f]?).map λfd=>(fd.offset,fd.type)
 |_=>none
def wi(P:Program)(t:Nat):Option (Nat×Nat×Nat):=match P.underlying t with
 |some (.array n e)=>(P.info? e).map λi=>(n,e,i.size)
 |_=>none
def vJ(P:Program)(t:Nat):Option (Nat×Nat×Nat):=match P.underlying t with
 |some (.slice e)=>(P.info? e).map λi=>(e,i.size,i.bytes)
 |_=>none
def pZ(P:Program)(t:Nat):Option (List Value):=match P.info? t with
 |some i=>match i.zero with
  |some z=>some z.cells.toList
  |none=>none
 |none=>none
def ly(P:Program)(t:Nat):Bool:=match P.underlying t with
 |some (.struct _)=>false
 |some (.array ..)=>false
 |some _=>(P.info? t).any λi=>i.size==1
 |none=>false
def p7(P:Program)(t:Nat):Option Nat:=match P.underlying t with
 |some (.struct _)=>(P.info? t).map (·.size)
 |some (.array ..)=>(P.info? t).map (·.size)
 |_=>none
def lz(P:Program)(t:Nat):Option IntKind:=match P.underlying t with
 |some (.int k)=>some k
 |_=>none
def vK(P:Program)(t:Nat):Option Nat:=match P.underlying t with
 |some (.pointer e)=>some e
 |_=>none
def wj(P:Program)(t:Nat):Option (Nat×Nat):=match P.underlying t with
 |some (.map k e)=>some (k,e)
 |_=>none
class FO(P:Program)(s f:Nat)(k:outParam Nat):Prop where out:vG P s f=some k
class FV(P:Program)(s f:Nat)(k t:outParam Nat):Prop where out:vH P s f=some (k,t)
class AT(P:Program)(t:Nat)(n e z:outParam Nat):Prop where out:wi P t=some (n,e,z)
class ST(P:Program)(t:Nat)(e z y:outParam Nat):Prop where out:vJ P t=some (e,z,y)
class ZV(P:Program)(t:Nat)(z:outParam (List Value)):Prop where out:pZ P t=some z
class OC(P:Program)(t:Nat):Prop where out:ly P t=true
class AG(P:Program)(t:Nat)(z:outParam Nat):Prop where out:p7 P t=some z
class IT(P:Program)(t:Nat)(k:outParam IntKind):Prop where out:lz P t=some k
class PT(P:Program)(t:Nat)(e:outParam Nat):Prop where out:vK P t=some e
class MT(P:Program)(t:Nat)(k e:outParam Nat):Prop where out:wj P t=some (k,e)
class EN(P:Program)(f:Nat):Prop where out: ∀args w,(callFunc f args).run P w= .ok (.enter f args) w
section
variable{Q:α->List Ab->Prop}{l:List Ab}
theorem B9{d:TypeDesc}{f:TypeDesc->Sem α}(h:P.underlying t=some d):sl P (underlying t>>=f) l Q<->sl P (f d) l Q:=by rw[AB];show sl P (match P.underlying t with|some d=>pure d|none=>stuck "no such type") l _<->_;rw[h];rfl
theorem EC{Q:TypeDesc->List Ab->Prop}{d:TypeDesc}(h:P.underlying t=some d):sl P (underlying t) l Q<->Q d l:=by show sl P (match P.underlying t with|some d=>pure d|none=>stuck "no such type") l _<->_;rw[h];rfl
theorem Jj{i:TypeInfo}{f:TypeInfo->Sem α}(h:P.info? t=some i):sl P (typeInfo t>>=f) l Q<->sl P (f i) l Q:=by rw[AB];show sl P (match P.info? t with|some i=>pure i|none=>stuck "no such type") l _<->_;rw[h];rfl
theorem EP{i:TypeInfo}{f:Nat->Sem α}(h:P.info? t=some i):sl P (sizeOf t>>=f) l Q<->sl P (f i.size) l Q:=by rw[AB];show sl P (typeInfo t>>=λi=>pure i.size) l _<->_;rw[Jj h];rfl
theorem GV{Q:Nat->List Ab->Prop}{i:TypeInfo}(h:P.info? t=some i):sl P (sizeOf t) l Q<->Q i.size l:=by show sl P (typeInfo t>>=λi=>pure i.size) l _<->_;rw[Jj h];rfl
theorem Ov{f:Program->Sem α}:sl P (program>>=f) l Q<->sl P (f P) l Q:=Do
def MZ:TypeDesc->Bool
 | .struct _=>true
 | .array _ _=>true
 |_=>false
theorem M0{d:TypeDesc}{f:Bool->Sem α}(h:P.underlying t=some d):sl P (isAgg t>>=f) l Q<->sl P (f (MZ d)) l Q:=by rw[AB];show sl P (underlying t>>=λd=>match d with| .struct _| .array _ _=>pure true|_=>pure false) l _<->_;rw[B9 h];cases d<;>rfl
end
theorem FZ(b off n:Nat):(⟨b,off,none⟩:Addr).add n=⟨b,off+n,none⟩:=by
 unfold Addr.add
 split
 ·rename_i h;subst h;rfl
 ·rfl
section
variable{fr:Fr}{R l:List Ab}{d:Option Nat}{aft:Array Edge}{x y:Operand}{w:Value}{b off:Nat}
theorem BK(hd:IG o.op=true)(h: ∀ρ l,Agrees fr ρ->(∀c,c∈R->c∈l)->sl P (execOp ρ o) l (λnx l'=>nx= .value v/\l'=l)):OpQ P ro N fr R o v:=
 ⟨λl hl=>Dy hd λρ hρ=>ll (λnx l' ⟨h1,h2⟩=>by rw[h1];exact⟨rfl,h2⟩) _ _ (h ρ l hρ hl)⟩
theorem p8(hx:ev fr x=some v):OpQ P ro N fr R ⟨d,.move x,ty,pos,aft,g⟩ v:=BK rfl λρ l hρ _=>⟨by rw[hρ x v hx],rfl⟩
theorem fA(hx:ev fr x=some v):OpQ P ro N fr R ⟨d,.assign x,ty,pos,aft,g⟩ v:=BK rfl λρ l hρ _=>⟨by rw[hρ x v hx],rfl⟩
theorem fB(hx:ev fr x=some (.bool true))(hy:ev fr y=some v):OpQ P ro N fr R ⟨d,.pick x y z,ty,pos,aft,g⟩ v:=BK rfl λρ l hρ _=>by simp only[execOp,hρ x _ hx,asBool];exact⟨by simp[hρ y _ hy],rfl⟩
theorem fC(hx:ev fr x=some (.bool false))(hz:ev fr z=some v):OpQ P ro N fr R ⟨d,.pick x y z,ty,pos,aft,g⟩ v:=BK rfl λρ l hρ _=>by simp only[execOp,hρ x _ hx,asBool];exact⟨by simp[hρ z _ hz],rfl⟩
theorem XI{a:Addr}(hx:ev fr x=some (.pointer (some a))):OpQ P ro N fr R ⟨d,.nilCheck x,ty,pos,aft,g⟩ (.pointer (some a)):=BK rfl λρ l hρ _=>by simp only[execOp,hρ x _ hx];exact⟨rfl,rfl⟩
theorem fD(h:vG P s f=some k): ∃fs fd i,P.underlying s=some (.struct fs)/\fs[f]?=some fd/\P.info? fd.type=some i/\i.size≠0/\fd.offset=k:=by
 unfold vG at h
 split at h
 ·rename_i fs hu
  split at h
  ·rename_i fd hf
   split at h
   ·rename_i i hi
    split at h
    ·cases h
    ·rename_i hz;cases h;exact⟨fs,fd,i,hu,hf,hi,hz,rfl⟩
   ·cases h
  ·cases h
 ·cases h
theorem VQ(hx:ev fr x=some (.pointer (some ⟨b,off,none⟩)))[c:FO P s f k](ho:off+k=off'):OpQ P ro N fr R ⟨d,.fieldAddr s x f,ty,pos,aft,g⟩ (.pointer (some ⟨b,off',none⟩)):=BK rfl λρ l hρ _=>by subst ho;obtain⟨fs,fd,i,h1,h2,h3,h4,h5⟩:=fD c.out;simp only[execOp,hρ x _ hx,Instr.fieldAt,AB];rw[<-AB,B9 h1];simp only[h2,AB,Bj,Instr.sureAddr,fieldPlace];rw[<-AB,EP h3];simp only[h4,CR,Bj,FZ,h5];exact⟨trivial,trivial⟩
theorem Lv(h:wi P t=some (n,e,k)): ∃i,P.underlying t=some (.array n e)/\P.info? e=some i/\i.size=k:=by
 unfold wi at h
 split at h
 ·rename_i hu;obtain⟨i,hi,h2⟩:=C8.1 h;cases h2;exact⟨i,hu,hi,rfl⟩
 ·cases h
theorem EH{y:Nat}(h:vJ P t=some (e,k,y)): ∃i,P.underlying t=some (.slice e)/\P.info? e=some i/\i.size=k/\i.bytes=y:=by
 unfold vJ at h
 split at h
 ·rename_i hu;obtain⟨i,hi,h2⟩:=C8.1 h;cases h2;exact⟨i,hu,hi,rfl,rfl⟩
 ·cases h
theorem Rf{i:Int}(hx:ev fr x=some (.pointer (some ⟨b,off,none⟩)))(hy:ev fr y=some (.int ki i))[c:AT P t n e k](hi:0<=i/\i<(n:Int)):
 OpQ P ro N fr R ⟨d,.indexAddr t x y,ty,pos,aft,g⟩ (.pointer (some ⟨b,off+i.toNat*k,none⟩)):=BK rfl λρ l hρ _=>by
 obtain⟨inf,h1,h2,h3⟩:=Lv c.out;simp only[execOp,hρ x _ hx,hρ y _ hy,Instr.indexAt,AB,asIntOf,Bj];rw[<-AB,B9 h1];simp only[AB,Bj,Instr.sureAddr];rw[<-AB,B9 h1];simp only[Ad hi,AB,Bj];rw[GV h2];simp only[FZ,h3];exact⟨trivial,trivial⟩
theorem VR(hx:ev fr x=some (.pointer (some ⟨b,off,none⟩)))(hy:ev fr y=some (.int ki (m:Nat)))[c:AT P t n e k](hi:m<n)(ho:off+m*k=off'):
 OpQ P ro N fr R ⟨d,.indexAddr t x y,ty,pos,aft,g⟩ (.pointer (some ⟨b,off',none⟩)):=by
 subst ho;have:=Rf (P:=P) (ro:=ro) (N:=N) (R:=R) (d:=d) (ty:=ty) (pos:=pos) (aft:=aft) (g:=g) (c:=c) hx hy ⟨Af,Af⟩;simpa using this
theorem Tv{i:Int}(hx:ev fr x=some (.slice (some ⟨b,off,none⟩) n cap))(hy:ev fr y=some (.int ki i))[c:ST P t e k yb](hi:0<=i/\i<(n:Int)):
 OpQ P ro N fr R ⟨d,.indexAddr t x y,ty,pos,aft,g⟩ (.pointer (some ⟨b,off+i.toNat*k,none⟩)):=BK rfl λρ l hρ _=>by
 obtain⟨inf,h1,h2,h3,_⟩:=EH c.out;simp only[execOp,hρ x _ hx,hρ y _ hy,Instr.indexAt,AB,asIntOf,Bj];rw[<-AB,B9 h1];simp only[AB,Bj];rw[<-AB,B9 h1];simp only[Ad hi,AB,Bj];rw[GV h2];simp only[FZ,h3];exact⟨trivial,trivial⟩
theorem XJ(hx:ev fr x=some (.slice (some ⟨b,off,none⟩) n cap))(hy:ev fr y=some (.int ki (m:Nat)))[c:ST P t e k yb](hi:m<n)(ho:off+m*k=off'):
 OpQ P ro N fr R ⟨d,.indexAddr t x y,ty,pos,aft,g⟩ (.pointer (some ⟨b,off',none⟩)):=by
 subst ho;have:=Tv (P:=P) (ro:=ro) (N:=N) (R:=R) (d:=d) (ty:=ty) (pos:=pos) (aft:=aft) (g:=g) (c:=c) hx hy ⟨Af,Af⟩;simpa using this
def XK:List Value->Nat->Option Value
 |[],_=>none
 |x::_,0=>some x
 |_::r,n+1=>XK r n
theorem lB(l:List Value): ∀i,XK l i=l[i]?:=by
 induction l with
 |nil=>intro i;cases i<;>rfl
 |cons x r ih=>intro i;cases i with
  |zero=>rfl
  |succ n=>simp only[XK,CX];exact ih n
theorem VS{l:List Value}(h:XK l i=some v):(toArray l)[i]?=some v:=by rw[AC,<-lB];exact h
inductive LGet:List Value->Nat->Value->Prop
 |zero {x:Value} {r:List Value}:LGet (x::r) 0 x
 |succ {x v:Value} {r:List Value} {n:Nat}:LGet r n v->LGet (x::r) (n+1) v
theorem LGet.spec{l:List Value}(h:LGet l i v):XK l i=some v:=by
 induction h with
 |zero=>rfl
 |succ _ ih=>exact ih
theorem Kd{l:List Value}(h:LGet l i v):(toArray l)[i]?=some v:=VS h.spec
inductive LSet:List Value->Nat->Value->List Value->Prop
 |zero {x v:Value} {r:List Value}:LSet (x::r) 0 v (v::r)
 |succ {x v:Value} {r r':List Value} {n:Nat}:LSet r n v r'->LSet (x::r) (n+1) v (x::r')
theorem LSet.spec{l l':List Value}(h:LSet l i v l'):l.set i v=l'/\i<l.length:=by
 induction h with
 |zero=>simp
 |succ _ ih=>simp[ih.1,ih.2]
inductive LSub:List Value->Nat->Nat->List Value->Prop
 |done {l:List Value}:LSub l 0 0 []
 |take {x:Value} {l r:List Value} {n:Nat}:LSub l 0 n r->LSub (x::l) 0 (n+1) (x::r)
 |drop {x:Value} {l r:List Value} {k n:Nat}:LSub l k n r->LSub (x::l) (k+1) n r
theorem LSub.spec{l r:List Value}(h:LSub l k n r):(l.drop k).take n=r/\k+n<=l.length:=by
 induction h with
 |done=>simp
 |take _ ih=>simp only[List.drop_zero] at ih⊢;simp[ih.1];omega
 |drop _ ih=>simp only[List.drop_succ_cons,Br];exact⟨ih.1,Af⟩
inductive LSetA:List Value->Nat->List Value->List Value->Prop
 |done {l:List Value}:LSetA l 0 [] l
 |put {x v:Value} {l r vs:List Value}:LSetA l 0 vs r->LSetA (x::l) 0 (v::vs) (v::r)
 |skip {x:Value} {l r vs:List Value} {k:Nat}:LSetA l k vs r->LSetA (x::l) (k+1) vs (x::r)
theorem Lw(h:ly P t=true): ∃u i,P.underlying t=some u/\MZ u=false/\P.info? t=some i/\i.size=1:=by
 unfold ly at h
 split at h
 ·cases h
 ·cases h
 ·rename_i u hn1 hn2 hu;cases hi:P.info? t with
  |none=>rw[hi] at h;cases h
  |some i=>rw[hi] at h;refine⟨u,i,hu,?_,rfl,by simpa using h⟩;cases u<;>first|rfl|exact(hn1 _ rfl).elim|exact(hn2 _ _ rfl).elim
 ·cases h
theorem VT{Q:α->List Ab->Prop}{f:Value->Sem α}(hc:ly P t=true)(hm:(b,Obj.cells cs T fz)∈l)(hv:cs[off]?=some v)(h:sl P (f v) l Q):sl P (loadVar t ⟨b,off,none⟩>>=f) l Q:=by obtain⟨u,i,h1,h2,_,_⟩:=Lw hc;rw[AB];unfold loadVar;rw[M0 h1,h2];exact⟨cs,T,fz,v,hm,rfl,hv,h⟩
theorem DH(hx:ev fr x=some (.pointer (some ⟨b,off,none⟩)))[c:OC P t](hm:(b,Obj.cells cs T fz)∈R)(hv:cs[off]?=some v):OpQ P ro N fr R ⟨d,.load t x,ty,pos,aft,g⟩ v:=BK rfl λρ l hρ hR=>by simp only[execOp,hρ x _ hx,Instr.loadAt,AB,Instr.sureAddr,Bj];have:=VT (P:=P) (f:=λv=>(pure v:Sem Value)) (Q:=λa l'=>Next.value a= .value v/\l'=l) c.out (hR _ hm) hv ⟨rfl,rfl⟩;rw[AB] at this;exact this
theorem OW{α:Type}{Q:α->List Ab->Prop}{f:Array Value->Sem α}{cs:Array Value}{T:TypeId}{fz:Nat×Nat}(hm:(b,Obj.cells cs T fz)∈l): ∀(n i:Nat) (acc:Array Value),off+i+n<=cs.size->sl P (f (acc++cs.extract (off+i) (off+i+n))) l Q->sl P (loadCellsFrom ⟨b,off,none⟩ i n acc>>=f) l Q
 |0,i,acc,_,h=>by
  have e:cs.extract (off+i) (off+i+0)=#[]:=by simp;omega
  rw[e,J5] at h;exact h
 |n+1,i,acc,hle,h=>by
  unfold loadCellsFrom;rw[AB,AB];show sl P (load ((⟨b,off,none⟩:Addr).add i)) l _;rw[FZ];have hlt:off+i<cs.size:=by omega
  refine⟨cs,T,fz,cs[off+i],hm,rfl,CB hlt,?_⟩;show sl P (loadCellsFrom ⟨b,off,none⟩ (i+1) n (acc.push cs[off+i])) l _;rw[<-AB];refine OW hm n (i+1) _ Af ?_;have e:acc.push cs[off+i]++cs.extract (off+(i+1)) (off+(i+1)+n)=acc++cs.extract (off+i) (off+i+(n+1)):=by apply BO.1;simp only[Array.toList_append,KG,GM,Cj,Am,Cb];congr 1;rw[show off+i+(n+1)-(off+i)=n+1 by omega,show off+(i+1)+n-(off+(i+1))=n by omega];rw[C4 (i:=off+i) (by simpa using hlt),List.take_succ_cons];simp[Ji]
  rw[e];exact h
theorem Ke(h:p7 P t=some n): ∃u i,P.underlying t=some u/\MZ u=true/\P.info? t=some i/\i.size=n:=by
 unfold p7 at h
 split at h
 ·rename_i hu;obtain⟨i,hi,h2⟩:=C8.1 h;exact⟨_,i,hu,rfl,hi,h2⟩
 ·rename_i hu;obtain⟨i,hi,h2⟩:=C8.1 h;exact⟨_,i,hu,rfl,hi,h2⟩
 ·cases h
theorem VU{Q:α->List Ab->Prop}{f:Value->Sem α}(hc:p7 P t=some n)(hm:(b,Obj.cells cs T fz)∈l)(hle:off+n<=cs.size)(h:sl P (f (.agg (cs.extract off (off+n)))) l Q):sl P (loadVar t ⟨b,off,none⟩>>=f) l Q:=by obtain⟨u,i,h1,h2,h3,h4⟩:=Ke hc;rw[AB];unfold loadVar;rw[M0 h1,h2];simp only[CT];rw[EP h3,h4];refine OW hm n 0 #[] Af ?_;simp only[CH,J6];exact h
theorem Dn(hx:ev fr x=some (.pointer (some ⟨b,off,none⟩)))[c:AG P t n](hm:(b,Obj.cells cs T fz)∈R){wc:Array Value}(hle:off+n<=cs.size)(hv:cs.extract off (off+n)=wc):OpQ P ro N fr R ⟨d,.load t x,ty,pos,aft,g⟩ (.agg wc):=BK rfl λρ l hρ hR=>by subst hv;simp only[execOp,hρ x _ hx,Instr.loadAt,AB,Instr.sureAddr,Bj];have:=VU (P:=P) (f:=λv=>(pure v:Sem Value)) (Q:=λa l'=>Next.value a= .value (.agg (cs.extract off (off+n)))/\l'=l) c.out (hR _ hm) hle ⟨rfl,rfl⟩;rw[AB] at this;exact this
theorem HQ{cs:List Value}(hx:ev fr x=some (.pointer (some ⟨b,off,none⟩)))[c:AG P t n](hm:(b,Obj.cells (toArray cs) T fz)∈R){wc:List Value}(hv:LSub cs off n wc):OpQ P ro N fr R ⟨d,.load t x,ty,pos,aft,g⟩ (.agg (toArray wc)):=
 Dn hx hm (by simpa using hv.spec.2) (by apply BO.1;rw[GM,Cj];simpa using hv.spec.1)
end
section
variable{fr:Fr}{R l:List Ab}{d:Option Nat}{aft:Array Edge}{x y:Operand}{w:Value}{b off:Nat}{t t2:TypeId}
def lC(k:IntKind):Int:=if k.signed then-(2^(k.bits-1):Int) else 0
def lD(k:IntKind):Int:=if k.signed then(2^(k.bits-1):Int)-1 else(2^k.bits:Int)-1
theorem ZB(k:IntKind)(n:Int)(h1:lC k<=n)(h2:n<=lD k):k.wrap n=n:=by unfold IntKind.wrap lC lD at*;cases k<;>simp[IntKind.signed,IntKind.bits] at* <;>(try split)<;>omega
theorem p9(n:Int)(h: -9223372036854775808<=n/\n<=9223372036854775807):IntKind.i64.wrap n=n:=ZB _ _ (by simpa[lC,IntKind.signed,IntKind.bits] using h.1) (by simpa[lD,IntKind.signed,IntKind.bits] using h.2)
def fF(k:IntKind)(n:Int):Prop:=match k with
 | .i64=> -9223372036854775808<=n/\n<=9223372036854775807
 | .u64=>0<=n/\n<=18446744073709551615
 | .u8=>0<=n/\n<=255
 | .i32=> -2147483648<=n/\n<=2147483647
 | .u32=>0<=n/\n<=4294967295
 |_=>False
theorem Lx{k:IntKind}{n:Int}(h:fF k n):k.wrap n=n:=by cases k<;>simp only[fF] at h<;>first|exact h.elim|exact ZB _ _ (by simpa[lC,IntKind.signed,IntKind.bits] using h.1) (by simpa[lD,IntKind.signed,IntKind.bits] using h.2)
theorem QA{n:Int}(h1: -9223372036854775808<=n)(h2:n<=9223372036854775807):fF .i64 n:=⟨h1,h2⟩
theorem OX{n:Int}(h1:0<=n)(h2:n<18446744073709551616):fF .u64 n:=⟨h1,Af⟩
theorem CZ(op:BinOp)(k k':IntKind)(i j:Int):eqGuard op t x y (.int k i) (.int k' j)=pure ():=by unfold eqGuard;split<;>rfl
theorem OY(op:BinOp)(i j:Bool):eqGuard op t x y (.bool i) (.bool j)=pure ():=by unfold eqGuard;split<;>rfl
theorem Js(op:BinOp)(i j:Option Addr):eqGuard op t x y (.pointer i) (.pointer j)=pure ():=by unfold eqGuard;split<;>rfl
theorem XL(op:BinOp)(i j:Option Addr)(a b c e:Nat):eqGuard op t x y (.slice i a b) (.slice j c e)=pure ():=by unfold eqGuard;split<;>rfl
theorem Ik{op:BinOp}(hx:ev fr x=some u)(hy:ev fr y=some w)(hg: ∀x y,eqGuard op t x y u w=pure ())(h:binOp op t u w=pure v):OpQ P ro N fr R ⟨d,.binOp op t x y t2,ty,pos,aft,g⟩ v:=BK rfl λρ l hρ _=>by simp only[execOp,hρ x _ hx,hρ y _ hy,AB,hg,h];exact⟨rfl,rfl⟩
variable{k:IntKind}{i j:Int}
theorem tg(hx:ev fr x=some (.int k i))(hy:ev fr y=some (.int k j))(h:fF k (i+j)):OpQ P ro N fr R ⟨d,.binOp .add t x y t2,ty,pos,aft,g⟩ (.int k (i+j)):=
 Ik hx hy (λ_ _=>CZ _ _ _ _ _) (by simp[binOp,Op.intArith,Lx h])
theorem oV(hx:ev fr x=some (.int k i))(hy:ev fr y=some (.int k j))(h:fF k (i-j)):OpQ P ro N fr R ⟨d,.binOp .sub t x y t2,ty,pos,aft,g⟩ (.int k (i-j)):=
 Ik hx hy (λ_ _=>CZ _ _ _ _ _) (by simp[binOp,Op.intArith,Lx h])
theorem ti(hx:ev fr x=some (.int k i))(hy:ev fr y=some (.int k j))(h:fF k (i*j)):OpQ P ro N fr R ⟨d,.binOp .mul t x y t2,ty,pos,aft,g⟩ (.int k (i*j)):=
 Ik hx hy (λ_ _=>CZ _ _ _ _ _) (by simp[binOp,Op.intArith,Lx h])
theorem lF(hx:ev fr x=some (.int k i))(hy:ev fr y=some (.int k j)):OpQ P ro N fr R ⟨d,.binOp .add t x y t2,ty,pos,aft,g⟩ (.int k (k.wrap (i+j))):=
 Ik hx hy (λ_ _=>CZ _ _ _ _ _) (by simp[binOp,Op.intArith])
theorem lG(hx:ev fr x=some (.int k i))(hy:ev fr y=some (.int k j)):OpQ P ro N fr R ⟨d,.binOp .mul t x y t2,ty,pos,aft,g⟩ (.int k (k.wrap (i*j))):=
 Ik hx hy (λ_ _=>CZ _ _ _ _ _) (by simp[binOp,Op.intArith])
theorem tj(hx:ev fr x=some (.int k i))(hy:ev fr y=some (.int k j))(h0:0<=i)(h1:0<j)(h:fF k i):OpQ P ro N fr R ⟨d,.binOp .quo t x y t2,ty,pos,aft,g⟩ (.int k (i/j)):=
 Ik hx hy (λ_ _=>CZ _ _ _ _ _) (by
  have e:i.tdiv j=i/j:=Int.tdiv_eq_ediv_of_nonneg h0;have h2:i/j<=i:=Int.ediv_le_self _ h0;have h3:0<=i/j:=Int.ediv_nonneg h0 Af;have hr:fF k (i/j):=by cases k<;>simp only[fF] at h⊢ <;>first|exact h|omega
  simp[binOp,Op.intDiv,show ¬j=0 by omega,e,Lx hr])
theorem tk(hx:ev fr x=some (.int k i))(hy:ev fr y=some (.int k j))(h0:0<=i)(h1:0<j):OpQ P ro N fr R ⟨d,.binOp .rem t x y t2,ty,pos,aft,g⟩ (.int k (i%j)):=
 Ik hx hy (λ_ _=>CZ _ _ _ _ _) (by have e:i.tmod j=i%j:=Int.tmod_eq_emod_of_nonneg h0;simp[binOp,Op.intDiv,show ¬j=0 by omega,e])
theorem to(hx:ev fr x=some (.int k i))(hy:ev fr y=some (.int k j)):OpQ P ro N fr R ⟨d,.binOp .lss t x y t2,ty,pos,aft,g⟩ (.bool (decide (i<j))):=
 Ik hx hy (λ_ _=>CZ _ _ _ _ _) (by simp[binOp,Op.intCmp])
theorem ts(hx:ev fr x=some (.int k i))(hy:ev fr y=some (.int k j)):OpQ P ro N fr R ⟨d,.binOp .leq t x y t2,ty,pos,aft,g⟩ (.bool (decide (i<=j))):=
 Ik hx hy (λ_ _=>CZ _ _ _ _ _) (by simp[binOp,Op.intCmp])
theorem tt(hx:ev fr x=some (.int k i))(hy:ev fr y=some (.int k j)):OpQ P ro N fr R ⟨d,.binOp .gtr t x y t2,ty,pos,aft,g⟩ (.bool (decide (j<i))):=
 Ik hx hy (λ_ _=>CZ _ _ _ _ _) (by simp[binOp,Op.intCmp])
theorem tu(hx:ev fr x=some (.int k i))(hy:ev fr y=some (.int k j)):OpQ P ro N fr R ⟨d,.binOp .geq t x y t2,ty,pos,aft,g⟩ (.bool (decide (j<=i))):=
 Ik hx hy (λ_ _=>CZ _ _ _ _ _) (by simp[binOp,Op.intCmp])
theorem tv(hx:ev fr x=some (.int k i))(hy:ev fr y=some (.int k j)):OpQ P ro N fr R ⟨d,.binOp .eql t x y t2,ty,pos,aft,g⟩ (.bool (decide (i=j))):=
 Ik hx hy (λ_ _=>CZ _ _ _ _ _) (by simp[binOp,Op.intCmp];rfl)
theorem tx(hx:ev fr x=some (.int k i))(hy:ev fr y=some (.int k j)):OpQ P ro N fr R ⟨d,.binOp .neq t x y t2,ty,pos,aft,g⟩ (.bool (decide (¬i=j))):=
 Ik hx hy (λ_ _=>CZ _ _ _ _ _) (by simp[binOp,Op.intCmp,bne];rfl)
theorem tz{bb:Bool}(hx:ev fr x=some (.bool bb)):OpQ P ro N fr R ⟨d,.unOp .not t x,ty,pos,aft,g⟩ (.bool (!bb)):=BK rfl λρ l hρ _=>by simp only[execOp,hρ x _ hx,Op.unary,AB];exact⟨rfl,rfl⟩
theorem qb(hx:ev fr x=some (.int k i))[c1:IT P src k][c2:IT P dst k'](h:fF k' i):OpQ P ro N fr R ⟨d,.convert src dst x,ty,pos,aft,g⟩ (.int k' i):=BK rfl λρ l hρ _=>by
 have h1:P.underlying src=some (.int k):=by have:=c1.out;unfold lz at this;split at this<;>simp_all
 have h2:P.underlying dst=some (.int k'):=by have:=c2.out;unfold lz at this;split at this<;>simp_all
 simp only[execOp,hρ x _ hx,convert,AB];rw[EC h1,EC h2];exact⟨by rw[Lx h],rfl⟩
theorem OZ(hx:ev fr x=some (.int k i))[c1:IT P src k][c2:IT P dst k']:OpQ P ro N fr R ⟨d,.convert src dst x,ty,pos,aft,g⟩ (.int k' (k'.wrap i)):=BK rfl λρ l hρ _=>by
 have h1:P.underlying src=some (.int k):=by have:=c1.out;unfold lz at this;split at this<;>simp_all
 have h2:P.underlying dst=some (.int k'):=by have:=c2.out;unfold lz at this;split at this<;>simp_all
 simp only[execOp,hρ x _ hx,convert,AB];rw[EC h1,EC h2];exact⟨rfl,rfl⟩
theorem M1{t:Nat}(h:vK P t=some e):P.underlying t=some (.pointer e):=by unfold vK at h;split at h<;>simp_all
theorem lI{p:Option Addr}(hx:ev fr x=some (.pointer p))(hy:ev fr y=some (.pointer none))[c:PT P t e]:OpQ P ro N fr R ⟨d,.binOp .eql t x y t2,ty,pos,aft,g⟩ (.bool p.isNone):=BK rfl λρ l hρ _=>by simp only[execOp,hρ x _ hx,hρ y _ hy,AB,Js,Bj,binOp];unfold Op.equal Op.maxDepth Op.equalIn;rw[B9 (M1 c.out)];cases p<;>exact⟨rfl,rfl⟩
theorem lJ{p:Option Addr}(hx:ev fr x=some (.pointer p))(hy:ev fr y=some (.pointer none))[c:PT P t e]:OpQ P ro N fr R ⟨d,.binOp .neq t x y t2,ty,pos,aft,g⟩ (.bool p.isSome):=BK rfl λρ l hρ _=>by simp only[execOp,hρ x _ hx,hρ y _ hy,AB,Js,Bj,binOp];unfold Op.equal Op.maxDepth Op.equalIn;rw[B9 (M1 c.out)];cases p<;>exact⟨rfl,rfl⟩
theorem tA{p:Bool}(hx:ev fr x=some (.bool p))(hy:ev fr y=some (.bool q))(ht:P.underlying t=some .bool):OpQ P ro N fr R ⟨d,.binOp .eql t x y t2,ty,pos,aft,g⟩ (.bool (p==q)):=BK rfl λρ l hρ _=>by simp only[execOp,hρ x _ hx,hρ y _ hy,AB,OY,Bj,binOp];unfold Op.equal Op.maxDepth Op.equalIn;rw[B9 ht];exact⟨rfl,rfl⟩
theorem tB{p:Bool}(hx:ev fr x=some (.bool p))(hy:ev fr y=some (.bool q))(ht:P.underlying t=some .bool):OpQ P ro N fr R ⟨d,.binOp .neq t x y t2,ty,pos,aft,g⟩ (.bool (!(p==q))):=BK rfl λρ l hρ _=>by simp only[execOp,hρ x _ hx,hρ y _ hy,AB,OY,Bj,binOp];unfold Op.equal Op.maxDepth Op.equalIn;rw[B9 ht];exact⟨rfl,rfl⟩
theorem bM{vs:Array Value}{ix:Nat}(hx:ev fr x=some (.tuple vs))(hv:vs[ix]?=some v):OpQ P ro N fr R ⟨d,.extract x ix,ty,pos,aft,g⟩ v:=BK rfl λρ l hρ _=>by simp only[execOp,hρ x _ hx,AB,Instr.extract,hv];exact⟨rfl,rfl⟩
theorem XM(hx:Qm fr xs=some vs):OpQ P ro N fr R ⟨d,.makeFunc (.func f) #[] xs.toArray,ty,pos,aft,g⟩ (.func (.func f) #[] vs.toArray):=BK rfl λρ l hρ _=>by simp only[execOp,AB,Instr.makeFunc,C5,hρ.list hx];exact⟨rfl,rfl⟩
theorem VV{k t:Nat}(h:vH P s f=some (k,t)): ∃fs fd,P.underlying s=some (.struct fs)/\fs[f]?=some fd/\fd.offset=k/\fd.type=t:=by
 unfold vH at h
 split at h
 ·rename_i fs hu;obtain⟨fd,hf,h2⟩:=C8.1 h;cases h2;exact⟨fs,fd,hu,hf,rfl,rfl⟩
 ·cases h
theorem fG{Q:α->List Ab->Prop}{f:Value->Sem α}{t:Nat}(hc:ly P t=true)(hv:cs[off]?=some v)(h:sl P (f v) l Q):sl P (part t cs off>>=f) l Q:=by obtain⟨u,i,h1,h2,_,_⟩:=Lw hc;rw[AB];unfold part;rw[M0 h1,h2];simp only[Bi,CR,hv];exact h
theorem fH{p:Option Addr}{kk:Nat}(hx:ev fr x=some (.slice p n cap))[c:ST P t e kk yb]:OpQ P ro N fr R ⟨d,.call {callee:= .builtin .len,args:=#[x],argTypes:=#[t]},ty,pos,aft,g⟩ (.int .i64 (n:Nat)):=BK rfl λρ l hρ _=>by obtain⟨inf,h1,_⟩:=EH c.out;simp only[execOp,resolve,AB,Bj,invoke,builtin,C5,AI,CI,hρ x _ hx,Builtin.len_];show sl P (underlying t>>=_) l _;rw[B9 h1];exact⟨rfl,rfl⟩
theorem Da{fs:Array Value}{at_:Array TypeId}(hx:ev fr x=some (.func (.func f) fs cs))(hy:Qm fr xs=some vs)[c:EN P f](h:Fn P f (fs.toList++vs++cs.toList) l K):OpE P ro N fr l ⟨d,.call {callee:= .value x,args:=xs.toArray,argTypes:=at_},ty,pos,aft,g⟩ K:=by
 refine⟨rfl,λE a W hf hs=>?_⟩;have hρ:=hf.agrees;unfold OpVal;have e:(execOp a.eval ⟨d,.call {callee:= .value x,args:=xs.toArray,argTypes:=at_},ty,pos,aft,g⟩).run P W= .ok (.enter f (fs.toList++vs++cs.toList).toArray) W:=by simp only[execOp,resolve,C5,hρ.list hy,hρ x _ hx,Deferred.ofValue,Sem.run_bind];simp only[Sem.run_pure,Result.andThen,invoke];rw[c.out];congr 2;apply BO.1;simp
 rw[e];refine LR ((h.run E W hs).mono ?_);rintro e W'' ⟨v,l'',rfl,hk,hs''⟩;exact⟨v,rfl,l'',hk,hs''⟩
theorem Az{at_:Array TypeId}(hx:ev fr x=some (.func (.func f) #[] #[]))(hy:Qm fr xs=some vs)[c:EN P f](h:Fn P f vs l K):OpE P ro N fr l ⟨d,.call {callee:= .value x,args:=xs.toArray,argTypes:=at_},ty,pos,aft,g⟩ K:=
 Da hx hy (by simpa using h)
theorem AJ{at_:Array TypeId}(hx:ev fr x=some (.func (.func f) #[] #[]))(hy:Qm fr xs=some vs)[c:EN P f](h: ∀l,(∀c,c∈R->c∈l)->Fn P f vs l (λv' l'=>v'=v/\l'=l)):OpQ P ro N fr R ⟨d,.call {callee:= .value x,args:=xs.toArray,argTypes:=at_},ty,pos,aft,g⟩ v:=
 ⟨λl hl=>Az hx hy (h l hl)⟩
theorem CQ{at_:Array TypeId}(hx:ev fr x=some (.func (.yield r) #[] #[]))(hy:Qm fr xs=some vs)(h:MX P r vs l K):OpE P ro N fr l ⟨d,.call {callee:= .value x,args:=xs.toArray,argTypes:=at_},ty,pos,aft,g⟩ K:=by
 refine⟨rfl,λE a W hf hs=>?_⟩;have hρ:=hf.agrees;unfold OpVal;obtain⟨fn,tmps,assign,body,hy2,hR⟩:=h.run E W hs;have e:(execOp a.eval ⟨d,.call {callee:= .value x,args:=xs.toArray,argTypes:=at_},ty,pos,aft,g⟩).run P W= .ok (.round r fn tmps assign body) W:=by simp only[execOp,resolve,C5,hρ.list hy,hρ x _ hx,Deferred.ofValue,Sem.run_bind];simp only[Sem.run_pure,Result.andThen,invoke];rw[<-hy2];congr 1;simp
 rw[e];refine XH (hR.mono ?_);rintro e W'' ⟨v,l'',rfl,hk,hs''⟩;exact⟨v,rfl,l'',hk,hs''⟩
theorem Jt{t:Nat}{z:List Value}(h:pZ P t=some z): ∃i zv,P.info? t=some i/\i.zero=some zv/\zv.cells.toList=z:=by
 unfold pZ at h
 split at h
 ·rename_i i hi
  split at h
  ·rename_i zv hz;cases h;exact⟨i,zv,hi,hz,rfl⟩
  ·cases h
 ·cases h
theorem e_alloc{zs:List Value}[c:ZV P t zs]:OpE P ro N fr l ⟨d,.alloc t,ty,pos,aft,g⟩ (λv l'=> ∃b,(∀c,c∈l->c.1≠b)/\v= .pointer (some ⟨b,0,none⟩)/\l'=(b,.cells zs.toArray t (0,0))::l):=Dy rfl λρ hρ=>by obtain⟨i,zv,h1,h2,h3⟩:=Jt c.out;simp only[execOp,AB,Instr.alloc,zeroValue];rw[<-AB,Jj h1,h2];simp only[Bj,newVar,newRow,AB];intro b hb;exact⟨b,hb,rfl,by rw[<-h3]⟩
theorem oW(hx:ev fr x=some v):OpE P ro N fr l ⟨d,.box e x,ty,pos,aft,g⟩ (λv' l'=> ∃b,(∀c,c∈l->c.1≠b)/\v'= .pointer (some ⟨b,0,none⟩)/\l'=(b,.cells v.cells e (0,0))::l):=Dy rfl λρ hρ=>by simp only[execOp,AB,Instr.box,hρ x _ hx,newVar,newRow];intro b hb;exact⟨b,hb,rfl,rfl⟩
theorem NJ(h:v.oneCell'=true):v.cells=#[v]:=by cases v<;>first|rfl|(simp[Value.oneCell'] at h)
theorem UF{Q:α->List Ab->Prop}{f:Unit->Sem α}(hc:ly P t=true)(h1:v.oneCell'=true)(hlt:off<cs.size)(hu:Upd l b (.cells cs T (0,0)) (.cells (cs.setIfInBounds off v) T (0,0)) l')(h:sl P (f ()) l' Q):sl P (storeVar t ⟨b,off,none⟩ v>>=f) l Q:=by obtain⟨u,i,_,_,h3,h4⟩:=Lw hc;rw[AB];unfold storeVar;rw[EP h3,NJ h1,h4];exact⟨h1,cs,T,(0,0),l',hu,rfl,hlt,by simp[Addr.add],h⟩
theorem Dg(hx:ev fr x=some (.pointer (some ⟨b,off,none⟩)))(hy:ev fr y=some v)[c:OC P t](h1:v.oneCell'=true)(hu:Upd l b (.cells cs T (0,0)) (.cells (cs.setIfInBounds off v) T (0,0)) l')(hlt:off<cs.size):OpE P ro N fr l ⟨d,.store t x y,ty,pos,aft,g⟩ (λv' l2=>v'=undef/\l2=l'):=Dy rfl λρ hρ=>by simp only[execOp,hρ x _ hx,hρ y _ hy,Instr.storeAt,AB,Instr.sureAddr,Bj];have:=UF (P:=P) (f:=λv=>(pure v:Sem Unit)) (Q:=λa l2=>VP P (λv' l2=>v'=undef/\l2=l') Next.skip l2) c.out h1 hlt hu ⟨rfl,rfl⟩;rw[AB] at this;exact this
theorem Eb(hx:ev fr x=some v)(h1:v.oneCell'=true):OpE P ro N fr l ⟨d,.box e x,ty,pos,aft,g⟩ (λv' l'=> ∃b,(∀c,c∈l->c.1≠b)/\v'= .pointer (some ⟨b,0,none⟩)/\l'=(b,.cells (toArray [v]) e (0,0))::l):=
 (oW hx).mono λv' l' ⟨b,h0,h1',h2⟩=>⟨b,h0,h1',by rw[h2,NJ h1]⟩
theorem CK(hx:ev fr x=some (.agg ws)):OpE P ro N fr l ⟨d,.box e x,ty,pos,aft,g⟩ (λv' l'=> ∃b,(∀c,c∈l->c.1≠b)/\v'= .pointer (some ⟨b,0,none⟩)/\l'=(b,.cells ws e (0,0))::l):=oW hx
theorem F0{cs:List Value}(hx:ev fr x=some (.pointer (some ⟨b,off,none⟩)))(hy:ev fr y=some v)[c:OC P t](h1:v.oneCell'=true)(hm:(b,Obj.cells (toArray cs) T (0,0))∈l)(hs:LSet cs off v cs')(hu:Upd l b (.cells (toArray cs) T (0,0)) (.cells (toArray cs') T (0,0)) l'):OpE P ro N fr l ⟨d,.store t x y,ty,pos,aft,g⟩ (λv' l2=>v'=undef/\l2=l'):=by refine Dg hx hy h1 (cs:=toArray cs) (T:=T) ?_ (by simpa using hs.spec.2);rw[Bt,hs.spec.1];exact hu
def CV(cs:Array Value)(off:Nat):List Value->Array Value
 |[]=>cs
 |v::r=>CV (cs.setIfInBounds off v) (off+1) r
theorem Upd.mid{l l'':List Ab}{b:Nat}{o o'':Obj}(o':Obj)(h:Upd l b o o'' l''): ∃l',Upd l b o o' l'/\Upd l' b o' o'' l'':=by
 induction h with
 |here=>exact⟨_,.here,.here⟩
 |there _ ih=>obtain⟨l',h1,h2⟩:=ih;exact⟨_,.there h1,.there h2⟩
theorem Upd.same'{l:List Ab}{b:Nat}{o:Obj}(h:Upd l b o o' l')(e:o=o'):l'=l:=by
 induction h with
 |here=>rw[e]
 |there _ ih=>rw[ih e]
theorem Upd.same{l:List Ab}{b:Nat}{o:Obj}(h:Upd l b o o l'):l'=l:=h.same' rfl
theorem Lc{α:Type}{Q:α->List Ab->Prop}{f:Unit->Sem α}{T:TypeId}: ∀(vs:List Value) (i:Nat) (cs:Array Value) (l l':List Ab),(∀v,v∈vs->v.oneCell'=true)->off+i+vs.length<=cs.size->Upd l b (.cells cs T (0,0)) (.cells (CV cs (off+i) vs) T (0,0)) l'->sl P (f ()) l' Q->sl P (storeCells ⟨b,off,none⟩ vs i>>=f) l Q
 |[],i,cs,l,l',_,_,hu,h=>by have:=hu.same;subst this;exact h
 |v::r,i,cs,l,l',hv,hle,hu,h=>by unfold storeCells;rw[AB,AB];show sl P (store ((⟨b,off,none⟩:Addr).add i) v) l _;rw[FZ];obtain⟨l1,h1,h2⟩:=hu.mid (.cells (cs.setIfInBounds (off+i) v) T (0,0));simp only[Br] at hle;refine⟨hv v Ak,cs,T,(0,0),l1,h1,rfl,by simp only;omega,by simp,?_⟩;show sl P (storeCells ⟨b,off,none⟩ r (i+1)) l1 _;rw[<-AB];exact Lc r (i+1) _ l1 l' (λu hu=>hv u (An _ hu)) (by simp;omega) h2 h
theorem LSetA.spec{l r:List Value}{k:Nat}(h:LSetA l k vs r):CV (toArray l) k vs=toArray r/\k+vs.length<=l.length:=by
 have key: ∀(vs:List Value) (pre l:List Value) (k:Nat),CV (toArray (pre++l)) (pre.length+k) vs=toArray (pre++(CV (toArray l) k vs).toList):=by
  intro vs
  induction vs with
  |nil=>intro pre l k;simp[CV]
  |cons v vs ih=>intro pre l k;simp only[CV,Bt];rw[Cm _ _ Af,show pre.length+k-pre.length=k by omega,show pre.length+k+1=pre.length+(k+1) by omega];exact ih pre _ _
 induction h with
 |done=>exact⟨rfl,Bl _⟩
 |put h ih=>rename_i x v l r vs;refine⟨?_,by have:=ih.2;simp only[Br];omega⟩;simp only[CV,Bt,E6];have:=key vs [v] l 0;simp only[Bh,Cb,BC,CH] at this⊢;rw[this,ih.1]
 |skip h ih=>rename_i x l r vs k;refine⟨?_,by have:=ih.2;simp only[Br];omega⟩;have:=key vs [x] l k;simp only[Bh,Cb] at this;rw[JP k 1,this,ih.1]
theorem Et(hx:ev fr x=some (.pointer (some ⟨b,off,none⟩)))(hy:ev fr y=some (.agg ws))[c:AG P t n](hn:ws.size=n)(h1: ∀v,v∈ws.toList->v.oneCell'=true)(hu:Upd l b (.cells cs T (0,0)) (.cells (CV cs off ws.toList) T (0,0)) l')(hlt:off+n<=cs.size):OpE P ro N fr l ⟨d,.store t x y,ty,pos,aft,g⟩ (λv' l2=>v'=undef/\l2=l'):=Dy rfl λρ hρ=>by obtain⟨u,i,_,_,h3,h4⟩:=Ke c.out;simp only[execOp,hρ x _ hx,hρ y _ hy,Instr.storeAt,AB,Instr.sureAddr,Bj];unfold storeVar;rw[EP h3,h4];have e:(Value.agg ws).cells=ws:=rfl;rw[e,hn];simp only[ne_eq,not_true,CR];have:=Lc (P:=P) (f:=λv=>(pure v:Sem Unit)) (Q:=λa l2=>VP P (λv' l2=>v'=undef/\l2=l') Next.skip l2) ws.toList 0 cs l l' h1 (by simp;omega) hu ⟨rfl,rfl⟩;rw[AB] at this;exact this
theorem Tw{cs ws:List Value}(hx:ev fr x=some (.pointer (some ⟨b,off,none⟩)))(hy:ev fr y=some (.agg (toArray ws)))[c:AG P t n](hn:ws.length=n)(h1: ∀v,v∈ws->v.oneCell'=true)(hm:(b,Obj.cells (toArray cs) T (0,0))∈l)(hs:LSetA cs off ws cs')(hu:Upd l b (.cells (toArray cs) T (0,0)) (.cells (toArray cs') T (0,0)) l'):OpE P ro N fr l ⟨d,.store t x y,ty,pos,aft,g⟩ (λv' l2=>v'=undef/\l2=l'):=by refine Et hx hy (cs:=toArray cs) (T:=T) (by simpa using hn) (by simpa using h1) ?_ (by have:=hs.spec.2;simp;omega);have e:=hs.spec.1;simp only at e⊢;rw[e];exact hu
end
section
variable{fr:Fr}{l:List Ab}
theorem fe{d:Nat}(h:OpE P ro N fr l o K)(hw:o.guard=none)(hd:o.dst=some d)(hb:Nat.blt d N=true)(hk: ∀v l',K v l'->Dk P ro N E ops Q rest ((d,v)::fr) ds l'):Dk P ro N E ops Q (o::rest) fr ds l:=
 we h hw (by rw[hd];exact hb) λv l' hkv=>by rw[hd];exact hk v l' hkv
theorem Mu(h:OpE P ro N fr l o K)(hw:o.guard=none)(hd:o.dst=none)(hk: ∀v l',K v l'->Dk P ro N E ops Q rest fr ds l'):Dk P ro N E ops Q (o::rest) fr ds l:=
 we h hw (by rw[hd];rfl) λv l' hkv=>by rw[hd];exact hk v l' hkv
theorem oX{d:Nat}(h:OpQ P ro N fr l o v)(hw:o.guard=none)(hd:o.dst=some d)(hb:Nat.blt d N=true)(hk:Dk P ro N E ops Q rest ((d,v)::fr) ds l):Dk P ro N E ops Q (o::rest) fr ds l:=
 yw h hw (by rw[hd];exact hb) (by rw[hd];exact hk)
theorem VW{d:Nat}(h:OpQ P ro N fr l o v)(hw:o.guard=some (j,b))(hj:ops[j]?=some oj)(hjd:oj.dst=some dj)(hb:BU fr dj=some (.bool b))(hd:o.dst=some d)(hbl:Nat.blt d N=true)(hk:Dk P ro N E ops Q rest ((d,v)::fr) ds l):Dk P ro N E ops Q (o::rest) fr ds l:=
 wg h hw hj hjd hb (by rw[hd];exact hbl) (by rw[hd];exact hk)
theorem wk{d:Nat}(h:OpE P ro N fr l o K)(hw:o.guard=some (j,b))(hj:ops[j]?=some oj)(hjd:oj.dst=some dj)(hb:BU fr dj=some (.bool b))(hd:o.dst=some d)(hbl:Nat.blt d N=true)(hk: ∀v l',K v l'->Dk P ro N E ops Q rest ((d,v)::fr) ds l'):Dk P ro N E ops Q (o::rest) fr ds l:=
 tc h hw hj hjd hb (by rw[hd];exact hbl) λv l' hkv=>by rw[hd];exact hk v l' hkv
theorem wm{d:Nat}(hw:o.guard=some (j,b))(hj:ops[j]?=some oj)(hjd:oj.dst=some dj)(hb:BU fr dj=some (.bool b'))(hne:(b'==b)=false)(hd:o.dst=some d)(hbl:Nat.blt d N=true)(hk:Dk P ro N E ops Q rest ((d,undef)::fr) ds l):Dk P ro N E ops Q (o::rest) fr ds l:=
 wh hw hj hjd hb hne (by rw[hd];exact hbl) (by rw[hd];exact hk)
def P6(ops:Array Oper)(fr:Fr):Option (Nat×Bool)->Option Bool
 |none=>some true
 |some (j,b)=>match ops[j]? with
  |some oj=>match oj.dst with
   |some dj=>match BU fr dj with
    |some (.bool b')=>some (b'==b)
    |_=>none
   |none=>none
  |none=>none
theorem Kf{r:Bool}(h:P6 ops fr g=some r):(g=none/\r=true)\/ ∃j b oj dj b',g=some (j,b)/\ops[j]?=some oj/\oj.dst=some dj/\BU fr dj=some (.bool b')/\(b'==b)=r:=by
 cases g with
 |none=>exact .inl ⟨rfl,by cases h;rfl⟩
 |some jb=>
  obtain⟨j,b⟩:=jb;refine .inr ⟨j,b,?_⟩;unfold P6 at h;simp only at h
  split at h
  ·rename_i oj hoj
   split at h
   ·rename_i dj hdj
    split at h
    ·rename_i b' hb';exact⟨oj,dj,b',rfl,hoj,hdj,hb',by cases h;rfl⟩
    ·cases h
   ·cases h
  ·cases h
theorem Mv{d:Nat}(h:OpQ P ro N fr l o v)(hw:P6 ops fr o.guard=some true)(hd:o.dst=some d)(hb:Nat.blt d N=true)(hk:Dk P ro N E ops Q rest ((d,v)::fr) ds l):Dk P ro N E ops Q (o::rest) fr ds l:=by
 rcases Kf hw with⟨h1,_⟩|⟨j,b,oj,dj,b',h1,h2,h3,h4,h5⟩
 ·exact oX h h1 hd hb hk
 ·have:b'=b:=by simpa using h5
  subst this;exact VW h h1 h2 h3 h4 hd hb hk
theorem wn{d:Nat}(hw:P6 ops fr o.guard=some false)(hd:o.dst=some d)(hb:Nat.blt d N=true)(hk:Dk P ro N E ops Q rest ((d,undef)::fr) ds l):Dk P ro N E ops Q (o::rest) fr ds l:=by
 rcases Kf hw with⟨_,h1⟩|⟨j,b,oj,dj,b',h1,h2,h3,h4,h5⟩
 ·cases h1
 ·exact wm h1 h2 h3 h4 h5 hd hb hk
theorem UG(hs': ∀d v,BU fr' d=some v->BU fr d=some v)(h:BH P ro N E c Q fr' ds l):BH P ro N E c Q fr ds l:=⟨λa W hf hds hs=>h.run a W (hf.sub hs') hds hs⟩
theorem Rg{ip:Decidable p}(hc:BU fr t=some (.bool (@decide p ip)))(hp:p)(h:BH P ro N E x Q ((t,.bool true)::fr) ds l):BH P ro N E (.cond (.tmp t) x y) Q fr ds l:=by
 have hc':BU fr t=some (.bool true):=by rw[hc,At hp]
 exact Lt hc' (UG (Gd hc') h)
theorem Rh{ip:Decidable p}(hc:BU fr t=some (.bool (@decide p ip)))(hp:¬p)(h:BH P ro N E y Q ((t,.bool false)::fr) ds l):BH P ro N E (.cond (.tmp t) x y) Q fr ds l:=by
 have hc':BU fr t=some (.bool false):=by rw[hc,Av hp]
 exact Lu hc' (UG (Gd hc') h)
theorem lK{ip:Decidable p}(hc:BU fr t=some (.bool (@decide p ip)))(h1:p->BH P ro N E x Q ((t,.bool true)::fr) ds l)(h2:¬p->BH P ro N E y Q ((t,.bool false)::fr) ds l):BH P ro N E (.cond (.tmp t) x y) Q fr ds l:=by
 by_cases hp:p
 ·exact Rg hc hp (h1 hp)
 ·exact Rh hc hp (h2 hp)
theorem fI(hc:BU fr t=some (.bool b))(h1:b=true->BH P ro N E x Q ((t,.bool true)::fr) ds l)(h2:b=false->BH P ro N E y Q ((t,.bool false)::fr) ds l):BH P ro N E (.cond (.tmp t) x y) Q fr ds l:=by
 cases b with
 |true=>exact Lt hc (UG (Gd hc) (h1 rfl))
 |false=>exact Lu hc (UG (Gd hc) (h2 rfl))
theorem fJ(hs': ∀d v,BU fr' d=some v->BU fr d=some v)(h:Dk P ro N E ops Q rest fr' ds l):Dk P ro N E ops Q rest fr ds l:=⟨λa W hf hds hs=>h.run a W (hf.sub hs') hds hs⟩
theorem ZC{w:Bool}{ip:Decidable p}(hw:o.guard=some (j,w))(hj:ops[j]?=some oj)(hjd:oj.dst=some t)(hc:BU fr t=some (.bool (@decide p ip)))(hp:p)(h:Dk P ro N E ops Q (o::rest) ((t,.bool true)::fr) ds l):Dk P ro N E ops Q (o::rest) fr ds l:=by
 have hc':BU fr t=some (.bool true):=by rw[hc,At hp]
 exact fJ (Gd hc') h
theorem ZD{w:Bool}{ip:Decidable p}(hw:o.guard=some (j,w))(hj:ops[j]?=some oj)(hjd:oj.dst=some t)(hc:BU fr t=some (.bool (@decide p ip)))(hp:¬p)(h:Dk P ro N E ops Q (o::rest) ((t,.bool false)::fr) ds l):Dk P ro N E ops Q (o::rest) fr ds l:=by
 have hc':BU fr t=some (.bool false):=by rw[hc,Av hp]
 exact fJ (Gd hc') h
theorem tC{w:Bool}{ip:Decidable p}(hw:o.guard=some (j,w))(hj:ops[j]?=some oj)(hjd:oj.dst=some t)(hc:BU fr t=some (.bool (@decide p ip)))(h1:p->Dk P ro N E ops Q (o::rest) ((t,.bool true)::fr) ds l)(h2:¬p->Dk P ro N E ops Q (o::rest) ((t,.bool false)::fr) ds l):Dk P ro N E ops Q (o::rest) fr ds l:=by
 by_cases hp:p
 ·exact ZC hw hj hjd hc hp (h1 hp)
 ·exact ZD hw hj hjd hc hp (h2 hp)
theorem tD{w:Bool}(hw:o.guard=some (j,w))(hj:ops[j]?=some oj)(hjd:oj.dst=some t)(hc:BU fr t=some (.bool b))(h1:b=true->Dk P ro N E ops Q (o::rest) ((t,.bool true)::fr) ds l)(h2:b=false->Dk P ro N E ops Q (o::rest) ((t,.bool false)::fr) ds l):Dk P ro N E ops Q (o::rest) fr ds l:=
 lr t hc h1 h2
end
inductive Pick:List Ab->Ab->List Ab->Prop
 |here {c:Ab} {l:List Ab}:Pick (c::l) c l
 |there {c d:Ab} {l l':List Ab}:Pick l c l'->Pick (d::l) c (d::l')
theorem Pick.perm{l:List Ab}{c:Ab}(h:Pick l c l'):l.Perm (c::l'):=by
 induction h with
 |here=>exact Iy _
 |there _ ih=>exact(List.Perm.cons _ ih).trans (List.Perm.swap _ _ _)
structure Keep(L l:List Ab):Prop where
 ex: ∃g:List Ab,L.Perm (g++l)
theorem Keep.refl{l:List Ab}:Keep l l:=⟨[],Iy _⟩
theorem Keep.pick{l l1:List Ab}{c:Ab}(h:Pick l c l1)(k:Keep l1 l'):Keep l (c::l'):=by obtain⟨g,hg⟩:=k.ex;exact⟨g,h.perm.trans ((List.Perm.cons _ hg).trans AH.symm)⟩
theorem Keep.drop{l:List Ab}{c:Ab}(k:Keep l l'):Keep (c::l) l':=by obtain⟨g,hg⟩:=k.ex;exact⟨c::g,List.Perm.cons c hg⟩
theorem Keep.of_perm{l:List Ab}(p:l.Perm l'):Keep l l':=⟨[],p⟩
theorem Keep.right{l:List Ab}(k:Keep L l)(p:l.Perm l'):Keep L l':=by obtain⟨g,hg⟩:=k.ex;exact⟨g,hg.trans (Ex g p)⟩
theorem Keep.trans{l:List Ab}(k:Keep L l)(k':Keep l l'):Keep L l':=by obtain⟨g,hg⟩:=k.ex;obtain⟨g',hg'⟩:=k'.ex;exact⟨g++g',by rw[Am];exact hg.trans (Ex g hg')⟩
theorem Keep.mid{M l:List Ab}{c:Ab}(k:Keep L (c::(M++l))):Keep L (M++c::l):=k.right AH.symm
theorem Keep.sat{l:List Ab}(h:Keep l l'):Sat E l W->Sat E l' W:=by obtain⟨g,hg⟩:=h.ex;intro hs;exact(hs.perm hg).sub (List.sublist_append_right _ _)
section
variable{fr:Fr}{l:List Ab}{e:Exit}
theorem Bk(p:Keep l l')(h:Dk P ro N E ops Q rest fr ds l'):Dk P ro N E ops Q rest fr ds l:=⟨λa W hf hds hs=>h.run a W hf hds (p.sat hs)⟩
theorem D3(p:Keep l l')(h:BH P ro N E c Q fr ds l'):BH P ro N E c Q fr ds l:=⟨λa W hf hds hs=>h.run a W hf hds (p.sat hs)⟩
theorem JF(p:Keep l l')(h:CO N E Q e fr ds l'):CO N E Q e fr ds l:=⟨λa W hf hds hs=>h.run a W hf hds (p.sat hs)⟩
theorem Fn.keep{f:FuncId}(p:Keep l l')(h:Fn P f args l' K):Fn P f args l K:=⟨λE W hs=>h.run E W (p.sat hs)⟩
theorem CE(fx:α->Fr)(lx:α->List Ab)(pre:α->Prop)(μ:α->Nat)(x₀:α)(h0:pre x₀)(hf0:FSub (fx x₀) fr)(hl0:Keep l (lx x₀))
 (round: ∀x,pre x->BH P ro N E c (Exit.then (Zz N E fx ds lx pre μ x) Q) (fx x) ds (lx x)):BH P ro N E (.loop c) Q fr ds l:=D3 hl0 (pX fx lx pre μ x₀ h0 hf0 (Iy _) round)
theorem BV{fx:α->Fr}{lx:α->List Ab}{pre:α->Prop}{μ:α->Nat}{x:α}(y:α)(h1:pre y)(h2:μ y<μ x)(h3:FSub (fx y) fr)(h4:Keep l (lx y)):CO N E (Exit.then (Zz N E fx ds lx pre μ x) Q) .normal fr ds l:=
 JF h4 (pY y h1 h2 h3 (Iy _))
theorem BA(Ds:List Nat)(hr:fn.results=rs.toArray)(hp:Keep l (Ds.map Cf++l'))(h:ResS P fr l' rs vs)(hk:K (Iw vs) l'):
 CO N E (bodyPostM Fence.wide 0 P fn (RK E K)) .ret fr (Ds.map GU) l:=JF hp (tf Ds hr (Iy _) h hk)
theorem RK.keep{l2:List Ab}(p:Keep l2 l')(hk:K v l')(hs:Sat E l2 W):RK E K (.returned v) W:=⟨v,l',rfl,hk,p.sat hs⟩
theorem AW(Ds:List Nat)(l2:List Ab)(hr:fn.results=rs.toArray)(hp:Keep l (Ds.map Cf++l2))(h:ResS P fr l2 rs vs)(p2:Keep l2 l')(hk:K (Iw vs) l'):
 CO N E (bodyPostM Fence.wide 0 P fn (RK E K)) .ret fr (Ds.map GU) l:=by
 refine JF hp ⟨λa W hf hds hs=>?_⟩;show LeavesInM Fence.wide 0 P fn a.tmps (RK E K) a.defers .returning W;rw[hds];exact PE (v:=Iw vs) Ds W hs λW' hs'=>⟨P5 hr hf hs' h,RK.keep p2 hk hs'⟩
end
def oY(N:Nat)(E:World){α:Type}(fx:α->Fr)(dx:α->List Deferred)(lx:α->List Ab)(pre:α->Prop)(μ:α->Nat)(x:α)(a:Act)(W:World):Prop:=
 ∃y,pre y/\μ y<μ x/\FSat N (fx y) a/\a.defers=dx y/\Sat E (lx y) W
section
variable{fr:Fr}{l:List Ab}
theorem qc(fx:α->Fr)(dx:α->List Deferred)(lx:α->List Ab)(pre:α->Prop)(μ:α->Nat)(x₀:α)(h0:pre x₀)(hf0:FSub (fx x₀) fr)(hd0:ds=dx x₀)(hl0:Keep l (lx x₀))
 (round: ∀x,pre x->BH P ro N E c (Exit.then (oY N E fx dx lx pre μ x) Q) (fx x) (dx x) (lx x)):BH P ro N E (.loop c) Q fr ds l:=by
 refine⟨λa W hf hds hs=>?_⟩;refine wpIn_loop (λa W=> ∃x,pre x/\FSat N (fx x) a/\a.defers=dx x/\Sat E (lx x) W) (λa W=>Rc λn=> ∃x,pre x/\FSat N (fx x) a/\a.defers=dx x/\Sat E (lx x) W/\μ x=n) ⟨x₀,h0,hf.sub hf0.spec,hds.trans hd0,hl0.sat hs⟩ ?_;intro a W hI;have hex: ∃n,∃x,pre x/\FSat N (fx x) a/\a.defers=dx x/\Sat E (lx x) W/\μ x=n:=by obtain⟨x,h1,h2,h3,h4⟩:=hI;exact⟨_,x,h1,h2,h3,h4,rfl⟩
 obtain⟨⟨x,h1,h2,h3,h4,h5⟩,_⟩:=KL hex;refine wpIn_mono ((round x h1).run a W h2 h3 h4) ?_;intro e a' W' hq;cases e with
 |normal=>obtain⟨y,k1,k2,k3,k4,k5⟩:=hq;refine⟨⟨y,k1,k3,k4,k5⟩,?_⟩;exact D8 ((KL (p:=λn=> ∃x,pre x/\FSat N (fx x) a'/\a'.defers=dx x/\Sat E (lx x) W'/\μ x=n) ⟨_,y,k1,k3,k4,k5,rfl⟩).2 (μ y) ⟨y,k1,k3,k4,k5,rfl⟩) (by rw[<-h5];exact k2)
 |_=>exact hq
theorem qd{fx:α->Fr}{dx:α->List Deferred}{lx:α->List Ab}{pre:α->Prop}{μ:α->Nat}{x:α}(y:α)(h1:pre y)(h2:μ y<μ x)(h3:FSub (fx y) fr)(hd:ds=dx y)(h4:Keep l (lx y)):CO N E (Exit.then (oY N E fx dx lx pre μ x) Q) .normal fr ds l:=
 ⟨λa W hf hds hs=>⟨y,h1,h2,hf.sub h3.spec,hds.trans hd,h4.sat hs⟩⟩
end
structure Fa(P:Program)(gf:Nat)(lb:List Value){α:Type}(enc:α->List Value)(S Sp:List α->Prop)(Need:List α->List Ab->Prop):Prop where
 run: ∀(r:Nat) (I Ix:List α->List Ab->Prop) (G0:List Ab),(∀pre l G,(∀c,c∈G0->c∈G)->I pre l->Need pre (l++G))->
  (∀pre x l G,(∀c,c∈G0->c∈G)->I pre l->Sp (pre++[x])->MX P r (enc x) (l++G) (λv l'=> ∃l1,l'=l1++G/\((v= .bool true/\I (pre++[x]) l1)\/(v= .bool false/\Ix (pre++[x]) l1))))->
  ∀l G,(∀c,c∈G0->c∈G)->I [] l->Fn P gf (.func (.yield r) #[] #[]::lb) (l++G) (λv l'=> ∃l1,l'=l1++G/\((∃xs,S xs/\I xs l1)\/(∃pre,Sp pre/\Ix pre l1)))
def JG{α:Type}(I:List α->List Ab->Prop)(Ix:Code->List α->List Ab->Prop)(xs:List α)(r:Nat)(rec:LoopState->Option Code->Loop)(T:List Ab):Value->List Ab->Prop:=λv l'=>
 (v= .bool true/\ ∃l1,I xs l1/\l'=l1++(r,.loop (rec .ready none))::T)\/(v= .bool false/\ ∃c l1,Ix c xs l1/\l'=l1++(r,.loop (rec .done (some c)))::T)
def Dz(fn:FuncId)(tmps:Array Value)(ps:Array Tmp)(assign body:Code)(D:Nat)(st:LoopState)(pe:Option Code):Loop:={state:=st,pending:=pe,fn,tmps,params:=ps,assign,body,defers:=D}
def Ow(P:Program)(r:Nat)(body:Code)(Q:Exit->Act->World->Prop):Act->World->Prop:=λa w=> ∃w2,(Instr.beginRound r).run P w= .ok () w2/\body.wpIn (Fw (some r)) 0 P Q a w2
def DG:List Nat->List Value->Fr->Fr
 |p::ps,v::vs,fr=>DG ps vs ((p,v)::fr)
 |_,_,fr=>fr
theorem Tx{N:Nat}: ∀(ps:List Nat) (vs:List Value) (fr:Fr) (a:Act) (ds:List Deferred),FSat N fr a->ps.all (λp=>Nat.blt p N)=true->
 FSat N (DG ps vs fr) {tmps:=(ps.zip vs).foldl (λt (p,v)=>t.setIfInBounds p v) a.tmps,defers:=ds}
 |[],vs,fr,a,ds,hf,_=>⟨hf.size,hf.at_⟩
 |p::ps,[],fr,a,ds,hf,_=>⟨hf.size,hf.at_⟩
 |p::ps,v::vs,fr,a,ds,hf,hb=>by simp only[HE,AR] at hb;have h1:FSat N ((p,v)::fr) (a.put (some p) v):=FSat.put (d:=some p) hf v hb.1;exact Tx ps vs _ _ ds h1 hb.2
section
variable{fr:Fr}{fn:FuncId}{ps:Array Tmp}{T:List Ab}{I:List α->List Ab->Prop}{Ix:Code->List α->List Ab->Prop}{xs:List α}
theorem Cy{L':List Ab}{Qx:Exit->Act->World->Prop}(hu:Upd L r (.loop (Dz fn tmps ps assign body D .ready none)) (.loop (Dz fn tmps ps assign body D .busy none)) L')(h:BH P (some r) N E body Q fr ds L'):CO N E (Exit.then (Ow P r body Q) Qx) .normal fr ds L:=
 ⟨λa W hf hds hs=>⟨_,run_beginRound (hs.has _ hu.mem) rfl,h.run a _ hf hds (hs.upd hu)⟩⟩
theorem Fg(l:List Ab)(b:Nat)(o o':Obj)(T:List Ab):Upd (l++(b,o)::T) b o o' (l++(b,o')::T):=by
 induction l with
 |nil=>exact .here
 |cons c l ih=>exact .there ih
theorem B0(l1:List Ab)(hk:Keep L (l1++(r,.loop (Dz fn tmps ps assign body D .busy none))::T))(hI:I xs l1):CO N E (roundPost P r (RK E (JG I Ix xs r (Dz fn tmps ps assign body D) T))) .normal fr ds L:=
 ⟨λa W hf hds hs=>by have hs:=hk.sat hs;have hm:W.heap[r]?=some (.loop (Dz fn tmps ps assign body D .busy none)):=hs.has (r,_) (by simp);refine⟨_,_,run_endRound none hm,_,_,rfl,.inl ⟨rfl,l1,hI,rfl⟩,hs.upd (Fg _ _ _ _ _)⟩⟩
theorem Eg(l1:List Ab)(hk:Keep L (l1++(r,.loop (Dz fn tmps ps assign body D .busy none))::T))(hI:Ix .ret xs l1):CO N E (roundPost P r (RK E (JG I Ix xs r (Dz fn tmps ps assign body D) T))) .ret fr ds L:=
 ⟨λa W hf hds hs=>by have hs:=hk.sat hs;have hm:W.heap[r]?=some (.loop (Dz fn tmps ps assign body D .busy none)):=hs.has (r,_) (by simp);refine⟨_,_,run_endRound (some .ret) hm,_,_,rfl,.inr ⟨rfl,.ret,l1,hI,rfl⟩,hs.upd (Fg _ _ _ _ _)⟩⟩
theorem EE(l1:List Ab)(hk:Keep L (l1++(r,.loop (Dz fn tmps ps assign body D .busy none))::T))(hI:Ix (.exit k) xs l1):CO N E (roundPost P r (RK E (JG I Ix xs r (Dz fn tmps ps assign body D) T))) (.exit k) fr ds L:=
 ⟨λa W hf hds hs=>by have hs:=hk.sat hs;have hm:W.heap[r]?=some (.loop (Dz fn tmps ps assign body D .busy none)):=hs.has (r,_) (by simp);refine⟨_,_,run_endRound (some (.exit k)) hm,_,_,rfl,.inr ⟨rfl,.exit k,l1,hI,rfl⟩,hs.upd (Fg _ _ _ _ _)⟩⟩
end
structure oZ(P:Program)(gf:Nat)(lb:List Value){α:Type}(enc:α->List Value)(S Sp:List α->Prop)(Need:List α->List Ab->Prop)(C:List Ab):Prop where
 run: ∀(r:Nat) (I Ix:List α->List Ab->Prop) (G0:List Ab),(∀pre l G,(∀c,c∈G0->c∈G)->I pre l->Need pre (l++G))->
  (∀pre x l G,(∀c,c∈G0->c∈G)->I pre l->Sp (pre++[x])->MX P r (enc x) (l++G) (λv l'=> ∃l1,l'=l1++G/\((v= .bool true/\I (pre++[x]) l1)\/(v= .bool false/\Ix (pre++[x]) l1))))->
  ∀l G,(∀c,c∈G0->c∈G)->I [] l->Fn P gf (.func (.yield r) #[] #[]::lb) (l++(C++G)) (λv l'=> ∃l1,l'=l1++G/\((∃xs,S xs/\I xs l1)\/(∃pre,Sp pre/\Ix pre l1)))
section
variable{fr:Fr}{g:Operand}{ps:List Tmp}{gf:Nat}{lb:List Value}{enc:α->List Value}{S Sp:List α->Prop}{Need:List α->List Ab->Prop}
theorem Ri{fn:FuncId}{T:List Ab}{I:List α->List Ab->Prop}{Ix:Code->List α->List Ab->Prop}{pre:List α}{x:α}{l:List Ab}(hps:(enc x).length=ps.length)(hpb:ps.all (λp=>Nat.blt p N)=true)(hf: ∀a:Act,a.tmps=tmps->FSat N fr a)
 (h: ∀E,BH P (some r) N E assign (Exit.then (Ow P r body (roundPost P r (RK E (JG I Ix (pre++[x]) r (Dz fn tmps ps.toArray assign body D) T)))) (λ_ _ _=>False)) (DG ps (enc x) fr) [] (l++(r,.loop (Dz fn tmps ps.toArray assign body D .ready none))::T)):
 MX P r (enc x) (l++(r,.loop (Dz fn tmps ps.toArray assign body D .ready none))::T) (JG I Ix (pre++[x]) r (Dz fn tmps ps.toArray assign body D) T):=by
 refine⟨λE W hs=>?_⟩;have hm:W.heap[r]?=some (.loop (Dz fn tmps ps.toArray assign body D .ready none)):=hs.has (r,_) (by simp);refine⟨fn,_,assign,body,run_yield hm (by simp[Dz,hps]),roundIn_of_wpIn trivial ?_⟩;refine(h E).run _ W ?_ rfl hs;have:=Tx ps (enc x) fr {tmps:=tmps,defers:=[]} [] (hf _ rfl) hpb;have e:(Array.zip ps.toArray (enc x).toArray)=(ps.zip (enc x)).toArray:=by simp
 show FSat N _ {tmps:=(Array.zip ps.toArray (enc x).toArray).foldl (λt (p,v)=>t.setIfInBounds p v) tmps,defers:=[]};rw[e,List.foldl_toArray];exact this
theorem VX(hg:ev fr g=some (.func (.func gf) #[] lb.toArray))[en:EN P gf]{C:List Ab}(hit:oZ P gf lb enc S Sp Need C)(hps: ∀x,(enc x).length=ps.length)(hpb:ps.all (λp=>Nat.blt p N)=true)
 (I:List α->List Ab->Prop)(Ix:Code->List α->List Ab->Prop)(l0 G:List Ab)(hneed: ∀pre l X,(∀c,c∈G->c∈X)->I pre l->Need pre (l++X))(hL:Keep L (l0++(C++G)))(h0:I [] l0)
 (hround: ∀(E:World) (r:Nat) (rec:LoopState->Option Code->Loop) (pre:List α) (x:α) (l T:List Ab),(∃fn tmps D,rec=Dz fn tmps ps.toArray assign body D)->(∀c,c∈G->c∈T)->I pre l->Sp (pre++[x])->
   BH P (some r) N E assign (Exit.then (Ow P r body (roundPost P r (RK E (JG I Ix (pre++[x]) r rec T)))) (λ_ _ _=>False)) (DG ps (enc x) fr) [] (l++(r,.loop (rec .ready none))::T))
 (hdone: ∀(D:Nat) (xs:List α) (l:List Ab),S xs->I xs l->CO N E Q .normal fr (GU D::ds) (Cf D::(l++G)))
 (hstop: ∀(D:Nat) (c:Code) (pre:List α) (l:List Ab),Sp pre->Ix c pre l->BH P none N E c Q fr (GU D::ds) (Cf D::(l++G))):
 BH P none N E (.rangeFunc g ps.toArray assign body) Q fr ds L:=by
 refine⟨λa W hf hds hs=>wpIn_rangeFunc ?_⟩;intro fn hfn;have hs:=hL.sat hs;obtain⟨rec,hrec⟩: ∃rec,rec=Dz fn a.tmps ps.toArray assign body W.heap.size:=⟨_,rfl⟩
 obtain⟨W1,hW1⟩: ∃W1,(W.alloc (.deferred (some []))).alloc (.loop (rec .ready none))=W1:=⟨_,rfl⟩
 have hs1:Sat E ((W.heap.size+1,.loop (rec .ready none))::(W.heap.size,.deferred (some []))::(l0++(C++G))) W1:=by have:=(hs.alloc (.deferred (some []))).alloc (.loop (rec .ready none));rw[World.size_alloc,hW1] at this;exact this
 have hev:=hf.agrees g _ hg;refine⟨W.heap.size+1,[GU W.heap.size],W1,{target:= .fn (.func gf) lb.toArray,args:=#[.func (.yield (W.heap.size+1)) #[] #[]]},W1,gf,#[.func (.yield (W.heap.size+1)) #[] #[]]++lb.toArray,W1,?_,?_,λ_ _=>trivial,?_,λh=>(by cases h),?_⟩
 ·rw[<-hW1,hrec];exact run_enterLoop_outer _ _ _ _ _
 ·simp only[resolve,hev];simp[Deferred.ofValue,Act.eval]
 ·simp[invoke,en.out]
 ·have hR:=hit.run (W.heap.size+1)
   (λpre l=> ∃l1,I pre l1/\l=l1++[(W.heap.size+1,.loop (rec .ready none)),Cf W.heap.size])
   (λpre l=> ∃c l1,Ix c pre l1/\l=l1++[(W.heap.size+1,.loop (rec .done (some c))),Cf W.heap.size])
   G
   (λpre l G' hG ⟨l1,h1,h2⟩=>by rw[h2,Am];exact hneed _ _ _ (λc hc=>Aa _ (hG c hc)) h1)
   (λpre x l G' hG ⟨l1,h1,h2⟩ hsp=>by
     subst h2;have hy:=Ri (P:=P) (N:=N) (fr:=fr) (assign:=assign) (body:=body) (ps:=ps) (enc:=enc) (r:=W.heap.size+1) (fn:=fn) (tmps:=a.tmps) (D:=W.heap.size) (T:=Cf W.heap.size::G') (I:=I) (Ix:=Ix) (pre:=pre) (x:=x) (l:=l1) (hps x) hpb
      (λa' ha'=>⟨by rw[ha'];exact hf.size,λd v hd=>by rw[ha'];exact hf.at_ d v hd⟩) (λE'=>by have:=hround E' (W.heap.size+1) rec pre x l1 (Cf W.heap.size::G') ⟨fn,a.tmps,W.heap.size,hrec⟩ (λc hc=>An _ (hG c hc)) h1 hsp;rw[hrec] at this;exact this)
     rw[<-hrec] at hy;refine⟨λE' W' hs'=>?_⟩;have e:l1++[(W.heap.size+1,Obj.loop (rec .ready none)),Cf W.heap.size]++G'=l1++(W.heap.size+1,Obj.loop (rec .ready none))::Cf W.heap.size::G':=by simp
     rw[e] at hs';obtain⟨fn',tm,asg,bo,k1,k2⟩:=hy.run E' W' hs';refine⟨fn',tm,asg,bo,k1,k2.mono ?_⟩;rintro e' W'' ⟨v,l',rfl,hk,hs''⟩;refine⟨v,l',rfl,?_,hs''⟩;rcases hk with⟨hv,l2,hI,rfl⟩|⟨hv,c,l2,hI,rfl⟩
     ·exact⟨l2++[(W.heap.size+1,.loop (rec .ready none)),Cf W.heap.size],by simp,.inl ⟨hv,l2,hI,rfl⟩⟩
     ·exact⟨l2++[(W.heap.size+1,.loop (rec .done (some c))),Cf W.heap.size],by simp,.inr ⟨hv,c,l2,hI,rfl⟩⟩)
   (l0++[(W.heap.size+1,.loop (rec .ready none)),Cf W.heap.size]) G (λ_ h=>h) ⟨l0,h0,rfl⟩
  have hs2:Sat E (l0++[(W.heap.size+1,Obj.loop (rec .ready none)),Cf W.heap.size]++(C++G)) W1:=hs1.perm (by refine List.Perm.trans ?_ (Iz (C++G) (Ey (l₁:=[(W.heap.size+1,Obj.loop (rec .ready none)),Cf W.heap.size]) (l₂:=l0)));simp[Cf])
  have hc:=hR.run E W1 hs2;have eargs:(Value.func (.yield (W.heap.size+1)) #[] #[]::lb).toArray=#[.func (.yield (W.heap.size+1)) #[] #[]]++lb.toArray:=by simp
  rw[eargs] at hc;refine LR (hc.mono ?_);rintro e W2 ⟨v,l',rfl,⟨l1,rfl,⟨xs,hS,l2,hI,rfl⟩|⟨pre,hSp,c,l2,hI,rfl⟩⟩,hs3⟩
  ·have hm:W2.heap[W.heap.size+1]?=some (.loop (rec .ready none)):=hs3.has (W.heap.size+1,_) (by simp);subst hrec;refine⟨none,_,run_endLoop (P:=P) hm (by simp[Dz]),?_⟩;refine(hdone W.heap.size xs l2 hS hI).run {a with defers:=[GU W.heap.size]++a.defers} _ ⟨hf.size,hf.at_⟩ (by rw[<-hds];rfl) ?_;have h4:Sat E (l2++(W.heap.size+1,Obj.loop (Dz fn a.tmps ps.toArray assign body W.heap.size .ready none))::Cf W.heap.size::G) W2:=by simpa using hs3
   have h5:=h4.upd (Fg l2 _ _ (.loop {Dz fn a.tmps ps.toArray assign body W.heap.size .ready none with state:= .exhausted}) _);refine(h5.perm AH).tail.perm AH
  ·have hm:W2.heap[W.heap.size+1]?=some (.loop (rec .done (some c))):=hs3.has (W.heap.size+1,_) (by simp);subst hrec;refine⟨some c,_,run_endLoop (P:=P) hm (by simp[Dz]),?_⟩;refine(hstop W.heap.size c pre l2 hSp hI).run {a with defers:=[GU W.heap.size]++a.defers} _ ⟨hf.size,hf.at_⟩ (by rw[<-hds];rfl) ?_;have h4:Sat E (l2++(W.heap.size+1,Obj.loop (Dz fn a.tmps ps.toArray assign body W.heap.size .done (some c)))::Cf W.heap.size::G) W2:=by simpa using hs3
   have h5:=h4.upd (Fg l2 _ _ (.loop {Dz fn a.tmps ps.toArray assign body W.heap.size .done (some c) with state:= .exhausted}) _);refine(h5.perm AH).tail.perm AH
theorem C0(hg:ev fr g=some (.func (.func gf) #[] lb.toArray))[en:EN P gf](hit:Fa P gf lb enc S Sp Need)(hps: ∀x,(enc x).length=ps.length)(hpb:ps.all (λp=>Nat.blt p N)=true)
 (I:List α->List Ab->Prop)(Ix:Code->List α->List Ab->Prop)(l0 G:List Ab)(hneed: ∀pre l X,(∀c,c∈G->c∈X)->I pre l->Need pre (l++X))(hL:Keep L (l0++G))(h0:I [] l0)
 (hround: ∀(E:World) (r:Nat) (rec:LoopState->Option Code->Loop) (pre:List α) (x:α) (l T:List Ab),(∃fn tmps D,rec=Dz fn tmps ps.toArray assign body D)->(∀c,c∈G->c∈T)->I pre l->Sp (pre++[x])->
   BH P (some r) N E assign (Exit.then (Ow P r body (roundPost P r (RK E (JG I Ix (pre++[x]) r rec T)))) (λ_ _ _=>False)) (DG ps (enc x) fr) [] (l++(r,.loop (rec .ready none))::T))
 (hdone: ∀(D:Nat) (xs:List α) (l:List Ab),S xs->I xs l->CO N E Q .normal fr (GU D::ds) (Cf D::(l++G)))
 (hstop: ∀(D:Nat) (c:Code) (pre:List α) (l:List Ab),Sp pre->Ix c pre l->BH P none N E c Q fr (GU D::ds) (Cf D::(l++G))):
 BH P none N E (.rangeFunc g ps.toArray assign body) Q fr ds L:=
 VX hg (C:=[]) ⟨λr I Ix G0 h1 h2 l G h3 h4=>hit.run r I Ix G0 h1 h2 l G h3 h4⟩ hps hpb I Ix l0 G hneed hL h0 hround hdone hstop
end
end Go.Proofs.YtlkgekpmileobaaGreat
