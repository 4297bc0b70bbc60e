/- Laws. -/
import Derived.WalkKit
import Derived.ProofKit
import Derived.OpenShut
import Derived.ChangeOld
import Derived.Below
import Derived.Deep.Slices
import Derived.Handy
import Derived.RangeFuncNested
import Derived.RangeFuncBound
import Derived.RangeFuncCalls
import Derived.RangeFuncLeaves
import Derived.Shelf.Abstract
import Derived.Shelf.RegionOpen
import Derived.OwnWalkIn
import Derived.TacticsInMore
import Derived.LoopNIn
import Derived.LoopIn
import Derived.WalkSmall
import Derived.Lib.Hide
import Derived.BigFrameIn
import Derived.BigRegion
import Derived.Deep.QuietTactic
import Derived.BigQuiet
import Derived.WalkMore
import Derived.KernelRfl
namespace Go.Proofs
@[match_pattern]abbrev ι(x:Int):Value:=.int .i64 x
@[match_pattern]abbrev υ(x:Int):Value:=.int .u64 x
@[match_pattern]abbrev π(b:Nat):Value:=.pointer (some ⟨b,0,none⟩)
theorem ξ{α:Sort _}(a:α): ∃x,a=x:=⟨a,rfl⟩
theorem ν{α:Type _}{a b:α}{l:List α}:b∈a::b::l:=.tail _ (.head _)
theorem ω{α:Type _}{a b c:α}{l:List α}:c∈a::b::c::l:=.tail _ ν
theorem η{α:Type _}{a b c d:α}{l:List α}:d∈a::b::c::d::l:=.tail _ ω
abbrev BK:=@Array.getElem?_eq_some_iff
abbrev Ev:=@List.foldl_cons
abbrev H9:=@Option.bind_some
abbrev Ad:=@if_pos
abbrev An:=@List.mem_cons_of_mem
abbrev Al:=@List.mem_cons_self
abbrev Ah:=@List.length_append
abbrev Ab:=@if_neg
abbrev Gj:=@Nat.succ_mul
abbrev I3:=@Option.bind_eq_some_iff
abbrev Aw:=@List.getElem?_eq_some_iff
abbrev Ak:=@List.getElem?_eq_getElem
abbrev CK:=@List.take_length
abbrev Bf:=@Nat.le_refl
abbrev Bm:=@Nat.zero_le
abbrev Ax:=@List.mem_map
abbrev A7:=@List.getElem?_map
abbrev Fu:=@List.getElem?_range
abbrev BY:=@Option.map_some
abbrev Dl:=@Option.getD_some
abbrev CQ:=@Array.getElem?_eq_getElem
abbrev Ec:=@List.sublist_cons_self
abbrev AK:=@List.map_cons
abbrev AQ:=@List.nodup_cons
abbrev Au:=@List.mem_cons
abbrev DK:=@Iff.rfl
abbrev Bn:=@Bool.false_eq_true
abbrev Dt:=@Array.getD_eq_getD_getElem?
abbrev FU:=@Nat.eq_of_beq_eq_true
abbrev GC:=@Array.getElem?_setIfInBounds_ne
abbrev MF:=@Nat.le_of_not_lt
abbrev Ex:=@Nat.lt_of_le_of_lt
abbrev CV:=@if_true
abbrev C0:=@if_false
abbrev Ed:=@Option.map_eq_some_iff
abbrev De:=@List.getElem?_cons_succ
abbrev AF:=@List.getElem?_toArray
abbrev By:=@List.length_cons
abbrev Lf:=@Array.append_empty
abbrev BQ:=@Array.toList_inj
abbrev LT:=@Array.toList_push
abbrev Gk:=@Array.toList_extract
abbrev Co:=@List.extract_eq_take_drop
abbrev Am:=@List.append_assoc
abbrev Ce:=@List.singleton_append
abbrev CR:=@List.drop_eq_getElem_cons
abbrev Iz:=@Nat.add_assoc
abbrev CM:=@Nat.add_zero
abbrev Lg:=@Array.empty_append
abbrev Dm:=@List.map_toArray
abbrev CZ:=@List.map_nil
abbrev BB:=@List.setIfInBounds_toArray
abbrev Cq:=@List.set_append_right
abbrev E7:=@List.set_cons_zero
abbrev Bk:=@List.length_singleton
abbrev BG:=@Nat.zero_add
abbrev KY:=@Nat.add_comm
abbrev Aq:=@decide_eq_true
abbrev Av:=@decide_eq_false
abbrev Jk:=@List.Perm.refl
abbrev AJ:=@List.perm_middle
abbrev E2:=@List.Perm.append_left
abbrev IA:=@List.all_cons
abbrev AM:=@Bool.and_eq_true
abbrev Aa:=@List.mem_append_right
abbrev Jl:=@List.Perm.append_right
abbrev E3:=@List.perm_append_comm
abbrev AS:=@List.all_eq_true
abbrev DA:=@Bool.or_eq_true
abbrev Hw:=@beq_iff_eq
abbrev A3:=@decide_eq_true_eq
abbrev LU:=@Array.getElem_mem
abbrev P0:=@bne_iff_ne
abbrev Ck:=@List.pairwise_cons
abbrev FW:=@Ne.symm
abbrev AB:=@List.mem_append
abbrev Ai:=@List.mem_append_left
abbrev At:=@List.map_append
abbrev Ae:=@List.cons_append
abbrev Br:=@List.pairwise_append
abbrev G1:=@List.append_of_mem
abbrev KP:=@List.Sublist.append
abbrev EP:=@List.Sublist.refl
abbrev Bj:=@List.append_nil
abbrev Ag:=@List.nil_append
abbrev Cj:=@List.cons.injEq
abbrev JM:=@List.contains_iff_mem
abbrev Ia:=@List.any_eq_true
abbrev Ei:=@Bool.not_eq_true'
abbrev D6:=@List.nodup_iff_pairwise_ne
abbrev Cz:=@List.pairwise_map
abbrev GG:=@List.length_eq_zero_iff
abbrev GH:=@true_and
abbrev BM:=@congrArg
abbrev A5:=@List.length_map
abbrev Jm:=@Option.some.injEq
abbrev IR:=@List.getElem?_take
abbrev G3:=@List.getElem?_drop
abbrev FE:=@Nat.add_mul
abbrev Ej:=@List.eq_nil_of_length_eq_zero
abbrev Bz:=@List.size_toArray
abbrev Gl:=@Nat.mul_le_mul_right
abbrev DR:=@List.length_drop
abbrev AH:=@List.getElem?_append_left
abbrev Lh:=@Nat.pos_of_ne_zero
abbrev Dn:=@List.ext_getElem?
abbrev BN:=@List.replicate_succ
abbrev CA:=@List.flatten_cons
abbrev DB:=@Nat.mod_eq_of_lt
abbrev AW:=@List.getElem?_append_right
abbrev KQ:=@Nat.succ_eq_add_one
abbrev Li:=@Nat.mod_eq_sub_mod
abbrev MG:=@Array.toList_map
abbrev Lj:=@Array.toList_range
abbrev Hx:=@Nat.mod_lt
abbrev GI:=@List.getElem!_eq_getElem?_getD
abbrev Bi:=@List.getElem?_eq_none
abbrev Dx:=@Nat.sub_self
abbrev DP:=@Option.map_none
abbrev Df:=@List.getElem?_cons_zero
abbrev Et:=@List.eq_of_mem_replicate
abbrev Iq:=@Array.toList_modify
abbrev JJ:=@List.eraseIdxIfInBounds_toArray
abbrev Du:=@List.eraseIdx_eq_take_drop_succ
abbrev Hm:=@List.map_take
abbrev Cr:=@List.mem_filter
abbrev Ib:=@List.getElem_mem
abbrev BH:=@List.find?_cons
abbrev G4:=@Nat.zero_mul
abbrev Hy:=@Bool.not_false
abbrev Bg:=@List.mem_of_getElem?
abbrev Ic:=@List.nil_sublist
abbrev AC:=@List.perm_append_comm_assoc
abbrev Jn:=@Nat.mul_le_mul
abbrev Cm:=@List.Sublist.subset
abbrev BA:=@Bool.true_and
abbrev Bl:=@Bool.false_and
abbrev Cs:=@List.take_append_drop
abbrev GJ:=@List.foldl_nil
abbrev DL:=@List.drop_of_length_le
abbrev Lk:=@List.drop_drop
abbrev IL:=@List.headD_cons
abbrev EW:=@List.length_nil
abbrev Hz:=@Std.Legacy.Range.forIn_eq_forIn_range'
abbrev LV:=@List.mem_range'_1
abbrev CB:=@List.flatMap_cons
abbrev Hb:=@List.take_left'
abbrev JU:=@List.drop_append
abbrev Fi:=@List.extract_toArray
abbrev CN:=@Nat.add_sub_cancel_left
abbrev BC:=@List.nodup_append
abbrev LW:=@Nat.lt_succ_of_lt
abbrev Ay:=@List.mem_singleton
abbrev Id:=@Nat.lt_succ_self
abbrev Je:=@List.eraseIdx_append_of_length_le
abbrev Ll:=@List.findIdx?_cons
abbrev AV:=@Int.toNat_natCast
abbrev EX:=@Nat.min_eq_left
abbrev D7:=@BitVec.ofInt_natCast
abbrev Ey:=@BitVec.toNat_ofNat
abbrev MH:=@BitVec.toNat_and
abbrev KA:=@Nat.and_le_left
abbrev B9:=@Nat.le_trans
abbrev KB:=@Int.natCast_mul
abbrev Mp:=@Bool.false_or
abbrev Nb:=@Nat.mul_comm
abbrev Fz:=@Array.getElem?_eq_none
abbrev Jo:=@List.tail_cons
abbrev JK:=@List.replicate_append_replicate
abbrev Dq:=@Array.ext_getElem?
abbrev EE:=@List.getElem?_replicate
abbrev BP:=@List.take_add_one
abbrev BL:=@List.take_prefix
abbrev BD:=@List.take_of_length_le
abbrev Eg:=@List.flatMap_append
abbrev CO:=@List.map_map
abbrev IM:=@List.drop_left'
abbrev C4:=@List.length_take
abbrev IN:=@Int.emod_nonneg
abbrev FI:=@List.mem_flatMap
abbrev BR:=@List.not_mem_nil
abbrev EF:=@or_false
abbrev Jf:=@List.set_eq_take_append_cons_drop
abbrev HA:=@List.set_append_left
abbrev IS:=@List.set_cons_succ
abbrev Hp:=@List.getElem?_set
abbrev Do:=@of_decide_eq_true
abbrev Jg:=@List.findIdx?_eq_some_iff_getElem
abbrev Ke:=@List.getElem?_of_mem
abbrev Hc:=@List.takeWhile_append_of_pos
abbrev FK:=@List.takeWhile_cons_of_neg
abbrev HC:=@List.dropWhile_cons_of_neg
abbrev Il:=@List.pairwise_iff_getElem
abbrev Ci:=@List.takeWhile_append_dropWhile
abbrev HE:=@List.takeWhile_cons_of_pos
abbrev Jp:=@List.dropWhile_sublist
abbrev Dw:=@Nat.mul_one
abbrev Gm:=@List.length_eraseIdx
abbrev Ht:=@Array.getElem?_setIfInBounds_self_of_lt
abbrev Cx:=@List.range_succ
abbrev DM:=@List.filter_append
abbrev FJ:=@List.filter_cons
abbrev Hd:=@List.prefix_rfl
abbrev G5:=@List.prefix_append
abbrev C9:=@List.mem_range
abbrev Ek:=@List.find?_append
abbrev Bp:=@List.find?_eq_none
abbrev Eb:=@List.find?_some
abbrev BE:=@List.mem_of_find?_eq_some
abbrev Hq:=@List.idxOf_lt_length_of_mem
abbrev HF:=@List.IsPrefix.subset
abbrev Db:=@List.length_filter_le
abbrev Fl:=@Nat.le_succ_of_le
abbrev IB:=@Option.isSome_iff_exists
abbrev AZ:=@Option.some.inj
abbrev Jq:=@Bool.and_false
abbrev IU:=@Option.isSome_some
abbrev I4:=@List.filter_cons_of_neg
abbrev KC:=@Nat.div_le_self
abbrev DX:=@Nat.testBit_eq_decide_div_mod_eq
abbrev IC:=@and_true
abbrev D8:=@Nat.lt_of_lt_of_le
abbrev Cp:=@Nat.pow_le_pow_right
abbrev ER:=@Nat.testBit_lt_two_pow
abbrev FL:=@Option.isSome_none
abbrev FM:=@List.perm_ext_iff_of_nodup
abbrev IV:=@List.all_takeWhile
abbrev A4:=@List.getD_eq_getElem?_getD
abbrev Bs:=@List.map_congr_left
abbrev Fs:=@Nat.two_pow_pos
abbrev I5:=@Nat.testBit_mod_two_pow
abbrev Fo:=@Nat.testBit_div_two_pow
abbrev Kf:=@Nat.eq_of_testBit_eq
abbrev DN:=@Array.getElem?_extract
abbrev Ee:=@List.getElem?_set_self
abbrev Eu:=@Prod.ext
abbrev Gn:=@List.getElem?_set_ne
abbrev He:=@List.dropLast_cons_of_ne_nil
abbrev MI:=@List.cons_ne_nil
abbrev JV:=@List.dropLast_append_of_ne_nil
abbrev Es:=@List.takeWhile_prefix
abbrev KR:=@List.takeWhile_cons
abbrev Hf:=@List.dropLast_concat_getLast
abbrev Gu:=@List.Sublist.append_left
abbrev CS:=@List.mem_or_eq_of_mem_set
abbrev KD:=@Bool.eq_iff_iff
abbrev Fp:=@decide_eq_false_iff_not
abbrev AN:=@List.getElem_toArray
abbrev AL:=@List.getElem_cons_zero
abbrev IW:=@decide_eq_true_iff
abbrev CE:=@List.length_set
abbrev Gv:=@List.mem_of_mem_eraseIdx
abbrev Gw:=@not_not_intro
abbrev DU:=@List.toList_toArray
abbrev Jr:=@List.set_set
abbrev Ie:=@List.map_set
abbrev JN:=@List.IsPrefix.getElem
abbrev Im:=@List.getElem_append_right
abbrev Fq:=@List.length_range
abbrev JO:=@List.length_replicate
abbrev KE:=@Bool.toNat_true
abbrev MJ:=@Bool.toNat_false
abbrev El:=@List.foldl_append
abbrev Hg:=@List.take_range
abbrev JW:=@List.append_inj'
abbrev AX:=@List.getElem_cons_succ
abbrev GV:=@decide_true
abbrev If:=@decide_false
abbrev I6:=@List.prefix_iff_eq_take
abbrev Mq:=@Bool.toNat_le
abbrev Em:=@Prod.mk.inj
abbrev Eo:=@Classical.not_not
abbrev Mr:=@List.cons.inj
abbrev E8:=@List.find?_eq_some_iff_getElem
abbrev Ga:=@List.mem_take_iff_getElem
theorem Af{p:Prop}(h:p:=by omega):p:=h
theorem Bu{p:Prop}(h:p:=by kernel_rfl):p:=h
theorem A0{p:Prop}(h:p:=by decide):p:=h
abbrev Ap:=List Value
abbrev A8:=List Int
end Go.Proofs
set_option maxHeartbeats 4000000
set_option linter.all false
namespace Go.Proofs.YtlifcingifodfaaGreat
open List renaming toArray→τ
open Go.ChangeShapes Go.WideShapes Go.ChangeAt Go.RowKit Go.Deep
variable{v:Value}{a ks:List (Option IntKind)}{x:Ap}{r:Reach}{b0:Nat}{t:TypeId}{p:List MemPlace}
def yv:Option IntKind->Value->Prop
 |some k,v=> ∃a:Int,v= .int k a/\(Lit.int k a).wf=true
 |none,v=> ∃b:Bool,v= .bool b
def AllIs:List (Option IntKind)->Ap->Prop
 |[],cs=>cs=[]
 |k::ks,cs=> ∃c r,cs=c::r/\yv k c/\AllIs ks r
theorem AllIs.append{b:List (Option IntKind)}{y:Ap}(h:AllIs a x)(k:AllIs b y):AllIs (a++b) (x++y):=by
 induction a generalizing x with
 |nil=>cases h;exact k
 |cons q a ih=>obtain⟨c,r,rfl,h1,h2⟩:=h;exact⟨c,r++y,rfl,h1,ih h2⟩
theorem AllIs.len(h:AllIs a x):x.length=a.length:=by
 induction a generalizing x with
 |nil=>cases h;rfl
 |cons q a ih=>obtain⟨c,r,rfl,h1,h2⟩:=h;simp[ih h2]
def Oq(P:Program):Nat->TypeId->Option (List (Option IntKind))
 |0,_=>none
 |n+1,t=>
  match P.underlying t with
  |some (.int k)=>some [some k]
  |some .bool=>some [none]
  |some (.struct fs)=>fs.toList.foldl (λacc f=>acc.bind λl=>(Oq P n f.type).bind λks=>if f.offset=l.length/\ks.length=P.cellsOf f.type then some (l++ks) else none) (some []) |>.bind λks=>if ks.length=P.cellsOf t then some ks else none
  |some (.array len e)=>(Oq P n e).bind λks=>if ks.length=P.cellsOf e/\len*P.cellsOf e=P.cellsOf t then some ((List.replicate len ks).flatten) else none
  |_=>none
theorem Ng{α β:Type}(g:List α->β->Option (List α))(fs:List β):fs.foldl (λacc f=>acc.bind λl=>g l f) none=none:=by
 induction fs with
 |nil=>rfl
 |cons f fs ih=>simpa using ih
theorem Tz{w:World}{a:Addr}(h:w.cell? a=some v):a.block<w.heap.size/\True:=by
 refine⟨?_,trivial⟩;unfold World.cell? at h
 split at h
 ·rename_i ho;exact(BK.1 ho).1
 ·cases h
section
variable{H:Type}{enc:TypeId×Value->H}{P:Program}{w:World}{Tu:Nat}{Tv:Nat->Bool}{aJ:Bool}
theorem YH(n m:Nat)(ih: ∀(t:TypeId) (m:Nat) (cs:Ap) (x:DataW H×List MemPlace) (ks:List (Option IntKind)),DataW.trod enc P w Tu Tv aJ m t cs=some x->Oq P n t=some ks->AllIs ks cs)(cs:Ap):
 ∀(fs:List Field) (l ks:List (Option IntKind)),(∀f∈fs,∃x,DataW.trod enc P w Tu Tv aJ m f.type ((cs.drop f.offset).take (P.cellsOf f.type))=some x)->
  AllIs l (cs.take l.length)->fs.foldl (λacc f=>acc.bind λl=>(Oq P n f.type).bind λks=>if f.offset=l.length/\ks.length=P.cellsOf f.type then some (l++ks) else none) (some l)=some ks->AllIs ks (cs.take ks.length):=by
 intro fs
 induction fs with
 |nil=>intro l ks _ hl h;simp at h;subst h;exact hl
 |cons f fs ihf=>
  intro l ks hx hl h;simp only[Ev,H9] at h;cases hk:Oq P n f.type with
  |none=>rw[hk] at h;simp only[Option.bind_none] at h;rw[Ng] at h;cases h
  |some kf=>
   rw[hk] at h;simp only[H9] at h;by_cases hc:f.offset=l.length/\kf.length=P.cellsOf f.type
   ·rw[Ad hc] at h;refine ihf _ _ (λg hg=>hx g (An _ hg)) ?_ h;obtain⟨x,hxf⟩:=hx f Al;have:=ih f.type m _ x kf hxf hk;rw[Ah,List.take_add,<-hc.1];rw[<-hc.2] at this;rw[hc.1] at this⊢;exact hl.append this
   ·rw[Ab hc,Ng] at h;cases h
theorem iA(n m:Nat)(e:TypeId)(ks:List (Option IntKind))(ih: ∀(cs:Ap) (x:DataW H×List MemPlace),DataW.trod enc P w Tu Tv aJ m e cs=some x->AllIs ks cs)(cs:Ap)(hk:ks.length=P.cellsOf e):
 ∀(k:Nat),(∀i,i<k-> ∃x,DataW.trod enc P w Tu Tv aJ m e ((cs.drop (i*P.cellsOf e)).take (P.cellsOf e))=some x)->AllIs ((List.replicate k ks).flatten) (cs.take (k*P.cellsOf e)):=by
 intro k
 induction k with
 |zero=>intro _;simp[AllIs]
 |succ k ihk=>intro h;have h1:=ihk (λi hi=>h i Af);obtain⟨x,hx⟩:=h k Af;have h2:=ih _ x hx;rw[Gj,List.take_add,List.replicate_succ',List.flatten_append];simpa using h1.append h2
theorem VV: ∀(n:Nat) (t:TypeId) (m:Nat) (cs:Ap) (x:DataW H×List MemPlace) (ks:List (Option IntKind)),DataW.trod enc P w Tu Tv aJ m t cs=some x->Oq P n t=some ks->AllIs ks cs:=by
 intro n
 induction n with
 |zero=>intro t m cs x ks _ h;simp[Oq] at h
 |succ n ih=>
  intro t m cs x ks hx h;unfold Oq at h
  split at h
  ·rename_i k ht;obtain⟨a,rfl,_,wa⟩:=DataW.trod_int ht hx;cases h;exact⟨_,_,rfl,⟨a,rfl,wa⟩,rfl⟩
  ·rename_i ht;obtain⟨b,rfl,_⟩:=DataW.trod_bool ht hx;cases h;exact⟨_,_,rfl,⟨b,rfl⟩,rfl⟩
  ·rename_i fs ht;obtain⟨xs,m',_,_,hl,Ef,hf⟩:=DataW.trod_struct ht hx;obtain⟨k0,hk0,ld⟩:=I3.1 h;by_cases hc:k0.length=P.cellsOf t
   ·rw[Ad hc] at ld;cases ld;have:=YH n m' ih cs fs.toList [] ks (λf hfm=>by
     obtain⟨i,hi,he⟩:=List.getElem_of_mem hfm;have h0:=hf i f (by rw[<-Array.getElem?_toList];exact Aw.2 ⟨hi,he⟩);have hix:i<xs.length:=by rw[Ef];simpa using hi
     exact⟨xs[i],by rw[h0];exact Ak hix⟩) rfl hk0
    rwa [hc,<-hl,CK] at this
   ·rw[Ab hc] at ld;cases ld
  ·rename_i len e ht;obtain⟨xs,m',_,_,hl,Ef,hf⟩:=DataW.trod_array ht hx;cases hk:Oq P n e with
   |none=>rw[hk] at h;cases h
   |some ke=>
    rw[hk] at h;simp only[H9] at h;by_cases hc:ke.length=P.cellsOf e/\len*P.cellsOf e=P.cellsOf t
    ·rw[Ad hc] at h;cases h;have:=iA n m' e ke (λcs' x' kH=>ih e m' cs' x' ke kH hk) cs hc.1 len (λi hi=>by
      have h0:=hf i hi;have hix:i<xs.length:=by omega
      exact⟨xs[i],by rw[h0];exact Ak hix⟩)
     rwa [hc.2,<-hl,CK] at this
    ·rw[Ab hc] at h;cases h
  ·cases h
theorem iB{d:DataW H}(n:Nat)
 (qN:(match P.underlying t with|some (.struct _)|some (.array _ _)=>true|_=>false)=true)(hk:Oq P n t=some ks)
 (hv:Value.okWide P w r b0 t v)(h:DataW.Trod enc P w Tu Tv aJ t v d p): ∃cs:Ap,v= .agg cs.toArray/\AllIs ks cs:=by
 obtain⟨cs,rfl⟩: ∃cs,v= .agg cs:=by
  unfold Value.okWide at hv
  split at hv
  ·obtain⟨cs,h1,_⟩:=hv;exact⟨cs,h1⟩
  ·obtain⟨cs,h1,_⟩:=hv;exact⟨cs,h1⟩
  ·rename_i h1 h2
   split at qN
   ·rename_i hu;exact absurd hu (h1 _)
   ·rename_i hu;exact absurd hu (h2 _ _)
   ·cases qN
 obtain⟨Yy,hf⟩:=h;simp only[Value.cells] at hf;exact⟨cs.toList,by simp,VV n t Yy _ _ ks hf hk⟩
structure Xd(ks:List (Option IntKind))(w:World)(a:Option Addr)(len cap:Nat)(rows:List (Ap)):Prop where
 nil:a=none->len=0/\cap=0
 le:len<=cap
 max:cap<=maxLen
 size:rows.length=len
 all: ∀r∈rows,AllIs ks r
 at_:0<len-> ∃b off,a=some ⟨b,off,none⟩/\b<w.heap.size/\ ∀i j,i<len->j<ks.length->w.cell? ⟨b,off+i*ks.length+j,none⟩=(rows[i]?.getD [])[j]?
theorem iC{e:TypeId}{d:DataW H}(n:Nat)
 (ht:P.underlying t=some (.slice e))(hk:Oq P n e=some ks)(aB:ks.length=P.cellsOf e)(xD:0<P.cellsOf e)
 (hv:Value.okWide P w r b0 t v)(h:DataW.Trod enc P w Tu Tv aJ t v d p):
 ∃a len cap rows,v= .slice a len cap/\Xd ks w a len cap rows:=by
 obtain⟨a0,len,cap,rfl⟩:=okWide_slice ht hv;obtain⟨Yy,hf⟩:=h;simp only[Value.cells] at hf;rcases open_slice ht hf with⟨OR,_⟩|⟨a,len',cap',m,n',D,Pl,OR,hb,hl,hm,hmm,_,xE⟩
 ·simp at OR;obtain⟨rfl,rfl,rfl⟩:=OR;exact⟨none,0,0,[],rfl,⟨λ_=>⟨rfl,rfl⟩,Bf _,Bm _,rfl,by simp,by simp⟩⟩
 ·simp at OR;obtain⟨rfl,rfl,rfl⟩:=OR;have hlm:len<=m:=by rw[hmm];split<;>omega
  have hch: ∀i,i<len-> ∃cs',w.cells? Tu (a.add (i*P.cellsOf e)) (P.cellsOf e)=some cs'/\AllIs ks cs':=λi hi=>by obtain⟨cs',h1,h2⟩:=xE i Af;exact⟨cs',h1,VV n e n' cs' _ ks h2 hk⟩
  refine⟨some a,len,cap,(List.range len).map λi=>(w.cells? Tu (a.add (i*P.cellsOf e)) (P.cellsOf e)).getD [],rfl,⟨by simp,hl,hm,by simp,?_,?_⟩⟩
  ·intro r hr;obtain⟨i,hi,rfl⟩:=Ax.1 hr;obtain⟨cs',h1,h2⟩:=hch i (by simpa using hi);rw[h1];exact h2
  ·intro h0;obtain⟨cs0,h1,h2⟩:=hch 0 h0;obtain⟨_,ru,qO⟩:=World.cells?_some h1;have xF:=qO 0 xD;have lg:0<cs0.length:=by omega
   rw[Ak lg] at xF;have DG:=World.cell?_spot xF;obtain⟨b,off,spot⟩:=a;simp[Addr.add] at DG;subst DG;refine⟨b,off,rfl,?_,λi j hi hj=>?_⟩
   ·have:=(Tz xF).1;simpa[Addr.add] using this
   ·obtain⟨cs',h1,h2⟩:=hch i hi;obtain⟨_,aC,rv⟩:=World.cells?_some h1;have:=rv j Af;simp only[A7,Fu hi,BY,Dl,h1];rw[<-this,aB];congr 1;unfold Addr.add;by_cases hi0:i*P.cellsOf e=0
    ·rw[Ad hi0,hi0];by_cases xG:j=0
     ·rw[Ad xG];simp[xG]
     ·rw[Ab xG];simp
    ·rw[Ab hi0];by_cases xG:j=0
     ·rw[Ad xG];simp[xG]
     ·rw[Ab xG]
end
end Go.Proofs.YtlifcingifodfaaGreat
namespace Go.Proofs.YtlifcingifodfaaGreat
open List renaming toArray→τ
open Go.RowKit
variable{t k n e N f b i s j off' yb cap ft m:Nat}{P:Program}{cs wc ws:Array Value}{α:Type}{v u:Value}{T ty src dst:TypeId}{a:Act}{ro:Option Nat}{fz:Nat×Nat}{vs r cs':Ap}{W E:World}{c x y:Code}{o oj:Oper}{xs:List Operand}{fn:Func}{ki k':IntKind}{o':Obj}{R:Ending->World->Prop}{p:Option Addr}{ρ:Operand->Value}{ds:List Deferred}{Kx:Act->World->Prop}{rs:List ResultVar}{pos:String}{g:Option (Nat×Bool)}{z:Operand}{q:Bool}
theorem YI{c:Array Value}{t:TypeId}{fr:Nat×Nat}(h:W.heap[b]?=some (.cells c t fr)): ∀i,W.cell? ⟨b,i,none⟩=c[i]?:=λi=>by simp[World.cell?,h]
theorem rU{c:Array Value}{t:TypeId}{fr:Nat×Nat}(h:W.heap[b]?=some (.cells c t fr))(v:Value):(W.setCell ⟨b,i,none⟩ v).heap[b]?=some (.cells (c.setIfInBounds i v) t fr):=by obtain⟨C7,hk⟩:=BK.1 h;show(W.heap.modify b _)[b]?=_;rw[CQ (by rw[Array.size_modify];exact C7),Array.getElem_modify_self,hk];rfl
theorem Kg{b:Frame}{k:List Item}{cs:List Frame}{w:World}:step P (lone (b.atR a (.code (.scope c)::k)) cs w)= .next (lone (b.atR a (.code c:: .inScope c::k)) cs w):=
 step_lone_go (by simp[stepG,stepG.exec,Frame.atR])
theorem VB{b:Frame}{k:List Item}{cs:List Frame}{w:World}:step P (lone (b.atR a (.inScope c::k)) cs w)= .next (lone (b.atR a k) cs w):=
 step_lone_go (by simp[stepG,stepG.exec,Frame.atR])
theorem aW{F:Fence}{Q:Exit->Act->World->Prop}{w:World}(h:c.wpIn F n P (Exit.noGoto Q) a w):(Code.scope c).wpIn F n P Q a w:=by
 intro b k cs qP hb hr;have h0:(lone (b.atR a (.code (.scope c)::k)) cs w).fenced P F:=fenced_calm hb hr rfl;obtain⟨e,a₁,w₁,hq,harr⟩:=h b (.inScope c::k) cs qP hb hr;cases e with
 |normal=>exact⟨.normal,a₁,w₁,hq,.head h0 Kg (StepsIn.trans harr (.one (fenced_calm hb hr rfl) VB))⟩
 |exit id=>exact⟨.exit id,a₁,w₁,hq,.of_steps (.one h0 Kg) ⟨λk' hk=>harr.1 k' (by simp[exitTo,hk]),λVi hk=>harr.2 Vi (by simp[exitTo,hk])⟩⟩
 |goto l=>exact hq.elim
 |ret=>exact⟨_,a₁,w₁,hq,.of_steps (.one h0 Kg) harr⟩
 |panic ch=>exact⟨_,a₁,w₁,hq,.of_steps (.one h0 Kg) harr⟩
 |outgrown=>exact⟨_,a₁,w₁,hq,.of_steps (.one h0 Kg) harr⟩
abbrev Bh:=Nat×Obj
abbrev Ac:=List Bh
variable{l':Ac}{K:Value->Ac->Prop}
structure Sat(E:World)(l:Ac)(W:World):Prop where
 os:W.os=E.os
 tape:W.tape=E.tape
 output:W.output=E.output
 nodup:(l.map Prod.fst).Nodup
 has: ∀c,c∈l->W.heap[c.1]?=some c.2
section
variable{l:Ac}{c:Bh}{o:Obj}
theorem Sat.perm(h:Sat E l W)(p:l.Perm l'):Sat E l' W:=
 ⟨h.os,h.tape,h.output,(p.map _).nodup_iff.1 h.nodup,λc hc=>h.has c (p.mem_iff.2 hc)⟩
theorem Sat.sub(h:Sat E l W)(s:l'.Sublist l):Sat E l' W:=
 ⟨h.os,h.tape,h.output,List.Nodup.sublist (s.map _) h.nodup,λc hc=>h.has c (s.subset hc)⟩
theorem Sat.tail(h:Sat E (c::l) W):Sat E l W:=h.sub (Ec _ _)
theorem Sat.lt(h:Sat E l W)(hc:c∈l):c.1<W.heap.size:=(BK.1 (h.has c hc)).1
theorem Sat.drawn(h:Sat E l W)(n:Nat):Sat E l {W with drawn:=n}:=⟨h.os,h.tape,h.output,h.nodup,h.has⟩
theorem Sat.drew(h:Sat E l W):Sat E l W.drew:=⟨h.os,h.tape,h.output,h.nodup,h.has⟩
theorem Sat.alloc(h:Sat E l W)(o:Obj):Sat E ((W.heap.size,o)::l) (W.alloc o):=by
 refine⟨h.os,h.tape,h.output,?_,λc hc=>?_⟩
 ·rw[AK,AQ];refine⟨λhm=>?_,h.nodup⟩;obtain⟨c,hc,he⟩:=Ax.1 hm;have:=h.lt hc;simp only at he;omega
 ·rcases Au.1 hc with rfl|hc
  ·exact World.alloc_heap_new W o
  ·exact(Below.heap_alloc W o c.1 (h.lt hc)).trans (h.has c hc)
inductive Upd:Ac->Nat->Obj->Obj->Ac->Prop
 |here {l:Ac} {b:Nat} {o o':Obj}:Upd ((b,o)::l) b o o' ((b,o')::l)
 |there {l l':Ac} {b:Nat} {o o':Obj} {c:Bh}:Upd l b o o' l'->Upd (c::l) b o o' (c::l')
theorem Upd.mem(h:Upd l b o o' l'):(b,o)∈l:=by
 induction h with
 |here=>exact Al
 |there _ ih=>exact An _ ih
theorem Upd.keys(h:Upd l b o o' l'):l'.map Prod.fst=l.map Prod.fst:=by
 induction h with
 |here=>rfl
 |there _ ih=>simp[ih]
theorem Upd.inv(h:Upd l b o o' l'): ∀c,c∈l'->c=(b,o')\/c∈l:=by
 induction h with
 |here=>intro c hc;rcases Au.1 hc with rfl|hc
        ·exact .inl rfl
        ·exact .inr (An _ hc)
 |there _ ih=>intro c hc;rcases Au.1 hc with rfl|hc
              ·exact .inr Al
              ·exact(ih c hc).imp id (An _)
theorem iD{l:Ac}(h:(l.map Prod.fst).Nodup){o:Obj}(h1:(b,o)∈l)(h2:(b,o')∈l):o=o':=by
 induction l with
 |nil=>cases h1
 |cons c l ih=>
  rw[AK,AQ] at h;rcases Au.1 h1 with e1|h1<;>rcases Au.1 h2 with e2|h2
  ·rw[<-e1] at e2;cases e2;rfl
  ·exact absurd (Ax.2 ⟨_,h2,by rw[<-e1]⟩) h.1
  ·exact absurd (Ax.2 ⟨_,h1,by rw[<-e2]⟩) h.1
  ·exact ih h.2 h1 h2
theorem Upd.other(h:Upd l b o o' l')(hn:(l.map Prod.fst).Nodup): ∀c,c∈l'->c=(b,o')\/(c∈l/\c.1≠b):=by
 intro c hc;by_cases hb:c.1=b
 ·left;obtain⟨k,x⟩:=c;simp only at hb;subst hb;have hm:(k,o')∈l':=by
   clear hc hn
   induction h with
   |here=>exact Al
   |there _ ih=>exact An _ ih
  rw[iD (by rw[h.keys];exact hn) hc hm]
 ·rcases h.inv c hc with rfl|hc
  ·exact absurd rfl hb
  ·exact .inr ⟨hc,hb⟩
theorem Sat.upd(h:Sat E l W)(u:Upd l b o o' l'):Sat E l' (W.putObj b o'):=by
 refine⟨h.os,h.tape,h.output,by rw[u.keys];exact h.nodup,λc hc=>?_⟩;rcases u.other h.nodup c hc with rfl|⟨hm,GS⟩
 ·exact World.putObj_heap_same (h.lt u.mem)
 ·exact(World.putObj_heap_other GS).trans (h.has c hm)
theorem Sat.setCell{t:TypeId}(h:Sat E l W)(u:Upd l b (.cells cs t fz) (.cells (cs.setIfInBounds i v) t fz) l'):Sat E l' (W.setCell ⟨b,i,none⟩ v):=by
 refine⟨h.os,h.tape,h.output,by rw[u.keys];exact h.nodup,λc hc=>?_⟩;rcases u.other h.nodup c hc with rfl|⟨hm,GS⟩
 ·exact rU (h.has _ u.mem) v
 ·exact(Below.heap_setCell _ _ _ _ GS).trans (h.has c hm)
theorem Sat.cell{t:TypeId}(h:Sat E l W)(hm:(b,Obj.cells cs t fz)∈l)(i:Nat):W.cell? ⟨b,i,none⟩=cs[i]?:=YI (h.has _ hm) i
theorem Sat.frz{t:TypeId}(h:Sat E l W)(hm:(b,Obj.cells cs t fz)∈l)(i:Nat):W.frozen? ⟨b,i,none⟩=(decide (fz.1<=i)&&decide (i<fz.2)):=by obtain⟨lo,hi⟩:=fz;simp[World.frozen?,h.has _ hm]
end
def sl(P:Program){α:Type}:Sem α->Ac->(α->Ac->Prop)->Prop
 | .pure a,l,Q=>Q a l
 | .load _ a k,l,Q=> ∃c t fz v,(a.block,Obj.cells c t fz)∈l/\a.spot=none/\c[a.off]?=some v/\sl P (k v) l Q
 | .store _ a v k,l,Q=>v.oneCell'=true/\ ∃c t fz l',Upd l a.block (.cells c t fz) (.cells (c.setIfInBounds a.off v) t fz) l'/\a.spot=none/\a.off<c.size/\(decide (fz.1<=a.off)&&decide (a.off<fz.2))=false/\sl P k l' Q
 | .new o k,l,Q=> ∀b,(∀c,c∈l->c.1≠b)->sl P (k b) ((b,o)::l) Q
 | .shape r k,l,Q=> ∃c t fz,(r,Obj.cells c t fz)∈l/\sl P (k (some (t,c.size))) l Q
 | .frozen a k,l,Q=> ∃c t fz,(a.block,Obj.cells c t fz)∈l/\a.spot=none/\sl P (k (decide (fz.1<=a.off)&&decide (a.off<fz.2))) l Q
 | .getObj r k,l,Q=> ∃o,(r,o)∈l/\o.isCells=false/\sl P (k o) l Q
 | .setObj r o' k,l,Q=> ∃o l',Upd l r o o' l'/\o.isCells=false/\sl P k l' Q
 | .choose q k,l,Q=> ∀t,sl P (k (if q.forced then 0 else q.cut t)) l Q
 | .program k,l,Q=>sl P (k P) l Q
 | .mark _ k,l,Q=>sl P k l Q
 | .halt _,_,_=>False
 | .freeze ..,_,_=>False
 | .sys ..,_,_=>False
theorem rV{Q Q':α->Ac->Prop}(hq: ∀a l,Q a l->Q' a l)(s:Sem α): ∀l,sl P s l Q->sl P s l Q':=by
 induction s with
 |pure a=>exact λl h=>hq _ _ h
 |load m a k ih=>rintro l ⟨c,t,fz,v,h1,h2,h3,h4⟩;exact⟨c,t,fz,v,h1,h2,h3,ih _ _ h4⟩
 |store m a v k ih=>rintro l ⟨h0,c,t,fz,l',h1,h2,h3,h4,h5⟩;exact⟨h0,c,t,fz,l',h1,h2,h3,h4,ih _ h5⟩
 |new o k ih=>exact λl h b hb=>ih _ _ (h b hb)
 |shape r k ih=>rintro l ⟨c,t,fz,h1,h2⟩;exact⟨c,t,fz,h1,ih _ _ h2⟩
 |frozen a k ih=>rintro l ⟨c,t,fz,h1,h2,h3⟩;exact⟨c,t,fz,h1,h2,ih _ _ h3⟩
 |getObj r k ih=>rintro l ⟨o,h1,h2,h3⟩;exact⟨o,h1,h2,ih _ _ h3⟩
 |setObj r o' k ih=>rintro l ⟨o,l',h1,h2,h3⟩;exact⟨o,l',h1,h2,ih _ h3⟩
 |choose q k ih=>exact λl h t=>ih _ _ (h t)
 |program k ih=>exact λl h=>ih _ _ h
 |mark m k ih=>exact λl h=>ih _ h
 |halt h=>exact λl h=>h
 |freeze a n k ih=>exact λl h=>h
 |sys c k ih=>exact λl h=>h
theorem AE{β:Type}{Q:β->Ac->Prop}{f:α->Sem β}(s:Sem α): ∀l,sl P (s>>=f) l Q<->sl P s l (λa l'=>sl P (f a) l' Q):=by
 show∀l,sl P (s.bind f) l Q<->_
 induction s with
 |pure a=>exact λl=>DK
 |load m a k ih=>intro l;simp only[Sem.bind,sl,ih]
 |store m a v k ih=>intro l;simp only[Sem.bind,sl,ih]
 |new o k ih=>intro l;simp only[Sem.bind,sl,ih]
 |shape r k ih=>intro l;simp only[Sem.bind,sl,ih]
 |frozen a k ih=>intro l;simp only[Sem.bind,sl,ih]
 |getObj r k ih=>intro l;simp only[Sem.bind,sl,ih]
 |setObj r o' k ih=>intro l;simp only[Sem.bind,sl,ih]
 |choose q k ih=>intro l;simp only[Sem.bind,sl,ih]
 |program k ih=>intro l;simp only[Sem.bind,sl,ih]
 |mark m k ih=>intro l;simp only[Sem.bind,sl,ih]
 |halt h=>exact λl=>DK
 |freeze a n k ih=>exact λl=>DK
 |sys c k ih=>exact λl=>DK
theorem Bq{Q:α->Ac->Prop}(a:α)(l:Ac):sl P (pure a:Sem α) l Q<->Q a l:=DK
theorem lP{Q:α->Ac->Prop}(s:Sem α): ∀(l:Ac) (W:World),sl P s l Q->Sat E l W-> ∃a W' l',s.run P W= .ok a W'/\Q a l'/\Sat E l' W':=by
 induction s with
 |pure a=>exact λl W h hs=>⟨a,W,l,rfl,h,hs⟩
 |load m a k ih=>rintro l W ⟨c,t,fz,v,h1,h2,h3,h4⟩ hs;obtain⟨x,W',l',hr,hq,hs'⟩:=ih v l W h4 hs;obtain⟨ab,ao,asp⟩:=a;simp only at h2 h3 h1;subst h2;exact⟨x,W',l',by simp[Sem.run,hs.cell h1,h3,hr],hq,hs'⟩
 |store m a v k ih=>rintro l W ⟨h0,c,t,fz,l1,h1,h2,h3,h4,h5⟩ hs;obtain⟨ab,ao,asp⟩:=a;simp only at h2 h3 h1 h4;subst h2;obtain⟨x,W',l',hr,hq,hs'⟩:=ih l1 _ h5 (hs.setCell h1);refine⟨x,W',l',?_,hq,hs'⟩;have hc:=hs.cell h1.mem ao;rw[CQ h3] at hc;have hf:=(hs.frz h1.mem ao).trans h4;cases v<;>simp only[Value.oneCell',Bn] at h0<;>simp[Sem.run,hc,hf,hr]
 |new o k ih=>intro l W h hs;obtain⟨x,W',l',hr,hq,hs'⟩:=ih W.heap.size _ (W.alloc o) (h W.heap.size (λc hc=>by have:=hs.lt hc;omega)) (hs.alloc o);exact⟨x,W',l',hr,hq,hs'⟩
 |shape r k ih=>
  rintro l W ⟨c,t,fz,h1,h2⟩ hs;obtain⟨x,W',l',hr,hq,hs'⟩:=ih _ l W h2 hs;refine⟨x,W',l',?_,hq,hs'⟩;have:W.shape? r=some (t,c.size):=by simp[World.shape?,hs.has _ h1]
  simp[Sem.run,this,hr]
 |frozen a k ih=>rintro l W ⟨c,t,fz,h1,h2,h3⟩ hs;obtain⟨ab,ao,asp⟩:=a;simp only at h2 h3 h1;subst h2;obtain⟨x,W',l',hr,hq,hs'⟩:=ih _ l W h3 hs;exact⟨x,W',l',by simp only[Sem.run,hs.frz h1];exact hr,hq,hs'⟩
 |getObj r k ih=>rintro l W ⟨o,h1,h2,h3⟩ hs;obtain⟨x,W',l',hr,hq,hs'⟩:=ih _ l W h3 hs;refine⟨x,W',l',?_,hq,hs'⟩;have:=hs.has _ h1;simp only at this;cases o<;>first|(simp[Obj.isCells] at h2;done)|simp[Sem.run,this,hr]
 |setObj r o' k ih=>rintro l W ⟨o,l1,h1,h2,h3⟩ hs;obtain⟨x,W',l',hr,hq,hs'⟩:=ih l1 _ h3 (hs.upd h1);refine⟨x,W',l',?_,hq,hs'⟩;have:=hs.has _ h1.mem;simp only at this;simp only[World.putObj] at hr;cases o<;>first|(simp[Obj.isCells] at h2;done)|simp[Sem.run,this,hr]
 |choose q k ih=>
  intro l W h hs;by_cases hf:q.forced=true
  ·obtain⟨x,W',l',hr,hq,hs'⟩:=ih _ l W (h 0) hs;refine⟨x,W',l',?_,hq,hs'⟩;rw[Ad hf] at hr;simp[Sem.run,hf,hr]
  ·obtain⟨x,W',l',hr,hq,hs'⟩:=ih _ l {W with drawn:=W.drawn+1} (h (W.tape W.drawn q)) (hs.drawn _);refine⟨x,W',l',?_,hq,hs'⟩;rw[Ab hf] at hr;simp only[Bool.not_eq_true] at hf;simp[Sem.run,hf];exact hr
 |program k ih=>exact λl W h hs=>ih _ l W h hs
 |mark m k ih=>exact λl W h hs=>ih l W h hs
 |halt h=>exact λl W h hs=>h.elim
 |freeze a n k ih=>exact λl W h hs=>h.elim
 |sys c k ih=>exact λl W h hs=>h.elim
abbrev Fr:=List (Nat×Value)
variable{fr':Fr}
def Cc:Fr->Nat->Option Value
 |[],_=>none
 |(k,v)::r,d=>bif Nat.beq k d then some v else Cc r d
structure FSat(N:Nat)(fr:Fr)(a:Act):Prop where
 size:a.tmps.size=N
 at_: ∀d v,Cc fr d=some v->a.tmps[d]?=some v
def ev(fr:Fr):Operand->Option Value
 | .tmp t=>Cc fr t
 | .const v=>some v
 | .global g=>some (π g)
 | .func f=>some (.func (.func f) #[] #[])
def SC(fr:Fr):List Operand->Option (Ap)
 |[]=>some []
 |x::r=>match ev fr x,SC fr r with
  |some v,some vs=>some (v::vs)
  |_,_=>none
def Agrees(fr:Fr)(ρ:Operand->Value):Prop:= ∀x v,ev fr x=some v->ρ x=v
theorem FSat.agrees{fr:Fr}(h:FSat N fr a):Agrees fr a.eval:=by
 intro x v hx;cases x with
 |tmp t=>have:=h.at_ t v hx;simp[Act.eval,Dt,this]
 |const u=>cases hx;rfl
 |global g=>cases hx;rfl
 |func f=>cases hx;rfl
theorem Agrees.list{fr:Fr}(h:Agrees fr ρ): ∀{xs:List Operand} {vs:Ap},SC fr xs=some vs->xs.map ρ=vs
 |[],vs,e=>by cases e;rfl
 |x::r,vs,e=>by
  unfold SC at e
  split at e
  ·rename_i v us h1 h2;cases e;rw[AK,h x v h1,h.list h2]
  ·cases e
def ID(d:Option Nat)(v:Value)(fr:Fr):Fr:=match d with|some d=>(d,v)::fr|none=>fr
def Kh(N:Nat):Option Nat->Bool
 |some d=>Nat.blt d N
 |none=>true
theorem FSat.put{fr:Fr}(h:FSat N fr a){d:Option Nat}(v:Value)(hd:Kh N d=true):FSat N (ID d v fr) (a.put d v):=by
 cases d with
 |none=>exact h
 |some d=>
  have C7:d<N:=by simpa[Kh,Nat.blt_eq] using hd
  refine⟨by simp[Act.put,h.size],λk u hk=>?_⟩;simp only[ID,Cc] at hk;simp only[Act.put];by_cases e:d=k
  ·subst e;simp at hk;subst hk;simp[h.size,C7]
  ·have:Nat.beq d k=false:=by
    cases hb:Nat.beq d k
    ·rfl
    ·exact absurd (FU hb) e
   rw[this] at hk;rw[GC e];exact h.at_ k u hk
theorem FSat.sub{fr:Fr}(h:FSat N fr a)(hs: ∀d v,Cc fr' d=some v->Cc fr d=some v):FSat N fr' a:=⟨h.size,λd v hd=>h.at_ d v (hs d v hd)⟩
def FSub:Fr->Fr->Prop
 |[],_=>True
 |(d,v)::r,fr=>Cc fr d=some v/\FSub r fr
theorem FSub.spec: ∀{fr' fr:Fr},FSub fr' fr-> ∀d v,Cc fr' d=some v->Cc fr d=some v
 |[],_,_,d,v,hd=>by cases hd
 |(k,u)::r,fr,h,d,v,hd=>by
  unfold Cc at hd;cases hb:Nat.beq k d
  ·rw[hb] at hd;exact h.2.spec d v hd
  ·rw[hb] at hd;have:=FU hb;subst this;simp at hd;subst hd;exact h.1
def Xe:Nat->Ap->Fr
 |_,[]=>[]
 |i,v::r=>(i,v)::Xe (i+1) r
theorem TA: ∀(l:Ap) (i d:Nat) (v:Value),Cc (Xe i l) d=some v->i<=d/\l[d-i]?=some v
 |[],i,d,v,h=>by cases h
 |u::r,i,d,v,h=>by
  unfold Xe Cc at h;cases hb:Nat.beq i d
  ·rw[hb] at h;obtain⟨h1,h2⟩:=TA r (i+1) d v h;exact⟨Af,by rw[show d-i=(d-(i+1))+1 by omega];simpa using h2⟩
  ·rw[hb] at h;have:=FU hb;subst this;simp at h;subst h;simp
theorem iE(args:Ap)(N:Nat)(ds:List Deferred)(h:args.length<=N):FSat N (Xe 0 args) {tmps:=args.toArray++Array.replicate (N-args.toArray.size) undef,defers:=ds}:=by refine⟨by simp;omega,λd v hd=>?_⟩;obtain⟨_,h2⟩:=TA args 0 d v hd;simp only[Nat.sub_zero] at h2;have C7:=(Aw.1 h2).1;show(args.toArray++_)[d]?=some v;rw[Array.getElem?_append_left (by simpa using C7)];simpa using h2
def Fw(ro:Option Nat):Fence:={Fence.wide with round:=ro}
structure Fn(P:Program)(f:FuncId)(args:Ap)(l:Ac)(K:Value->Ac->Prop):Prop where
 run: ∀E W,Sat E l W->Calls P f args.toArray W λe W'=> ∃v l',e= .returned v/\K v l'/\Sat E l' W'
theorem Fn.mono{P:Program}{f:FuncId}{args:Ap}{l:Ac}{K K':Value->Ac->Prop}(h:Fn P f args l K)(hk: ∀v l',K v l'->K' v l'):Fn P f args l K':=
 ⟨λE W hs=>(h.run E W hs).mono λe W' ⟨v,l',h1,h2,h3⟩=>⟨v,l',h1,hk _ _ h2,h3⟩⟩
structure Ot(P:Program)(r:Nat)(vs:Ap)(l:Ac)(K:Value->Ac->Prop):Prop where
 run: ∀E W,Sat E l W-> ∃fn tmps assign body,(Instr.yield r vs.toArray).run P W= .ok (.round r fn tmps assign body) W/\
  RoundIn Fence.wide 0 P r fn tmps assign body W λe W'=> ∃v l',e= .returned v/\K v l'/\Sat E l' W'
theorem aX{l:Nat}{f:FuncId}{tmps:Array Value}{assign body:Code}{w:World}(h:RoundIn Fence.wide n P l f tmps assign body w R):RoundIn (Fw ro) n P l f tmps assign body w R:=h
theorem Nh{f:FuncId}{args:Array Value}{w:World}(h:Calls P f args w R):CallsIn (Fw ro) n P f args w R:=(callsIn_wide (n:=n)).2 h
def Jt:Op->Bool
 | .defer _=>false
 |_=>true
def OpVal(P:Program)(ro:Option Nat)(o:Oper)(ρ:Operand->Value)(W:World)(K:Value->World->Prop):Prop:=
 match(execOp ρ o).run P W with
 | .ok (.value v) w'=>K v w'
 | .ok .skip w'=>K undef w'
 | .ok (.enter f args) w'=>CallsIn (Fw ro) 0 P f args w' (λe w''=> ∃v,e= .returned v/\K v w'')
 | .ok (.round r f tm asg bo) w'=>RoundIn (Fw ro) 0 P r f tm asg bo w' (λe w''=> ∃v,e= .returned v/\K v w'')
 |_=>False
theorem OpVal.mono{K K':Value->World->Prop}(hk: ∀v w,K v w->K' v w)(h:OpVal P ro o ρ W K):OpVal P ro o ρ W K':=by
 unfold OpVal at*
 split at h
 ·exact hk _ _ h
 ·exact hk _ _ h
 ·exact h.mono λe w ⟨v,h1,h2⟩=>⟨v,h1,hk _ _ h2⟩
 ·exact h.mono λe w ⟨v,h1,h2⟩=>⟨v,h1,hk _ _ h2⟩
 ·exact h.elim
theorem OpVal.wpIn{K:Value->World->Prop}{next:Act->World->Prop}{Q:Exit->Act->World->Prop}(hd:Jt o.op=true)(h:OpVal P ro o a.eval W K)(hk: ∀v w,K v w->next (a.put o.dst v) w):o.wpIn (Fw ro) 0 P a W next Q:=by
 unfold Oper.wpIn;refine⟨λ_ _=>trivial,?_⟩;rw[Oper.semAt_eq _ _ _ (λc hc=>by rw[hc] at hd;cases hd)];unfold OpVal at h
 split at h
 ·rename_i xH;rw[xH];exact hk _ _ h
 ·rename_i xH;rw[xH];exact hk _ _ h
 ·rename_i xH;rw[xH];exact⟨λh0=>(by cases h0),h.mono λe w ⟨v,h1,h2⟩=>by subst h1;exact hk _ _ h2⟩
 ·rename_i xH;rw[xH];exact⟨λh0=>(by cases h0),h.mono λe w ⟨v,h1,h2⟩=>by subst h1;exact hk _ _ h2⟩
 ·exact h.elim
structure OpE(P:Program)(ro:Option Nat)(N:Nat)(fr:Fr)(l:Ac)(o:Oper)(K:Value->Ac->Prop):Prop where
 nodef:Jt o.op=true
 val: ∀E a W,FSat N fr a->Sat E l W->OpVal P ro o a.eval W (λv W'=> ∃l',K v l'/\Sat E l' W')
theorem OpE.run{fr:Fr}{l:Ac}{Q:Exit->Act->World->Prop}(h:OpE P ro N fr l o K)(E:World)(a:Act)(W:World)(hf:FSat N fr a)(hs:Sat E l W):
 o.wpIn (Fw ro) 0 P a W (λa' W'=> ∃v l',a'=a.put o.dst v/\K v l'/\Sat E l' W') Q:=
 OpVal.wpIn h.nodef (h.val E a W hf hs) λv w ⟨l',h1,h2⟩=>⟨v,l',rfl,h1,h2⟩
structure OpQ(P:Program)(ro:Option Nat)(N:Nat)(fr:Fr)(R:Ac)(o:Oper)(v:Value):Prop where
 run: ∀l,(∀c,c∈R->c∈l)->OpE P ro N fr l o (λv' l'=>v'=v/\l'=l)
theorem OpE.mono{P:Program}{ro:Option Nat}{N:Nat}{fr:Fr}{l:Ac}{o:Oper}{K K':Value->Ac->Prop}(h:OpE P ro N fr l o K)(hk: ∀v l',K v l'->K' v l'):OpE P ro N fr l o K':=
 ⟨h.nodef,λE a W hf hs=>(h.val E a W hf hs).mono λv w ⟨l',h1,h2⟩=>⟨l',hk _ _ h1,h2⟩⟩
def YJ(P:Program)(K:Value->Ac->Prop):Next->Ac->Prop
 | .value v,l=>K v l
 | .skip,l=>K undef l
 | .enter f args,l=>Fn P f args.toList l K
 |_,_=>False
theorem DS{fr:Fr}{l:Ac}(hd:Jt o.op=true)
 (h: ∀ρ,Agrees fr ρ->sl P (execOp ρ o) l (YJ P K)):OpE P ro N fr l o K:=by
 refine⟨hd,λE a W hf hs=>?_⟩;obtain⟨x,W',l',hr,hq,hs'⟩:=lP _ l W (h _ hf.agrees) hs;unfold OpVal;rw[hr];cases x<;>simp only[YJ] at hq
 case value v=>exact⟨l',hq,hs'⟩
 case skip=>exact⟨l',hq,hs'⟩
 case enter f args=>have:=hq.run E W' hs';simp only[Array.toArray_toList] at this;refine Nh (this.mono ?_);rintro e W'' ⟨v,l'',rfl,hk,hs''⟩;exact⟨v,rfl,l'',hk,hs''⟩
section
variable{ops:Array Oper}{Q:Exit->Act->World->Prop}{A6:List Oper}{fr:Fr}{l:Ac}
structure DC(P:Program)(ro:Option Nat)(N:Nat)(E:World)(ops:Array Oper)(Q:Exit->Act->World->Prop)(A6:List Oper)(fr:Fr)(ds:List Deferred)(l:Ac):Prop where
 run: ∀a W,FSat N fr a->a.defers=ds->Sat E l W->wpListIn (Fw ro) 0 P ops Q A6 a W
structure BS(P:Program)(ro:Option Nat)(N:Nat)(E:World)(c:Code)(Q:Exit->Act->World->Prop)(fr:Fr)(ds:List Deferred)(l:Ac):Prop where
 run: ∀a W,FSat N fr a->a.defers=ds->Sat E l W->c.wpIn (Fw ro) 0 P Q a W
structure C3(N:Nat)(E:World)(Q:Exit->Act->World->Prop)(e:Exit)(fr:Fr)(ds:List Deferred)(l:Ac):Prop where
 run: ∀a W,FSat N fr a->a.defers=ds->Sat E l W->Q e a W
theorem ES(a:Act)(d:Option Nat)(v:Value):(a.put d v).defers=a.defers:=by cases d<;>rfl
theorem VW(h:C3 N E Q .normal fr ds l):DC P ro N E ops Q [] fr ds l:=⟨h.run⟩
theorem s_e(h:OpE P ro N fr l o K)(hw:o.guard=none)(hd:Kh N o.dst=true)(hk: ∀v l',K v l'->DC P ro N E ops Q A6 (ID o.dst v fr) ds l'):DC P ro N E ops Q (o::A6) fr ds l:=by refine⟨λa W hf hds hs=>?_⟩;refine wpListIn_plain hw λK' hK'=>Oper.wpIn_mono ?_ (h.run E a W hf hs);rintro a' W' ⟨v,l',rfl,hkv,hs'⟩;exact hK' _ _ ((hk v l' hkv).run _ _ (hf.put v hd) ((ES _ _ _).trans hds) hs')
theorem s_q(h:OpQ P ro N fr l o v)(hw:o.guard=none)(hd:Kh N o.dst=true)(hk:DC P ro N E ops Q A6 (ID o.dst v fr) ds l):DC P ro N E ops Q (o::A6) fr ds l:=
 s_e (h.run l λ_ hc=>hc) hw hd λv' l' ⟨h1,h2⟩=>by rw[h1,h2];exact hk
theorem JZ{fr:Fr}{d:Nat}{b:Bool}(hf:FSat N fr a)(hj:ops[j]?=some oj)(hd:oj.dst=some d)(hb:Cc fr d=some (.bool b)):yielded ops a.tmps j=some b:=by unfold yielded;simp[hj,hd,hf.at_ _ _ hb]
theorem Aca{d:Nat}{b:Bool}(h:OpE P ro N fr l o K)(hw:o.guard=some (j,b))(hj:ops[j]?=some oj)(Lm:oj.dst=some d)(hb:Cc fr d=some (.bool b))(hd:Kh N o.dst=true)(hk: ∀v l',K v l'->DC P ro N E ops Q A6 (ID o.dst v fr) ds l'):DC P ro N E ops Q (o::A6) fr ds l:=by refine⟨λa W hf hds hs=>?_⟩;have hy:=JZ hf hj Lm hb;refine wpListIn_step λK' hK'=>?_;rw[Ad (by simp[Region.wanted,hw,hy])];refine Oper.wpIn_mono ?_ (h.run E a W hf hs);rintro a' W' ⟨v,l',rfl,hkv,hs'⟩;exact hK' _ _ ((hk v l' hkv).run _ _ (hf.put v hd) ((ES _ _ _).trans hds) hs')
theorem AfK{d:Nat}{b:Bool}(h:OpQ P ro N fr l o v)(hw:o.guard=some (j,b))(hj:ops[j]?=some oj)(Lm:oj.dst=some d)(hb:Cc fr d=some (.bool b))(hd:Kh N o.dst=true)(hk:DC P ro N E ops Q A6 (ID o.dst v fr) ds l):DC P ro N E ops Q (o::A6) fr ds l:=
 Aca (h.run l λ_ hc=>hc) hw hj Lm hb hd λv' l' ⟨h1,h2⟩=>by rw[h1,h2];exact hk
theorem AfL{d:Nat}{b b':Bool}(hw:o.guard=some (j,b))(hj:ops[j]?=some oj)(Lm:oj.dst=some d)(hb:Cc fr d=some (.bool b'))(GS:(b'==b)=false)(hd:Kh N o.dst=true)(hk:DC P ro N E ops Q A6 (ID o.dst undef fr) ds l):DC P ro N E ops Q (o::A6) fr ds l:=by refine⟨λa W hf hds hs=>?_⟩;have hy:=JZ hf hj Lm hb;refine wpListIn_step λK' hK'=>?_;rw[Ab (by simp[Region.wanted,hw,hy];intro e;rw[e] at GS;simp at GS)];exact⟨λ_ _=>trivial,hK' _ _ (hk.run _ _ (hf.put undef hd) ((ES _ _ _).trans hds) hs)⟩
theorem G7{d:Nat}(hb:Cc fr d=some v): ∀k u,Cc ((d,v)::fr) k=some u->Cc fr k=some u:=by
 intro k u h;unfold Cc at h;cases e:Nat.beq d k
 ·rw[e] at h;exact h
 ·rw[e] at h;have:=FU e;subst this;rw[hb];exact h
theorem rW(d:Nat){b:Bool}(hb:Cc fr d=some (.bool b))(ht:b=true->DC P ro N E ops Q A6 ((d,.bool true)::fr) ds l)(hf:b=false->DC P ro N E ops Q A6 ((d,.bool false)::fr) ds l):DC P ro N E ops Q A6 fr ds l:=by
 refine⟨λa W qQ hds hs=>?_⟩;have key: ∀u,Cc fr d=some u->FSat N ((d,u)::fr) a:=λu hu=>⟨qQ.size,λk w hk=>qQ.at_ k w (G7 hu k w hk)⟩
 cases b with
 |true=>exact(ht rfl).run a W (key _ hb) hds hs
 |false=>exact(hf rfl).run a W (key _ hb) hds hs
theorem ey(h:BS P ro N E x (Exit.then (y.wpIn (Fw ro) 0 P Q) Q) fr ds l):BS P ro N E (.seq x y) Q fr ds l:=⟨λa W hf hds hs=>wpIn_seq (h.run a W hf hds hs)⟩
theorem Xf(h:C3 N E Q .normal fr ds l):BS P ro N E .skip Q fr ds l:=⟨λa W hf hds hs=>wpIn_skip (h.run a W hf hds hs)⟩
theorem SP(h:C3 N E Q .normal fr ds l):BS P ro N E (.label k) Q fr ds l:=⟨λa W hf hds hs=>wpIn_label (h.run a W hf hds hs)⟩
theorem TC(h:C3 N E Q (.exit k) fr ds l):BS P ro N E (.exit k) Q fr ds l:=⟨λa W hf hds hs=>wpIn_exit (h.run a W hf hds hs)⟩
theorem ez(h:C3 N E Q .ret fr ds l):BS P ro N E .ret Q fr ds l:=⟨λa W hf hds hs=>wpIn_ret (h.run a W hf hds hs)⟩
theorem Qz(h:BS P ro N E x (Exit.inBlock k Q) fr ds l):BS P ro N E (.block k x) Q fr ds l:=⟨λa W hf hds hs=>wpIn_block (h.run a W hf hds hs)⟩
theorem Xg(h:BS P ro N E x (Exit.noGoto Q) fr ds l):BS P ro N E (.scope x) Q fr ds l:=⟨λa W hf hds hs=>aW (h.run a W hf hds hs)⟩
theorem QA{os:List Oper}(h:DC P ro N E os.toArray Q os fr ds l):BS P ro N E (.region k os.toArray false) Q fr ds l:=⟨λa W hf hds hs=>wpIn_region_lit (h.run a W hf hds hs)⟩
theorem MM{c:Operand}(hc:ev fr c=some (.bool true))(h:BS P ro N E x Q fr ds l):BS P ro N E (.cond c x y) Q fr ds l:=⟨λa W hf hds hs=>wpIn_cond_true (hf.agrees _ _ hc) (h.run a W hf hds hs)⟩
theorem MN{c:Operand}(hc:ev fr c=some (.bool false))(h:BS P ro N E y Q fr ds l):BS P ro N E (.cond c x y) Q fr ds l:=⟨λa W hf hds hs=>wpIn_cond_false (hf.agrees _ _ hc) (h.run a W hf hds hs)⟩
theorem wi(hs':FSub fr' fr)(h:BS P ro N E c Q fr' ds l):BS P ro N E c Q fr ds l:=⟨λa W hf hds hs=>h.run a W (hf.sub hs'.spec) hds hs⟩
def eC(N:Nat)(E:World){α:Type}(fx:α->Fr)(ds:List Deferred)(lx:α->Ac)(pre:α->Prop)(μ:α->Nat)(x:α)(a:Act)(W:World):Prop:=
 ∃y,pre y/\μ y<μ x/\FSat N (fx y) a/\a.defers=ds/\Sat E (lx y) W
theorem QB{p:Nat->Prop}(h: ∃n,p n): ∃n,p n/\ ∀m,p m->n<=m:=by
 obtain⟨n,hn⟩:=h
 induction n using Nat.strongRecOn with
 |_ n ih=>
  by_cases hc: ∃m,m<n/\p m
  ·obtain⟨m,C7,hm⟩:=hc;exact ih m C7 hm
  ·exact⟨n,hn,λm hm=>MF λC7=>hc ⟨m,C7,hm⟩⟩
open Classical in
noncomputable def TD(p:Nat->Prop):Nat:=if h: ∃n,p n then Classical.choose (QB h) else 0
theorem LX{p:Nat->Prop}(h: ∃n,p n):p (TD p)/\ ∀m,p m->TD p<=m:=by unfold TD;rw[dif_pos h];exact Classical.choose_spec (QB h)
theorem yw(fx:α->Fr)(lx:α->Ac)(pre:α->Prop)(μ:α->Nat)(x₀:α)(h0:pre x₀)(hf0:FSub (fx x₀) fr)(ru:l.Perm (lx x₀))
 (round: ∀x,pre x->BS P ro N E c (Exit.then (eC N E fx ds lx pre μ x) Q) (fx x) ds (lx x)):BS P ro N E (.loop c) Q fr ds l:=by
 refine⟨λa W hf hds hs=>?_⟩;refine wpIn_loop (λa W=> ∃x,pre x/\FSat N (fx x) a/\a.defers=ds/\Sat E (lx x) W) (λa W=>TD λn=> ∃x,pre x/\FSat N (fx x) a/\a.defers=ds/\Sat E (lx x) W/\μ x=n) ⟨x₀,h0,hf.sub hf0.spec,hds,hs.perm ru⟩ ?_;intro a W hI;have Yz: ∃n,∃x,pre x/\FSat N (fx x) a/\a.defers=ds/\Sat E (lx x) W/\μ x=n:=by obtain⟨x,h1,h2,h3,h4⟩:=hI;exact⟨_,x,h1,h2,h3,h4,rfl⟩
 obtain⟨⟨x,h1,h2,h3,h4,h5⟩,_⟩:=LX Yz;refine wpIn_mono ((round x h1).run a W h2 h3 h4) ?_;intro e a' W' hq;cases e with
 |normal=>obtain⟨y,k1,k2,k3,k4,k5⟩:=hq;refine⟨⟨y,k1,k3,k4,k5⟩,?_⟩;exact Ex ((LX (p:=λn=> ∃x,pre x/\FSat N (fx x) a'/\a'.defers=ds/\Sat E (lx x) W'/\μ x=n) ⟨_,y,k1,k3,k4,k5,rfl⟩).2 (μ y) ⟨y,k1,k3,k4,k5,rfl⟩) (by rw[<-h5];exact k2)
 |_=>exact hq
theorem Ou(h:BS P ro N E y Q fr ds l):C3 N E (Exit.then (y.wpIn (Fw ro) 0 P Q) Q) .normal fr ds l:=⟨h.run⟩
theorem LY(h:C3 N E Q (.exit k) fr ds l):C3 N E (Exit.then Kx Q) (.exit k) fr ds l:=⟨h.run⟩
theorem Ni(h:C3 N E Q .ret fr ds l):C3 N E (Exit.then Kx Q) .ret fr ds l:=⟨h.run⟩
theorem QC(h:C3 N E Q .normal fr ds l):C3 N E (Exit.inBlock k Q) .normal fr ds l:=⟨h.run⟩
theorem LZ(h:C3 N E Q .ret fr ds l):C3 N E (Exit.inBlock k Q) .ret fr ds l:=⟨h.run⟩
theorem Ju(h:C3 N E Q .normal fr ds l):C3 N E (Exit.inBlock k Q) (.exit k) fr ds l:=⟨λa W hf hds hs=>by simp only[Exit.inBlock,CV];exact h.run a W hf hds hs⟩
theorem Nj(GS:Nat.beq j k=false)(h:C3 N E Q (.exit j) fr ds l):C3 N E (Exit.inBlock k Q) (.exit j) fr ds l:=⟨λa W hf hds hs=>by
 have:¬j=k:=λe=>by subst e;simp at GS
 simp only[Exit.inBlock,Ab this];exact h.run a W hf hds hs⟩
theorem SQ(h:C3 N E Q .normal fr ds l):C3 N E (Exit.noGoto Q) .normal fr ds l:=⟨h.run⟩
theorem L6(h:C3 N E Q .ret fr ds l):C3 N E (Exit.noGoto Q) .ret fr ds l:=⟨h.run⟩
theorem yx{fx:α->Fr}{lx:α->Ac}{pre:α->Prop}{μ:α->Nat}{x:α}(y:α)(h1:pre y)(h2:μ y<μ x)(h3:FSub (fx y) fr)(h4:l.Perm (lx y)):C3 N E (Exit.then (eC N E fx ds lx pre μ x) Q) .normal fr ds l:=
 ⟨λa W hf hds hs=>⟨y,h1,h2,hf.sub h3.spec,hds,hs.perm h4⟩⟩
end
def RK(E:World)(K:Value->Ac->Prop):Ending->World->Prop:=λe W'=> ∃v l',e= .returned v/\K v l'/\Sat E l' W'
theorem TE{f:FuncId}{args:Ap}{l:Ac}(hf:P.funcs[f]?=some fn)(hb:fn.body=some c)(hn:Nat.ble args.length fn.ntmps=true)
 (h: ∀E,BS P none fn.ntmps E c (bodyPostM Fence.wide 0 P fn (RK E K)) (Xe 0 args) [] l):Fn P f args l K:=by
 refine⟨λE W hs=>?_⟩;refine(callsIn_wide (n:=0)).1 (callsIn_of_wp_marks hf hb trivial ?_ rfl);exact(h E).run _ W (iE args _ [] (Nat.le_of_ble_eq_true hn)) rfl hs
inductive ResS(P:Program)(fr:Fr)(l:Ac):List ResultVar->Ap->Prop
 |nil:ResS P fr l [] []
 |tmp {t:Nat} {v:Value} {rs:List ResultVar} {vs:Ap}:Cc fr t=some v->ResS P fr l rs vs->ResS P fr l (.tmp t::rs) (v::vs)
 |cell {t:Nat} {T:TypeId} {v:Value} {b off:Nat} {rs:List ResultVar} {vs:Ap}:Cc fr t=some (.pointer (some ⟨b,off,none⟩))->(∀E W,Sat E l W->(loadVar T ⟨b,off,none⟩).run P W= .ok v W)->ResS P fr l rs vs->ResS P fr l (.cell t T::rs) (v::vs)
def JQ:Ap->Value
 |[v]=>v
 |vs=> .tuple vs.toArray
def rX(tmps:Array Value):ResultVar->Sem Value
 | .tmp t=>pure (tmps.getD t undef)
 | .cell b t=>do loadVar t (<-asAddr (tmps.getD b undef))
theorem TF{P:Program}{N:Nat}{fr:Fr}{l:Ac}{E W:World}{a:Act}(hf:FSat N fr a)(hs:Sat E l W): ∀{rs:List ResultVar} {vs:Ap},ResS P fr l rs vs->(rs.mapM (rX a.tmps)).run P W= .ok vs W
 |[],_,.nil=>by simp[Sem.run]
 |_,_,.tmp (t:=t) (v:=v) (rs:=rs) (vs:=vs) h1 h2=>by
  have e:a.tmps.getD t undef=v:=by rw[Dt,hf.at_ _ _ h1];rfl
  have e1:(rX a.tmps (.tmp t)).run P W= .ok v W:=by show(pure _:Sem Value).run P W=_;rw[e];rfl
  rw[List.mapM_cons,Sem.run_bind,e1];simp only[Result.andThen];rw[Sem.run_bind,TF hf hs h2];rfl
 |_,_,.cell (t:=t) (v:=v) (T:=T) (b:=b) (off:=off) h1 h3 h2=>by
  have e:a.tmps.getD t undef= .pointer (some ⟨b,off,none⟩):=by rw[Dt,hf.at_ _ _ h1];rfl
  have e1:(rX a.tmps (.cell t T)).run P W= .ok v W:=by show(asAddr (a.tmps.getD t undef)>>=loadVar T).run P W=_;rw[e,Sem.run_bind];exact h3 E W hs
  rw[List.mapM_cons,Sem.run_bind,e1];simp only[Result.andThen];rw[Sem.run_bind,TF hf hs h2];rfl
theorem R9{fr:Fr}{l:Ac}(hr:fn.results=rs.toArray)(hf:FSat N fr a)(hs:Sat E l W)(h:ResS P fr l rs vs):
 (results fn a.tmps).run P W= .ok (JQ vs) W:=by
 have e:results fn a.tmps=(do let us<-fn.results.mapM (rX a.tmps);pure (if h:us.size=1 then us[0] else .tuple us)):=rfl;rw[e,hr,List.mapM_toArray,Sem.run_bind,map_eq_pure_bind,Sem.run_bind,TF hf hs h];simp only[Result.andThen,Sem.run_pure];congr 1
 match vs with
 |[]=>rfl
 |[v]=>rfl
 |_::_::_=>rfl
def Cv(D:Nat):Bh:=(D,.deferred (some []))
def HJ(D:Nat):Deferred:={target:= .collected D,args:=#[]}
theorem RC{P:Program}{fn:Func}{R:Ending->World->Prop}{tmps:Array Value}{E:World}{l:Ac}{v:Value}: ∀(Ds:List Nat) (W:World),Sat E (Ds.map Cv++l) W->
 (∀W',Sat E l W'->(results fn tmps).run P W'= .ok v W'/\R (.returned v) W')->LeavesInM Fence.wide 0 P fn tmps R (Ds.map HJ) .returning W
 |[],W,hs,hr=>⟨v,hr W hs⟩
 |D::Ds,W,hs,hr=>by have hK:W.heap[D]?=some (.deferred (some [])):=hs.has (D,_) Al;have Nc:Sat E ((D,.deferred none)::(Ds.map Cv++l)) (W.putObj D (.deferred none)):=hs.upd Upd.here;exact⟨by simp,.inl ⟨D,_,rfl,run_takeDeferred hK,RC Ds _ Nc.tail hr⟩⟩
theorem Acb{fr:Fr}{l:Ac}(Ds:List Nat)(hr:fn.results=rs.toArray)(hp:l.Perm (Ds.map Cv++l'))(h:ResS P fr l' rs vs)(hk:K (JQ vs) l'):
 C3 N E (bodyPostM Fence.wide 0 P fn (RK E K)) .ret fr (Ds.map HJ) l:=by
 refine⟨λa W hf hds hs=>?_⟩;show LeavesInM Fence.wide 0 P fn a.tmps (RK E K) a.defers .returning W;rw[hds];exact RC (v:=JQ vs) Ds W (hs.perm hp) λW' hs'=>⟨R9 hr hf hs' h,_,l',rfl,hk,hs'⟩
theorem eD{fr:Fr}{l:Ac}(h:C3 N E (bodyPostM Fence.wide 0 P fn R) .ret fr ds l):C3 N E (bodyPostM Fence.wide 0 P fn R) .normal fr ds l:=⟨h.run⟩
def foV(P:Program)(s f:Nat):Option Nat:=match P.underlying s with
 |some (.struct fs)=>match fs[f]? with
  |some fd=>match P.info? fd.type with
   |some i=>if i.size=0 then none else some fd.offset
   |none=>none
  |none=>none
 |_=>none
def fvV(P:Program)(s f:Nat):Option (Nat×Nat):=match P.underlying s with
 |some (.struct fs)=>(fs[f]?).map λfd=>(fd.offset,fd.type)
 |_=>none
def atV(P:Program)(t:Nat):Option (Nat×Nat×Nat):=match P.underlying t with
 |some (.array n e)=>(P.info? e).map λi=>(n,e,i.size)
 |_=>none
def stV(P:Program)(t:Nat):Option (Nat×Nat×Nat):=match P.underlying t with
 |some (.slice e)=>(P.info? e).map λi=>(e,i.size,i.bytes)
 |_=>none
def yy(P:Program)(t:Nat):Option (Ap):=match P.info? t with
 |some i=>match i.zero with
  |some z=>some z.cells.toList
  |none=>none
 |none=>none
def rY(P:Program)(t:Nat):Bool:=match P.underlying t with
 |some (.struct _)=>false
 |some (.array ..)=>false
 |some _=>(P.info? t).any λi=>i.size==1
 |none=>false
def wj(P:Program)(t:Nat):Option Nat:=match P.underlying t with
 |some (.struct _)=>(P.info? t).map (·.size)
 |some (.array ..)=>(P.info? t).map (·.size)
 |_=>none
def rZ(P:Program)(t:Nat):Option IntKind:=match P.underlying t with
 |some (.int k)=>some k
 |_=>none
def ptV(P:Program)(t:Nat):Option Nat:=match P.underlying t with
 |some (.pointer e)=>some e
 |_=>none
def mtV(P:Program)(t:Nat):Option (Nat×Nat):=match P.underlying t with
 |some (.map k e)=>some (k,e)
 |_=>none
class FO(P:Program)(s f:Nat)(k:outParam Nat):Prop where out:foV P s f=some k
class FV(P:Program)(s f:Nat)(k t:outParam Nat):Prop where out:fvV P s f=some (k,t)
class AT(P:Program)(t:Nat)(n e z:outParam Nat):Prop where out:atV P t=some (n,e,z)
class ST(P:Program)(t:Nat)(e z y:outParam Nat):Prop where out:stV P t=some (e,z,y)
class ZV(P:Program)(t:Nat)(z:outParam (Ap)):Prop where out:yy P t=some z
class OC(P:Program)(t:Nat):Prop where out:rY P t=true
class AG(P:Program)(t:Nat)(z:outParam Nat):Prop where out:wj P t=some z
class IT(P:Program)(t:Nat)(k:outParam IntKind):Prop where out:rZ P t=some k
class PT(P:Program)(t:Nat)(e:outParam Nat):Prop where out:ptV P t=some e
class MT(P:Program)(t:Nat)(k e:outParam Nat):Prop where out:mtV P t=some (k,e)
class EN(P:Program)(f:Nat):Prop where out: ∀args w,(callFunc f args).run P w= .ok (.enter f args) w
section
variable{Q:α->Ac->Prop}{l:Ac}
theorem Cg{d:TypeDesc}{f:TypeDesc->Sem α}(h:P.underlying t=some d):sl P (underlying t>>=f) l Q<->sl P (f d) l Q:=by rw[AE];show sl P (match P.underlying t with|some d=>pure d|none=>stuck "no such type") l _<->_;rw[h];rfl
theorem E9{Q:TypeDesc->Ac->Prop}{d:TypeDesc}(h:P.underlying t=some d):sl P (underlying t) l Q<->Q d l:=by show sl P (match P.underlying t with|some d=>pure d|none=>stuck "no such type") l _<->_;rw[h];rfl
theorem J9{i:TypeInfo}{f:TypeInfo->Sem α}(h:P.info? t=some i):sl P (typeInfo t>>=f) l Q<->sl P (f i) l Q:=by rw[AE];show sl P (match P.info? t with|some i=>pure i|none=>stuck "no such type") l _<->_;rw[h];rfl
theorem Fa{i:TypeInfo}{f:Nat->Sem α}(h:P.info? t=some i):sl P (sizeOf t>>=f) l Q<->sl P (f i.size) l Q:=by rw[AE];show sl P (typeInfo t>>=λi=>pure i.size) l _<->_;rw[J9 h];rfl
theorem HK{Q:Nat->Ac->Prop}{i:TypeInfo}(h:P.info? t=some i):sl P (sizeOf t) l Q<->Q i.size l:=by show sl P (typeInfo t>>=λi=>pure i.size) l _<->_;rw[J9 h];rfl
theorem P2{f:Program->Sem α}:sl P (program>>=f) l Q<->sl P (f P) l Q:=DK
def Ov:TypeDesc->Bool
 | .struct _=>true
 | .array _ _=>true
 |_=>false
theorem MO{d:TypeDesc}{f:Bool->Sem α}(h:P.underlying t=some d):sl P (isAgg t>>=f) l Q<->sl P (f (Ov d)) l Q:=by rw[AE];show sl P (underlying t>>=λd=>match d with| .struct _| .array _ _=>pure true|_=>pure false) l _<->_;rw[Cg h];cases d<;>rfl
end
theorem GL(b off n:Nat):(⟨b,off,none⟩:Addr).add n=⟨b,off+n,none⟩:=by
 unfold Addr.add
 split
 ·rename_i h;subst h;rfl
 ·rfl
section
variable{fr:Fr}{R l:Ac}{d:Option Nat}{aft:Array Edge}{x y:Operand}{w:Value}{off:Nat}
theorem BO(hd:Jt o.op=true)(h: ∀ρ l,Agrees fr ρ->(∀c,c∈R->c∈l)->sl P (execOp ρ o) l (λnx l'=>nx= .value v/\l'=l)):OpQ P ro N fr R o v:=
 ⟨λl hl=>DS hd λρ hρ=>rV (λnx l' ⟨h1,h2⟩=>by rw[h1];exact⟨rfl,h2⟩) _ _ (h ρ l hρ hl)⟩
theorem yz(hx:ev fr x=some v):OpQ P ro N fr R ⟨d,.move x,ty,pos,aft,g⟩ v:=BO rfl λρ l hρ _=>⟨by rw[hρ x v hx],rfl⟩
theorem lR(hx:ev fr x=some v):OpQ P ro N fr R ⟨d,.assign x,ty,pos,aft,g⟩ v:=BO rfl λρ l hρ _=>⟨by rw[hρ x v hx],rfl⟩
theorem lS(hx:ev fr x=some (.bool true))(hy:ev fr y=some v):OpQ P ro N fr R ⟨d,.pick x y z,ty,pos,aft,g⟩ v:=BO rfl λρ l hρ _=>by simp only[execOp,hρ x _ hx,asBool];exact⟨by simp[hρ y _ hy],rfl⟩
theorem lU(hx:ev fr x=some (.bool false))(hz:ev fr z=some v):OpQ P ro N fr R ⟨d,.pick x y z,ty,pos,aft,g⟩ v:=BO rfl λρ l hρ _=>by simp only[execOp,hρ x _ hx,asBool];exact⟨by simp[hρ z _ hz],rfl⟩
theorem aY{a:Addr}(hx:ev fr x=some (.pointer (some a))):OpQ P ro N fr R ⟨d,.nilCheck x,ty,pos,aft,g⟩ (.pointer (some a)):=BO rfl λρ l hρ _=>by simp only[execOp,hρ x _ hx];exact⟨rfl,rfl⟩
theorem lV(h:foV P s f=some k): ∃fs fd i,P.underlying s=some (.struct fs)/\fs[f]?=some fd/\P.info? fd.type=some i/\i.size≠0/\fd.offset=k:=by
 unfold foV at h
 split at h
 ·rename_i fs hu
  split at h
  ·rename_i fd hf
   split at h
   ·rename_i i hi
    split at h
    ·cases h
    ·rename_i hz;cases h;exact⟨fs,fd,i,hu,hf,hi,hz,rfl⟩
   ·cases h
  ·cases h
 ·cases h
theorem YK(hx:ev fr x=some (.pointer (some ⟨b,off,none⟩)))[c:FO P s f k](ho:off+k=off'):OpQ P ro N fr R ⟨d,.fieldAddr s x f,ty,pos,aft,g⟩ (.pointer (some ⟨b,off',none⟩)):=BO rfl λρ l hρ _=>by subst ho;obtain⟨fs,fd,i,h1,h2,h3,h4,h5⟩:=lV c.out;simp only[execOp,hρ x _ hx,Instr.fieldAt,AE];rw[<-AE,Cg h1];simp only[h2,AE,Bq,Instr.sureAddr,fieldPlace];rw[<-AE,Fa h3];simp only[h4,C0,Bq,GL,h5];exact⟨trivial,trivial⟩
theorem MQ(h:atV P t=some (n,e,k)): ∃i,P.underlying t=some (.array n e)/\P.info? e=some i/\i.size=k:=by
 unfold atV at h
 split at h
 ·rename_i hu;obtain⟨i,hi,h2⟩:=Ed.1 h;cases h2;exact⟨i,hu,hi,rfl⟩
 ·cases h
theorem Fj{y:Nat}(h:stV P t=some (e,k,y)): ∃i,P.underlying t=some (.slice e)/\P.info? e=some i/\i.size=k/\i.bytes=y:=by
 unfold stV at h
 split at h
 ·rename_i hu;obtain⟨i,hi,h2⟩:=Ed.1 h;cases h2;exact⟨i,hu,hi,rfl,rfl⟩
 ·cases h
theorem TG{i:Int}(hx:ev fr x=some (.pointer (some ⟨b,off,none⟩)))(hy:ev fr y=some (.int ki i))[c:AT P t n e k](hi:0<=i/\i<(n:Int)):
 OpQ P ro N fr R ⟨d,.indexAddr t x y,ty,pos,aft,g⟩ (.pointer (some ⟨b,off+i.toNat*k,none⟩)):=BO rfl λρ l hρ _=>by
 obtain⟨HH,h1,h2,h3⟩:=MQ c.out;simp only[execOp,hρ x _ hx,hρ y _ hy,Instr.indexAt,AE,asIntOf,Bq];rw[<-AE,Cg h1];simp only[AE,Bq,Instr.sureAddr];rw[<-AE,Cg h1];simp only[Ad hi,AE,Bq];rw[HK h2];simp only[GL,h3];exact⟨trivial,trivial⟩
theorem YL(hx:ev fr x=some (.pointer (some ⟨b,off,none⟩)))(hy:ev fr y=some (.int ki (m:Nat)))[c:AT P t n e k](hi:m<n)(ho:off+m*k=off'):
 OpQ P ro N fr R ⟨d,.indexAddr t x y,ty,pos,aft,g⟩ (.pointer (some ⟨b,off',none⟩)):=by
 subst ho;have:=TG (P:=P) (ro:=ro) (N:=N) (R:=R) (d:=d) (ty:=ty) (pos:=pos) (aft:=aft) (g:=g) (c:=c) hx hy ⟨Af,Af⟩;simpa using this
theorem VX{i:Int}(hx:ev fr x=some (.slice (some ⟨b,off,none⟩) n cap))(hy:ev fr y=some (.int ki i))[c:ST P t e k yb](hi:0<=i/\i<(n:Int)):
 OpQ P ro N fr R ⟨d,.indexAddr t x y,ty,pos,aft,g⟩ (.pointer (some ⟨b,off+i.toNat*k,none⟩)):=BO rfl λρ l hρ _=>by
 obtain⟨HH,h1,h2,h3,_⟩:=Fj c.out;simp only[execOp,hρ x _ hx,hρ y _ hy,Instr.indexAt,AE,asIntOf,Bq];rw[<-AE,Cg h1];simp only[AE,Bq];rw[<-AE,Cg h1];simp only[Ad hi,AE,Bq];rw[HK h2];simp only[GL,h3];exact⟨trivial,trivial⟩
theorem aZ(hx:ev fr x=some (.slice (some ⟨b,off,none⟩) n cap))(hy:ev fr y=some (.int ki (m:Nat)))[c:ST P t e k yb](hi:m<n)(ho:off+m*k=off'):
 OpQ P ro N fr R ⟨d,.indexAddr t x y,ty,pos,aft,g⟩ (.pointer (some ⟨b,off',none⟩)):=by
 subst ho;have:=VX (P:=P) (ro:=ro) (N:=N) (R:=R) (d:=d) (ty:=ty) (pos:=pos) (aft:=aft) (g:=g) (c:=c) hx hy ⟨Af,Af⟩;simpa using this
def bf:Ap->Nat->Option Value
 |[],_=>none
 |x::_,0=>some x
 |_::r,n+1=>bf r n
theorem r5(l:Ap): ∀i,bf l i=l[i]?:=by
 induction l with
 |nil=>intro i;cases i<;>rfl
 |cons x r ih=>intro i;cases i with
  |zero=>rfl
  |succ n=>simp only[bf,De];exact ih n
theorem YM{l:Ap}(h:bf l i=some v):(τ l)[i]?=some v:=by rw[AF,<-r5];exact h
inductive LGet:Ap->Nat->Value->Prop
 |zero {x:Value} {r:Ap}:LGet (x::r) 0 x
 |succ {x v:Value} {r:Ap} {n:Nat}:LGet r n v->LGet (x::r) (n+1) v
theorem LGet.spec{l:Ap}(h:LGet l i v):bf l i=some v:=by
 induction h with
 |zero=>rfl
 |succ _ ih=>exact ih
theorem Lp{l:Ap}(h:LGet l i v):(τ l)[i]?=some v:=YM h.spec
inductive LSet:Ap->Nat->Value->Ap->Prop
 |zero {x v:Value} {r:Ap}:LSet (x::r) 0 v (v::r)
 |succ {x v:Value} {r r':Ap} {n:Nat}:LSet r n v r'->LSet (x::r) (n+1) v (x::r')
theorem LSet.spec{l l':Ap}(h:LSet l i v l'):l.set i v=l'/\i<l.length:=by
 induction h with
 |zero=>simp
 |succ _ ih=>simp[ih.1,ih.2]
inductive LSub:Ap->Nat->Nat->Ap->Prop
 |done {l:Ap}:LSub l 0 0 []
 |take {x:Value} {l r:Ap} {n:Nat}:LSub l 0 n r->LSub (x::l) 0 (n+1) (x::r)
 |drop {x:Value} {l r:Ap} {k n:Nat}:LSub l k n r->LSub (x::l) (k+1) n r
theorem LSub.spec{l:Ap}(h:LSub l k n r):(l.drop k).take n=r/\k+n<=l.length:=by
 induction h with
 |done=>simp
 |take _ ih=>simp only[List.drop_zero] at ih⊢;simp[ih.1];omega
 |drop _ ih=>simp only[List.drop_succ_cons,By];exact⟨ih.1,Af⟩
inductive LSetA:Ap->Nat->Ap->Ap->Prop
 |done {l:Ap}:LSetA l 0 [] l
 |put {x v:Value} {l r vs:Ap}:LSetA l 0 vs r->LSetA (x::l) 0 (v::vs) (v::r)
 |skip {x:Value} {l r vs:Ap} {k:Nat}:LSetA l k vs r->LSetA (x::l) (k+1) vs (x::r)
theorem MR(h:rY P t=true): ∃u i,P.underlying t=some u/\Ov u=false/\P.info? t=some i/\i.size=1:=by
 unfold rY at h
 split at h
 ·cases h
 ·cases h
 ·rename_i u Vj kI hu;cases hi:P.info? t with
  |none=>rw[hi] at h;cases h
  |some i=>rw[hi] at h;refine⟨u,i,hu,?_,rfl,by simpa using h⟩;cases u<;>first|rfl|exact(Vj _ rfl).elim|exact(kI _ _ rfl).elim
 ·cases h
theorem YN{Q:α->Ac->Prop}{f:Value->Sem α}(hc:rY P t=true)(hm:(b,Obj.cells cs T fz)∈l)(hv:cs[off]?=some v)(h:sl P (f v) l Q):sl P (loadVar t ⟨b,off,none⟩>>=f) l Q:=by obtain⟨u,i,h1,h2,_,_⟩:=MR hc;rw[AE];unfold loadVar;rw[MO h1,h2];exact⟨cs,T,fz,v,hm,rfl,hv,h⟩
theorem DQ(hx:ev fr x=some (.pointer (some ⟨b,off,none⟩)))[c:OC P t](hm:(b,Obj.cells cs T fz)∈R)(hv:cs[off]?=some v):OpQ P ro N fr R ⟨d,.load t x,ty,pos,aft,g⟩ v:=BO rfl λρ l hρ hR=>by simp only[execOp,hρ x _ hx,Instr.loadAt,AE,Instr.sureAddr,Bq];have:=YN (P:=P) (f:=λv=>(pure v:Sem Value)) (Q:=λa l'=>Next.value a= .value v/\l'=l) c.out (hR _ hm) hv ⟨rfl,rfl⟩;rw[AE] at this;exact this
theorem QD{α:Type}{Q:α->Ac->Prop}{f:Array Value->Sem α}{cs:Array Value}{T:TypeId}{fz:Nat×Nat}(hm:(b,Obj.cells cs T fz)∈l): ∀(n i:Nat) (acc:Array Value),off+i+n<=cs.size->sl P (f (acc++cs.extract (off+i) (off+i+n))) l Q->sl P (loadCellsFrom ⟨b,off,none⟩ i n acc>>=f) l Q
 |0,i,acc,_,h=>by
  have e:cs.extract (off+i) (off+i+0)=#[]:=by simp;omega
  rw[e,Lf] at h;exact h
 |n+1,i,acc,LJ,h=>by
  unfold loadCellsFrom;rw[AE,AE];show sl P (load ((⟨b,off,none⟩:Addr).add i)) l _;rw[GL];have C7:off+i<cs.size:=by omega
  refine⟨cs,T,fz,cs[off+i],hm,rfl,CQ C7,?_⟩;show sl P (loadCellsFrom ⟨b,off,none⟩ (i+1) n (acc.push cs[off+i])) l _;rw[<-AE];refine QD hm n (i+1) _ Af ?_;have e:acc.push cs[off+i]++cs.extract (off+(i+1)) (off+(i+1)+n)=acc++cs.extract (off+i) (off+i+(n+1)):=by apply BQ.1;simp only[Array.toList_append,LT,Gk,Co,Am,Ce];congr 1;rw[show off+i+(n+1)-(off+i)=n+1 by omega,show off+(i+1)+n-(off+(i+1))=n by omega];rw[CR (i:=off+i) (by simpa using C7),List.take_succ_cons];simp[Iz]
  rw[e];exact h
theorem Ki(h:wj P t=some n): ∃u i,P.underlying t=some u/\Ov u=true/\P.info? t=some i/\i.size=n:=by
 unfold wj at h
 split at h
 ·rename_i hu;obtain⟨i,hi,h2⟩:=Ed.1 h;exact⟨_,i,hu,rfl,hi,h2⟩
 ·rename_i hu;obtain⟨i,hi,h2⟩:=Ed.1 h;exact⟨_,i,hu,rfl,hi,h2⟩
 ·cases h
theorem YO{Q:α->Ac->Prop}{f:Value->Sem α}(hc:wj P t=some n)(hm:(b,Obj.cells cs T fz)∈l)(LJ:off+n<=cs.size)(h:sl P (f (.agg (cs.extract off (off+n)))) l Q):sl P (loadVar t ⟨b,off,none⟩>>=f) l Q:=by obtain⟨u,i,h1,h2,h3,h4⟩:=Ki hc;rw[AE];unfold loadVar;rw[MO h1,h2];simp only[CV];rw[Fa h3,h4];refine QD hm n 0 #[] Af ?_;simp only[CM,Lg];exact h
theorem Dp(hx:ev fr x=some (.pointer (some ⟨b,off,none⟩)))[c:AG P t n](hm:(b,Obj.cells cs T fz)∈R)(LJ:off+n<=cs.size)(hv:cs.extract off (off+n)=wc):OpQ P ro N fr R ⟨d,.load t x,ty,pos,aft,g⟩ (.agg wc):=BO rfl λρ l hρ hR=>by subst hv;simp only[execOp,hρ x _ hx,Instr.loadAt,AE,Instr.sureAddr,Bq];have:=YO (P:=P) (f:=λv=>(pure v:Sem Value)) (Q:=λa l'=>Next.value a= .value (.agg (cs.extract off (off+n)))/\l'=l) c.out (hR _ hm) LJ ⟨rfl,rfl⟩;rw[AE] at this;exact this
theorem E1{cs:Ap}(hx:ev fr x=some (.pointer (some ⟨b,off,none⟩)))[c:AG P t n](hm:(b,Obj.cells (τ cs) T fz)∈R){wc:Ap}(hv:LSub cs off n wc):OpQ P ro N fr R ⟨d,.load t x,ty,pos,aft,g⟩ (.agg (τ wc)):=
 Dp hx hm (by simpa using hv.spec.2) (by apply BQ.1;rw[Gk,Co];simpa using hv.spec.1)
end
section
variable{fr:Fr}{R l:Ac}{d:Option Nat}{aft:Array Edge}{x y:Operand}{w:Value}{off:Nat}{t t2:TypeId}
def r6(k:IntKind):Int:=if k.signed then-(2^(k.bits-1):Int) else 0
def r7(k:IntKind):Int:=if k.signed then(2^(k.bits-1):Int)-1 else(2^k.bits:Int)-1
theorem eG(k:IntKind)(n:Int)(h1:r6 k<=n)(h2:n<=r7 k):k.wrap n=n:=by unfold IntKind.wrap r6 r7 at*;cases k<;>simp[IntKind.signed,IntKind.bits] at* <;>(try split)<;>omega
theorem yA(n:Int)(h: -9223372036854775808<=n/\n<=9223372036854775807):IntKind.i64.wrap n=n:=eG _ _ (by simpa[r6,IntKind.signed,IntKind.bits] using h.1) (by simpa[r7,IntKind.signed,IntKind.bits] using h.2)
def lW(k:IntKind)(n:Int):Prop:=match k with
 | .i64=> -9223372036854775808<=n/\n<=9223372036854775807
 | .u64=>0<=n/\n<=18446744073709551615
 | .u8=>0<=n/\n<=255
 | .i32=> -2147483648<=n/\n<=2147483647
 | .u32=>0<=n/\n<=4294967295
 |_=>False
theorem MS{k:IntKind}{n:Int}(h:lW k n):k.wrap n=n:=by cases k<;>simp only[lW] at h<;>first|exact h.elim|exact eG _ _ (by simpa[r6,IntKind.signed,IntKind.bits] using h.1) (by simpa[r7,IntKind.signed,IntKind.bits] using h.2)
theorem SR{n:Int}(h1: -9223372036854775808<=n)(h2:n<=9223372036854775807):lW .i64 n:=⟨h1,h2⟩
theorem QE{n:Int}(h1:0<=n)(h2:n<18446744073709551616):lW .u64 n:=⟨h1,Af⟩
theorem Dg(op:BinOp)(k k':IntKind)(i j:Int):eqGuard op t x y (.int k i) (.int k' j)=pure ():=by unfold eqGuard;split<;>rfl
theorem QG(op:BinOp)(i j:Bool):eqGuard op t x y (.bool i) (.bool j)=pure ():=by unfold eqGuard;split<;>rfl
theorem Kk(op:BinOp)(i j:Option Addr):eqGuard op t x y (.pointer i) (.pointer j)=pure ():=by unfold eqGuard;split<;>rfl
theorem bg(op:BinOp)(i j:Option Addr)(a b c e:Nat):eqGuard op t x y (.slice i a b) (.slice j c e)=pure ():=by unfold eqGuard;split<;>rfl
theorem I7{op:BinOp}(hx:ev fr x=some u)(hy:ev fr y=some w)(hg: ∀x y,eqGuard op t x y u w=pure ())(h:binOp op t u w=pure v):OpQ P ro N fr R ⟨d,.binOp op t x y t2,ty,pos,aft,g⟩ v:=BO rfl λρ l hρ _=>by simp only[execOp,hρ x _ hx,hρ y _ hy,AE,hg,h];exact⟨rfl,rfl⟩
variable{k:IntKind}{i j:Int}
theorem Acc(hx:ev fr x=some (.int k i))(hy:ev fr y=some (.int k j))(h:lW k (i+j)):OpQ P ro N fr R ⟨d,.binOp .add t x y t2,ty,pos,aft,g⟩ (.int k (i+j)):=
 I7 hx hy (λ_ _=>Dg _ _ _ _ _) (by simp[binOp,Op.intArith,MS h])
theorem wk(hx:ev fr x=some (.int k i))(hy:ev fr y=some (.int k j))(h:lW k (i-j)):OpQ P ro N fr R ⟨d,.binOp .sub t x y t2,ty,pos,aft,g⟩ (.int k (i-j)):=
 I7 hx hy (λ_ _=>Dg _ _ _ _ _) (by simp[binOp,Op.intArith,MS h])
theorem Acd(hx:ev fr x=some (.int k i))(hy:ev fr y=some (.int k j))(h:lW k (i*j)):OpQ P ro N fr R ⟨d,.binOp .mul t x y t2,ty,pos,aft,g⟩ (.int k (i*j)):=
 I7 hx hy (λ_ _=>Dg _ _ _ _ _) (by simp[binOp,Op.intArith,MS h])
theorem r8(hx:ev fr x=some (.int k i))(hy:ev fr y=some (.int k j)):OpQ P ro N fr R ⟨d,.binOp .add t x y t2,ty,pos,aft,g⟩ (.int k (k.wrap (i+j))):=
 I7 hx hy (λ_ _=>Dg _ _ _ _ _) (by simp[binOp,Op.intArith])
theorem sa(hx:ev fr x=some (.int k i))(hy:ev fr y=some (.int k j)):OpQ P ro N fr R ⟨d,.binOp .mul t x y t2,ty,pos,aft,g⟩ (.int k (k.wrap (i*j))):=
 I7 hx hy (λ_ _=>Dg _ _ _ _ _) (by simp[binOp,Op.intArith])
theorem Ace(hx:ev fr x=some (.int k i))(hy:ev fr y=some (.int k j))(h0:0<=i)(h1:0<j)(h:lW k i):OpQ P ro N fr R ⟨d,.binOp .quo t x y t2,ty,pos,aft,g⟩ (.int k (i/j)):=
 I7 hx hy (λ_ _=>Dg _ _ _ _ _) (by
  have e:i.tdiv j=i/j:=Int.tdiv_eq_ediv_of_nonneg h0;have h2:i/j<=i:=Int.ediv_le_self _ h0;have h3:0<=i/j:=Int.ediv_nonneg h0 Af;have hr:lW k (i/j):=by cases k<;>simp only[lW] at h⊢ <;>first|exact h|omega
  simp[binOp,Op.intDiv,show ¬j=0 by omega,e,MS hr])
theorem Acf(hx:ev fr x=some (.int k i))(hy:ev fr y=some (.int k j))(h0:0<=i)(h1:0<j):OpQ P ro N fr R ⟨d,.binOp .rem t x y t2,ty,pos,aft,g⟩ (.int k (i%j)):=
 I7 hx hy (λ_ _=>Dg _ _ _ _ _) (by have e:i.tmod j=i%j:=Int.tmod_eq_emod_of_nonneg h0;simp[binOp,Op.intDiv,show ¬j=0 by omega,e])
theorem Acg(hx:ev fr x=some (.int k i))(hy:ev fr y=some (.int k j)):OpQ P ro N fr R ⟨d,.binOp .lss t x y t2,ty,pos,aft,g⟩ (.bool (decide (i<j))):=
 I7 hx hy (λ_ _=>Dg _ _ _ _ _) (by simp[binOp,Op.intCmp])
theorem Ach(hx:ev fr x=some (.int k i))(hy:ev fr y=some (.int k j)):OpQ P ro N fr R ⟨d,.binOp .leq t x y t2,ty,pos,aft,g⟩ (.bool (decide (i<=j))):=
 I7 hx hy (λ_ _=>Dg _ _ _ _ _) (by simp[binOp,Op.intCmp])
theorem Aci(hx:ev fr x=some (.int k i))(hy:ev fr y=some (.int k j)):OpQ P ro N fr R ⟨d,.binOp .gtr t x y t2,ty,pos,aft,g⟩ (.bool (decide (j<i))):=
 I7 hx hy (λ_ _=>Dg _ _ _ _ _) (by simp[binOp,Op.intCmp])
theorem Acj(hx:ev fr x=some (.int k i))(hy:ev fr y=some (.int k j)):OpQ P ro N fr R ⟨d,.binOp .geq t x y t2,ty,pos,aft,g⟩ (.bool (decide (j<=i))):=
 I7 hx hy (λ_ _=>Dg _ _ _ _ _) (by simp[binOp,Op.intCmp])
theorem Ack(hx:ev fr x=some (.int k i))(hy:ev fr y=some (.int k j)):OpQ P ro N fr R ⟨d,.binOp .eql t x y t2,ty,pos,aft,g⟩ (.bool (decide (i=j))):=
 I7 hx hy (λ_ _=>Dg _ _ _ _ _) (by simp[binOp,Op.intCmp];rfl)
theorem Acl(hx:ev fr x=some (.int k i))(hy:ev fr y=some (.int k j)):OpQ P ro N fr R ⟨d,.binOp .neq t x y t2,ty,pos,aft,g⟩ (.bool (decide (¬i=j))):=
 I7 hx hy (λ_ _=>Dg _ _ _ _ _) (by simp[binOp,Op.intCmp,bne];rfl)
theorem Acm{bb:Bool}(hx:ev fr x=some (.bool bb)):OpQ P ro N fr R ⟨d,.unOp .not t x,ty,pos,aft,g⟩ (.bool (!bb)):=BO rfl λρ l hρ _=>by simp only[execOp,hρ x _ hx,Op.unary,AE];exact⟨rfl,rfl⟩
theorem yB(hx:ev fr x=some (.int k i))[c1:IT P src k][c2:IT P dst k'](h:lW k' i):OpQ P ro N fr R ⟨d,.convert src dst x,ty,pos,aft,g⟩ (.int k' i):=BO rfl λρ l hρ _=>by
 have h1:P.underlying src=some (.int k):=by have:=c1.out;unfold rZ at this;split at this<;>simp_all
 have h2:P.underlying dst=some (.int k'):=by have:=c2.out;unfold rZ at this;split at this<;>simp_all
 simp only[execOp,hρ x _ hx,convert,AE];rw[E9 h1,E9 h2];exact⟨by rw[MS h],rfl⟩
theorem Ow(hx:ev fr x=some (.int k i))[c1:IT P src k][c2:IT P dst k']:OpQ P ro N fr R ⟨d,.convert src dst x,ty,pos,aft,g⟩ (.int k' (k'.wrap i)):=BO rfl λρ l hρ _=>by
 have h1:P.underlying src=some (.int k):=by have:=c1.out;unfold rZ at this;split at this<;>simp_all
 have h2:P.underlying dst=some (.int k'):=by have:=c2.out;unfold rZ at this;split at this<;>simp_all
 simp only[execOp,hρ x _ hx,convert,AE];rw[E9 h1,E9 h2];exact⟨rfl,rfl⟩
theorem Ox{t:Nat}(h:ptV P t=some e):P.underlying t=some (.pointer e):=by unfold ptV at h;split at h<;>simp_all
theorem sc(hx:ev fr x=some (.pointer p))(hy:ev fr y=some (.pointer none))[c:PT P t e]:OpQ P ro N fr R ⟨d,.binOp .eql t x y t2,ty,pos,aft,g⟩ (.bool p.isNone):=BO rfl λρ l hρ _=>by simp only[execOp,hρ x _ hx,hρ y _ hy,AE,Kk,Bq,binOp];unfold Op.equal Op.maxDepth Op.equalIn;rw[Cg (Ox c.out)];cases p<;>exact⟨rfl,rfl⟩
theorem sg(hx:ev fr x=some (.pointer p))(hy:ev fr y=some (.pointer none))[c:PT P t e]:OpQ P ro N fr R ⟨d,.binOp .neq t x y t2,ty,pos,aft,g⟩ (.bool p.isSome):=BO rfl λρ l hρ _=>by simp only[execOp,hρ x _ hx,hρ y _ hy,AE,Kk,Bq,binOp];unfold Op.equal Op.maxDepth Op.equalIn;rw[Cg (Ox c.out)];cases p<;>exact⟨rfl,rfl⟩
theorem Acn{p:Bool}(hx:ev fr x=some (.bool p))(hy:ev fr y=some (.bool q))(ht:P.underlying t=some .bool):OpQ P ro N fr R ⟨d,.binOp .eql t x y t2,ty,pos,aft,g⟩ (.bool (p==q)):=BO rfl λρ l hρ _=>by simp only[execOp,hρ x _ hx,hρ y _ hy,AE,QG,Bq,binOp];unfold Op.equal Op.maxDepth Op.equalIn;rw[Cg ht];exact⟨rfl,rfl⟩
theorem Aco{p:Bool}(hx:ev fr x=some (.bool p))(hy:ev fr y=some (.bool q))(ht:P.underlying t=some .bool):OpQ P ro N fr R ⟨d,.binOp .neq t x y t2,ty,pos,aft,g⟩ (.bool (!(p==q))):=BO rfl λρ l hρ _=>by simp only[execOp,hρ x _ hx,hρ y _ hy,AE,QG,Bq,binOp];unfold Op.equal Op.maxDepth Op.equalIn;rw[Cg ht];exact⟨rfl,rfl⟩
theorem iF{vs:Array Value}{ix:Nat}(hx:ev fr x=some (.tuple vs))(hv:vs[ix]?=some v):OpQ P ro N fr R ⟨d,.extract x ix,ty,pos,aft,g⟩ v:=BO rfl λρ l hρ _=>by simp only[execOp,hρ x _ hx,AE,Instr.extract,hv];exact⟨rfl,rfl⟩
theorem bi(hx:SC fr xs=some vs):OpQ P ro N fr R ⟨d,.makeFunc (.func f) #[] xs.toArray,ty,pos,aft,g⟩ (.func (.func f) #[] vs.toArray):=BO rfl λρ l hρ _=>by simp only[execOp,AE,Instr.makeFunc,Dm,hρ.list hx];exact⟨rfl,rfl⟩
theorem QI{k t:Nat}(h:fvV P s f=some (k,t)): ∃fs fd,P.underlying s=some (.struct fs)/\fs[f]?=some fd/\fd.offset=k/\fd.type=t:=by
 unfold fvV at h
 split at h
 ·rename_i fs hu;obtain⟨fd,hf,h2⟩:=Ed.1 h;cases h2;exact⟨fs,fd,hu,hf,rfl,rfl⟩
 ·cases h
theorem YP{Q:α->Ac->Prop}{f:Value->Sem α}{t:Nat}(hc:rY P t=true)(hv:cs[off]?=some v)(h:sl P (f v) l Q):sl P (part t cs off>>=f) l Q:=by obtain⟨u,i,h1,h2,_,_⟩:=MR hc;rw[AE];unfold part;rw[MO h1,h2];simp only[Bn,C0,hv];exact h
theorem lX{Q:α->Ac->Prop}{f:Value->Sem α}{t:Nat}(hc:wj P t=some n)(h:sl P (f (.agg (cs.extract off (off+n)))) l Q):sl P (part t cs off>>=f) l Q:=by obtain⟨u,i,h1,h2,h3,h4⟩:=Ki hc;rw[AE];unfold part;rw[MO h1,h2];simp only[CV];rw[Fa h3,h4];exact h
theorem sm{k:Nat}(hx:ev fr x=some (.agg cs))[c:FV P s f k ft][c2:OC P ft](hv:cs[k]?=some v):OpQ P ro N fr R ⟨d,.field s x f,ty,pos,aft,g⟩ v:=BO rfl λρ l hρ _=>by obtain⟨fs,fd,h1,h2,h3,h4⟩:=QI c.out;simp only[execOp,hρ x _ hx,AE,Instr.field];rw[<-AE,Cg h1];simp only[h2,asAgg,AE,Bq,h3,h4];have:=YP (P:=P) (l:=l) (f:=λv=>(pure v:Sem Value)) (Q:=λa l'=>Next.value a= .value v/\l'=l) c2.out hv ⟨rfl,rfl⟩;rw[AE] at this;exact this
theorem lY{k:Nat}(hx:ev fr x=some (.agg cs))[c:FV P s f k ft][c2:AG P ft n](hv:cs.extract k (k+n)=wc):OpQ P ro N fr R ⟨d,.field s x f,ty,pos,aft,g⟩ (.agg wc):=BO rfl λρ l hρ _=>by subst hv;obtain⟨fs,fd,h1,h2,h3,h4⟩:=QI c.out;simp only[execOp,hρ x _ hx,AE,Instr.field];rw[<-AE,Cg h1];simp only[h2,asAgg,AE,Bq,h3,h4];have:=lX (P:=P) (l:=l) (f:=λv=>(pure v:Sem Value)) (Q:=λa l'=>Next.value a= .value (.agg (cs.extract k (k+n)))/\l'=l) c2.out ⟨rfl,rfl⟩;rw[AE] at this;exact this
theorem lZ{kk:Nat}(hx:ev fr x=some (.slice p n cap))[c:ST P t e kk yb]:OpQ P ro N fr R ⟨d,.call {callee:= .builtin .len,args:=#[x],argTypes:=#[t]},ty,pos,aft,g⟩ (ι (n:Nat)):=BO rfl λρ l hρ _=>by obtain⟨HH,h1,_⟩:=Fj c.out;simp only[execOp,resolve,AE,Bq,invoke,builtin,Dm,AK,CZ,hρ x _ hx,Builtin.len_];show sl P (underlying t>>=_) l _;rw[Cg h1];exact⟨rfl,rfl⟩
theorem Dr{fs:Array Value}{at_:Array TypeId}(hx:ev fr x=some (.func (.func f) fs cs))(hy:SC fr xs=some vs)[c:EN P f](h:Fn P f (fs.toList++vs++cs.toList) l K):OpE P ro N fr l ⟨d,.call {callee:= .value x,args:=xs.toArray,argTypes:=at_},ty,pos,aft,g⟩ K:=by
 refine⟨rfl,λE a W hf hs=>?_⟩;have hρ:=hf.agrees;unfold OpVal;have e:(execOp a.eval ⟨d,.call {callee:= .value x,args:=xs.toArray,argTypes:=at_},ty,pos,aft,g⟩).run P W= .ok (.enter f (fs.toList++vs++cs.toList).toArray) W:=by simp only[execOp,resolve,Dm,hρ.list hy,hρ x _ hx,Deferred.ofValue,Sem.run_bind];simp only[Sem.run_pure,Result.andThen,invoke];rw[c.out];congr 2;apply BQ.1;simp
 rw[e];refine Nh ((h.run E W hs).mono ?_);rintro e W'' ⟨v,l'',rfl,hk,hs''⟩;exact⟨v,rfl,l'',hk,hs''⟩
theorem Az{at_:Array TypeId}(hx:ev fr x=some (.func (.func f) #[] #[]))(hy:SC fr xs=some vs)[c:EN P f](h:Fn P f vs l K):OpE P ro N fr l ⟨d,.call {callee:= .value x,args:=xs.toArray,argTypes:=at_},ty,pos,aft,g⟩ K:=
 Dr hx hy (by simpa using h)
theorem AI{at_:Array TypeId}(hx:ev fr x=some (.func (.func f) #[] #[]))(hy:SC fr xs=some vs)[c:EN P f](h: ∀l,(∀c,c∈R->c∈l)->Fn P f vs l (λv' l'=>v'=v/\l'=l)):OpQ P ro N fr R ⟨d,.call {callee:= .value x,args:=xs.toArray,argTypes:=at_},ty,pos,aft,g⟩ v:=
 ⟨λl hl=>Az hx hy (h l hl)⟩
theorem C8{r:Nat}{at_:Array TypeId}(hx:ev fr x=some (.func (.yield r) #[] #[]))(hy:SC fr xs=some vs)(h:Ot P r vs l K):OpE P ro N fr l ⟨d,.call {callee:= .value x,args:=xs.toArray,argTypes:=at_},ty,pos,aft,g⟩ K:=by
 refine⟨rfl,λE a W hf hs=>?_⟩;have hρ:=hf.agrees;unfold OpVal;obtain⟨fn,tmps,assign,body,Tw,hR⟩:=h.run E W hs;have e:(execOp a.eval ⟨d,.call {callee:= .value x,args:=xs.toArray,argTypes:=at_},ty,pos,aft,g⟩).run P W= .ok (.round r fn tmps assign body) W:=by simp only[execOp,resolve,Dm,hρ.list hy,hρ x _ hx,Deferred.ofValue,Sem.run_bind];simp only[Sem.run_pure,Result.andThen,invoke];rw[<-Tw];congr 1;simp
 rw[e];refine aX (hR.mono ?_);rintro e W'' ⟨v,l'',rfl,hk,hs''⟩;exact⟨v,rfl,l'',hk,hs''⟩
theorem l5{k:Nat}{cs wc:Ap}(hx:ev fr x=some (.agg (τ cs)))[c:FV P s f k ft][c2:AG P ft n](hv:LSub cs k n wc):OpQ P ro N fr R ⟨d,.field s x f,ty,pos,aft,g⟩ (.agg (τ wc)):=
 lY hx (by apply BQ.1;rw[Gk,Co];simpa using hv.spec.1)
theorem Kl{t:Nat}{z:Ap}(h:yy P t=some z): ∃i zv,P.info? t=some i/\i.zero=some zv/\zv.cells.toList=z:=by
 unfold yy at h
 split at h
 ·rename_i i hi
  split at h
  ·rename_i zv hz;cases h;exact⟨i,zv,hi,hz,rfl⟩
  ·cases h
 ·cases h
theorem e_alloc{zs:Ap}[c:ZV P t zs]:OpE P ro N fr l ⟨d,.alloc t,ty,pos,aft,g⟩ (λv l'=> ∃b,(∀c,c∈l->c.1≠b)/\v= π b/\l'=(b,.cells zs.toArray t (0,0))::l):=DS rfl λρ hρ=>by obtain⟨i,zv,h1,h2,h3⟩:=Kl c.out;simp only[execOp,AE,Instr.alloc,zeroValue];rw[<-AE,J9 h1,h2];simp only[Bq,newVar,newRow,AE];intro b hb;exact⟨b,hb,rfl,by rw[<-h3]⟩
theorem wm(hx:ev fr x=some v):OpE P ro N fr l ⟨d,.box e x,ty,pos,aft,g⟩ (λv' l'=> ∃b,(∀c,c∈l->c.1≠b)/\v'= π b/\l'=(b,.cells v.cells e (0,0))::l):=DS rfl λρ hρ=>by simp only[execOp,AE,Instr.box,hρ x _ hx,newVar,newRow];intro b hb;exact⟨b,hb,rfl,rfl⟩
theorem Pc(h:v.oneCell'=true):v.cells=#[v]:=by cases v<;>first|rfl|(simp[Value.oneCell'] at h)
theorem Xh{Q:α->Ac->Prop}{f:Unit->Sem α}(hc:rY P t=true)(h1:v.oneCell'=true)(C7:off<cs.size)(hu:Upd l b (.cells cs T (0,0)) (.cells (cs.setIfInBounds off v) T (0,0)) l')(h:sl P (f ()) l' Q):sl P (storeVar t ⟨b,off,none⟩ v>>=f) l Q:=by obtain⟨u,i,_,_,h3,h4⟩:=MR hc;rw[AE];unfold storeVar;rw[Fa h3,Pc h1,h4];exact⟨h1,cs,T,(0,0),l',hu,rfl,C7,by simp[Addr.add],h⟩
theorem Dy(hx:ev fr x=some (.pointer (some ⟨b,off,none⟩)))(hy:ev fr y=some v)[c:OC P t](h1:v.oneCell'=true)(hu:Upd l b (.cells cs T (0,0)) (.cells (cs.setIfInBounds off v) T (0,0)) l')(C7:off<cs.size):OpE P ro N fr l ⟨d,.store t x y,ty,pos,aft,g⟩ (λv' l2=>v'=undef/\l2=l'):=DS rfl λρ hρ=>by simp only[execOp,hρ x _ hx,hρ y _ hy,Instr.storeAt,AE,Instr.sureAddr,Bq];have:=Xh (P:=P) (f:=λv=>(pure v:Sem Unit)) (Q:=λa l2=>YJ P (λv' l2=>v'=undef/\l2=l') Next.skip l2) c.out h1 C7 hu ⟨rfl,rfl⟩;rw[AE] at this;exact this
theorem EA(hx:ev fr x=some v)(h1:v.oneCell'=true):OpE P ro N fr l ⟨d,.box e x,ty,pos,aft,g⟩ (λv' l'=> ∃b,(∀c,c∈l->c.1≠b)/\v'= π b/\l'=(b,.cells (τ [v]) e (0,0))::l):=
 (wm hx).mono λv' l' ⟨b,h0,h1',h2⟩=>⟨b,h0,h1',by rw[h2,Pc h1]⟩
theorem Cw(hx:ev fr x=some (.agg ws)):OpE P ro N fr l ⟨d,.box e x,ty,pos,aft,g⟩ (λv' l'=> ∃b,(∀c,c∈l->c.1≠b)/\v'= π b/\l'=(b,.cells ws e (0,0))::l):=wm hx
theorem GM{cs:Ap}(hx:ev fr x=some (.pointer (some ⟨b,off,none⟩)))(hy:ev fr y=some v)[c:OC P t](h1:v.oneCell'=true)(hm:(b,Obj.cells (τ cs) T (0,0))∈l)(hs:LSet cs off v cs')(hu:Upd l b (.cells (τ cs) T (0,0)) (.cells (τ cs') T (0,0)) l'):OpE P ro N fr l ⟨d,.store t x y,ty,pos,aft,g⟩ (λv' l2=>v'=undef/\l2=l'):=by refine Dy hx hy h1 (cs:=τ cs) (T:=T) ?_ (by simpa using hs.spec.2);rw[BB,hs.spec.1];exact hu
def Dc(cs:Array Value)(off:Nat):Ap->Array Value
 |[]=>cs
 |v::r=>Dc (cs.setIfInBounds off v) (off+1) r
theorem Upd.mid{l l'':Ac}{o o'':Obj}(o':Obj)(h:Upd l b o o'' l''): ∃l',Upd l b o o' l'/\Upd l' b o' o'' l'':=by
 induction h with
 |here=>exact⟨_,.here,.here⟩
 |there _ ih=>obtain⟨l',h1,h2⟩:=ih;exact⟨_,.there h1,.there h2⟩
theorem Upd.same'{l:Ac}{o:Obj}(h:Upd l b o o' l')(e:o=o'):l'=l:=by
 induction h with
 |here=>rw[e]
 |there _ ih=>rw[ih e]
theorem Upd.same{l:Ac}{o:Obj}(h:Upd l b o o l'):l'=l:=h.same' rfl
theorem Mt{α:Type}{Q:α->Ac->Prop}{f:Unit->Sem α}{T:TypeId}: ∀(vs:Ap) (i:Nat) (cs:Array Value) (l l':Ac),(∀v,v∈vs->v.oneCell'=true)->off+i+vs.length<=cs.size->Upd l b (.cells cs T (0,0)) (.cells (Dc cs (off+i) vs) T (0,0)) l'->sl P (f ()) l' Q->sl P (storeCells ⟨b,off,none⟩ vs i>>=f) l Q
 |[],i,cs,l,l',_,_,hu,h=>by have:=hu.same;subst this;exact h
 |v::r,i,cs,l,l',hv,LJ,hu,h=>by unfold storeCells;rw[AE,AE];show sl P (store ((⟨b,off,none⟩:Addr).add i) v) l _;rw[GL];obtain⟨l1,h1,h2⟩:=hu.mid (.cells (cs.setIfInBounds (off+i) v) T (0,0));simp only[By] at LJ;refine⟨hv v Al,cs,T,(0,0),l1,h1,rfl,by simp only;omega,by simp,?_⟩;show sl P (storeCells ⟨b,off,none⟩ r (i+1)) l1 _;rw[<-AE];exact Mt r (i+1) _ l1 l' (λu hu=>hv u (An _ hu)) (by simp;omega) h2 h
theorem LSetA.spec{l:Ap}{k:Nat}(h:LSetA l k vs r):Dc (τ l) k vs=τ r/\k+vs.length<=l.length:=by
 have key: ∀(vs:Ap) (pre l:Ap) (k:Nat),Dc (τ (pre++l)) (pre.length+k) vs=τ (pre++(Dc (τ l) k vs).toList):=by
  intro vs
  induction vs with
  |nil=>intro pre l k;simp[Dc]
  |cons v vs ih=>intro pre l k;simp only[Dc,BB];rw[Cq _ _ Af,show pre.length+k-pre.length=k by omega,show pre.length+k+1=pre.length+(k+1) by omega];exact ih pre _ _
 induction h with
 |done=>exact⟨rfl,Bm _⟩
 |put h ih=>rename_i x v l r vs;refine⟨?_,by have:=ih.2;simp only[By];omega⟩;simp only[Dc,BB,E7];have:=key vs [v] l 0;simp only[Bk,Ce,BG,CM] at this⊢;rw[this,ih.1]
 |skip h ih=>rename_i x l r vs k;refine⟨?_,by have:=ih.2;simp only[By];omega⟩;have:=key vs [x] l k;simp only[Bk,Ce] at this;rw[KY k 1,this,ih.1]
theorem EG(hx:ev fr x=some (.pointer (some ⟨b,off,none⟩)))(hy:ev fr y=some (.agg ws))[c:AG P t n](hn:ws.size=n)(h1: ∀v,v∈ws.toList->v.oneCell'=true)(hu:Upd l b (.cells cs T (0,0)) (.cells (Dc cs off ws.toList) T (0,0)) l')(C7:off+n<=cs.size):OpE P ro N fr l ⟨d,.store t x y,ty,pos,aft,g⟩ (λv' l2=>v'=undef/\l2=l'):=DS rfl λρ hρ=>by obtain⟨u,i,_,_,h3,h4⟩:=Ki c.out;simp only[execOp,hρ x _ hx,hρ y _ hy,Instr.storeAt,AE,Instr.sureAddr,Bq];unfold storeVar;rw[Fa h3,h4];have e:(Value.agg ws).cells=ws:=rfl;rw[e,hn];simp only[ne_eq,not_true,C0];have:=Mt (P:=P) (f:=λv=>(pure v:Sem Unit)) (Q:=λa l2=>YJ P (λv' l2=>v'=undef/\l2=l') Next.skip l2) ws.toList 0 cs l l' h1 (by simp;omega) hu ⟨rfl,rfl⟩;rw[AE] at this;exact this
theorem VY{cs ws:Ap}(hx:ev fr x=some (.pointer (some ⟨b,off,none⟩)))(hy:ev fr y=some (.agg (τ ws)))[c:AG P t n](hn:ws.length=n)(h1: ∀v,v∈ws->v.oneCell'=true)(hm:(b,Obj.cells (τ cs) T (0,0))∈l)(hs:LSetA cs off ws cs')(hu:Upd l b (.cells (τ cs) T (0,0)) (.cells (τ cs') T (0,0)) l'):OpE P ro N fr l ⟨d,.store t x y,ty,pos,aft,g⟩ (λv' l2=>v'=undef/\l2=l'):=by refine EG hx hy (cs:=τ cs) (T:=T) (by simpa using hn) (by simpa using h1) ?_ (by have:=hs.spec.2;simp;omega);have e:=hs.spec.1;simp only at e⊢;rw[e];exact hu
end
end Go.Proofs.YtlifcingifodfaaGreat
