/- Laws that the statement's proof leans on (joined out of several texts). -/
import Derived.WalkKit
import Derived.ProofKit
import Derived.OpenShut
import Derived.ChangeOld
import Derived.Below
import Derived.Deep.Slices
import Derived.Handy
import Derived.RangeFuncNested
import Derived.RangeFuncBound
import Derived.RangeFuncCalls
import Derived.RangeFuncLeaves
import Derived.Shelf.Abstract
import Derived.Shelf.RegionOpen
import Derived.OwnWalkIn
import Derived.TacticsInMore
import Derived.LoopNIn
import Derived.LoopIn
import Derived.WalkSmall
import Derived.Lib.Hide
import Derived.BigFrameIn
import Derived.BigRegion
import Derived.Deep.QuietTactic
import Derived.BigQuiet
import Derived.WalkMore
import Derived.KernelRfl
namespace Go.Proofs
abbrev BA:=@Array.getElem?_eq_some_iff
abbrev Eg:=@List.foldl_cons
abbrev GT:=@Option.bind_some
abbrev Ae:=@if_pos
abbrev An:=@List.mem_cons_of_mem
abbrev Ak:=@List.mem_cons_self
abbrev Ah:=@List.length_append
abbrev Ac:=@if_neg
abbrev Fq:=@Nat.succ_mul
abbrev HI:=@Option.bind_eq_some_iff
abbrev Ax:=@List.getElem?_eq_some_iff
abbrev Am:=@List.getElem?_eq_getElem
abbrev D1:=@List.take_length
abbrev A5:=@Nat.le_refl
abbrev Bf:=@Nat.zero_le
abbrev Au:=@List.mem_map
abbrev A0:=@List.getElem?_map
abbrev EE:=@List.getElem?_range
abbrev BH:=@Option.map_some
abbrev Dn:=@Option.getD_some
abbrev Cw:=@Array.getElem?_eq_getElem
abbrev DI:=@List.sublist_cons_self
abbrev AJ:=@List.map_cons
abbrev AM:=@List.nodup_cons
abbrev Aq:=@List.mem_cons
abbrev Di:=@Iff.rfl
abbrev Bg:=@Bool.false_eq_true
abbrev C0:=@Array.getD_eq_getD_getElem?
abbrev E8:=@Nat.eq_of_beq_eq_true
abbrev FG:=@Array.getElem?_setIfInBounds_ne
abbrev KS:=@Nat.le_of_not_lt
abbrev DW:=@Nat.lt_of_le_of_lt
abbrev CT:=@if_true
abbrev CS:=@if_false
abbrev DJ:=@Option.map_eq_some_iff
abbrev C9:=@List.getElem?_cons_succ
abbrev AE:=@List.getElem?_toArray
abbrev Bi:=@List.length_cons
abbrev JB:=@Array.append_empty
abbrev BJ:=@Array.toList_inj
abbrev Ka:=@Array.toList_push
abbrev Gw:=@Array.toList_extract
abbrev Cx:=@List.extract_eq_take_drop
abbrev Al:=@List.append_assoc
abbrev Ca:=@List.singleton_append
abbrev CX:=@List.drop_eq_getElem_cons
abbrev IP:=@Nat.add_assoc
abbrev CN:=@Nat.add_zero
abbrev JC:=@Array.empty_append
abbrev Da:=@List.map_toArray
abbrev CY:=@List.map_nil
abbrev Bq:=@List.setIfInBounds_toArray
abbrev Cg:=@List.set_append_right
abbrev EX:=@List.set_cons_zero
abbrev Bl:=@List.length_singleton
abbrev Bw:=@Nat.zero_add
abbrev Js:=@Nat.add_comm
abbrev At:=@decide_eq_true
abbrev Aw:=@decide_eq_false
abbrev HY:=@List.Perm.refl
abbrev AH:=@List.perm_middle
abbrev El:=@List.Perm.append_left
abbrev Hk:=@List.all_cons
abbrev AX:=@Bool.and_eq_true
abbrev Aa:=@List.mem_append_right
abbrev HZ:=@List.Perm.append_right
abbrev Em:=@List.perm_append_comm
abbrev A6:=@List.all_eq_true
abbrev Fl:=@Bool.or_eq_true
abbrev JD:=@beq_iff_eq
abbrev Br:=@decide_eq_true_eq
abbrev Kb:=@Array.getElem_mem
abbrev BY:=@List.pairwise_cons
abbrev Gn:=@Ne.symm
abbrev AF:=@List.mem_append
abbrev Ai:=@List.mem_append_left
abbrev Ap:=@List.map_append
abbrev Ad:=@List.cons_append
abbrev Bh:=@List.pairwise_append
abbrev FX:=@List.append_of_mem
abbrev Jm:=@List.Sublist.append
abbrev Eb:=@List.Sublist.refl
abbrev Be:=@List.append_nil
abbrev Ag:=@List.nil_append
abbrev CJ:=@List.cons.injEq
abbrev Iu:=@List.contains_iff_mem
abbrev GU:=@List.any_eq_true
abbrev Ex:=@Bool.not_eq_true'
abbrev Dz:=@List.nodup_iff_pairwise_ne
abbrev Ck:=@List.pairwise_map
abbrev FK:=@List.length_eq_zero_iff
abbrev KU:=@true_and
abbrev BM:=@congrArg
abbrev AZ:=@List.length_map
abbrev H0:=@Option.some.injEq
abbrev EY:=@List.getElem?_take
abbrev JE:=@List.getElem?_drop
abbrev EM:=@Nat.add_mul
abbrev DO:=@List.eq_nil_of_length_eq_zero
abbrev Bm:=@List.size_toArray
abbrev Gx:=@Nat.mul_le_mul_right
abbrev DK:=@List.length_drop
abbrev AC:=@List.getElem?_append_left
abbrev JF:=@Nat.pos_of_ne_zero
abbrev Dq:=@List.ext_getElem?
abbrev BE:=@List.replicate_succ
abbrev Cl:=@List.flatten_cons
abbrev Db:=@Nat.mod_eq_of_lt
abbrev AP:=@List.getElem?_append_right
abbrev Jn:=@Nat.succ_eq_add_one
abbrev JG:=@Nat.mod_eq_sub_mod
abbrev KV:=@Array.toList_map
abbrev JH:=@Array.toList_range
abbrev Gy:=@Nat.mod_lt
abbrev FL:=@List.getElem!_eq_getElem?_getD
abbrev Bb:=@List.getElem?_eq_none
abbrev Dr:=@Nat.sub_self
abbrev DF:=@Option.map_none
abbrev Dc:=@List.getElem?_cons_zero
abbrev Fz:=@List.eq_of_mem_replicate
abbrev Hd:=@Array.toList_modify
abbrev Ir:=@List.eraseIdxIfInBounds_toArray
abbrev C4:=@List.eraseIdx_eq_take_drop_succ
abbrev FA:=@List.map_take
abbrev Cr:=@List.mem_filter
abbrev IB:=@List.getElem_mem
abbrev BB:=@List.find?_cons
abbrev FY:=@Nat.zero_mul
abbrev A9:=@List.mem_of_getElem?
abbrev GV:=@List.nil_sublist
abbrev Ay:=@List.perm_append_comm_assoc
abbrev H9:=@Nat.mul_le_mul
abbrev BZ:=@List.Sublist.subset
abbrev Bn:=@Bool.true_and
abbrev Bd:=@Bool.false_and
abbrev Cb:=@List.take_append_drop
abbrev FM:=@List.foldl_nil
abbrev Dj:=@List.drop_of_length_le
abbrev JI:=@List.drop_drop
abbrev Ht:=@List.headD_cons
abbrev Eh:=@List.length_nil
abbrev Gz:=@Std.Legacy.Range.forIn_eq_forIn_range'
abbrev Kc:=@List.mem_range'_1
abbrev Cm:=@List.flatMap_cons
abbrev F8:=@List.take_left'
abbrev IC:=@List.drop_append
abbrev Fs:=@List.extract_toArray
abbrev CP:=@Nat.add_sub_cancel_left
abbrev Bs:=@List.nodup_append
abbrev Kd:=@Nat.lt_succ_of_lt
abbrev AA:=@List.mem_singleton
abbrev GW:=@Nat.lt_succ_self
abbrev HU:=@List.eraseIdx_append_of_length_le
abbrev A3:=@Int.toNat_natCast
abbrev DU:=@Nat.min_eq_left
abbrev DA:=@BitVec.ofInt_natCast
abbrev DX:=@BitVec.toNat_ofNat
abbrev KW:=@BitVec.toNat_and
abbrev Jd:=@Nat.and_le_left
abbrev BW:=@Nat.le_trans
abbrev Je:=@Int.natCast_mul
abbrev KE:=@Bool.false_or
abbrev EG:=@Array.getElem?_eq_none
abbrev Ia:=@List.tail_cons
abbrev Ib:=@Bool.not_false
abbrev Is:=@List.replicate_append_replicate
abbrev Dk:=@Array.ext_getElem?
abbrev B0:=@List.take_add_one
abbrev BD:=@List.take_prefix
abbrev Bz:=@List.take_of_length_le
abbrev DL:=@List.flatMap_append
abbrev CD:=@List.map_map
abbrev Hu:=@List.drop_left'
abbrev BU:=@List.length_take
abbrev ID:=@List.mem_flatMap
abbrev BK:=@List.not_mem_nil
abbrev Ec:=@or_false
abbrev HV:=@List.set_eq_take_append_cons_drop
abbrev GA:=@List.set_append_left
abbrev Hx:=@List.set_cons_succ
abbrev Ke:=@List.getElem?_set
abbrev Ey:=@of_decide_eq_true
abbrev HW:=@List.findIdx?_eq_some_iff_getElem
abbrev IY:=@List.getElem?_of_mem
abbrev F9:=@List.takeWhile_append_of_pos
abbrev EZ:=@List.takeWhile_cons_of_neg
abbrev GB:=@List.dropWhile_cons_of_neg
abbrev G9:=@List.pairwise_iff_getElem
abbrev BV:=@List.takeWhile_append_dropWhile
abbrev GC:=@List.takeWhile_cons_of_pos
abbrev Ic:=@List.dropWhile_sublist
abbrev Dh:=@Nat.mul_one
abbrev Ft:=@List.length_eraseIdx
abbrev Gu:=@Array.getElem?_setIfInBounds_self_of_lt
abbrev Cs:=@List.range_succ
abbrev Dl:=@List.filter_append
abbrev ET:=@List.filter_cons
abbrev Ga:=@List.prefix_rfl
abbrev FZ:=@List.prefix_append
abbrev FN:=@List.mem_range
abbrev DP:=@List.find?_append
abbrev Bu:=@List.find?_eq_none
abbrev Ei:=@List.find?_some
abbrev BN:=@List.mem_of_find?_eq_some
abbrev Gp:=@List.idxOf_lt_length_of_mem
abbrev GD:=@List.IsPrefix.subset
abbrev C6:=@List.length_filter_le
abbrev Ez:=@Nat.le_succ_of_le
abbrev Hl:=@Option.isSome_iff_exists
abbrev AV:=@Option.some.inj
abbrev Id:=@Bool.and_false
abbrev Hy:=@Option.isSome_some
abbrev HJ:=@List.filter_cons_of_neg
abbrev Dt:=@Nat.testBit_eq_decide_div_mod_eq
abbrev Ml:=@and_true
abbrev DY:=@Nat.lt_of_lt_of_le
abbrev CG:=@Nat.pow_le_pow_right
abbrev EH:=@Nat.testBit_lt_two_pow
abbrev E0:=@Option.isSome_none
abbrev E1:=@List.perm_ext_iff_of_nodup
abbrev Hz:=@List.all_takeWhile
abbrev De:=@List.getD_eq_getElem?_getD
abbrev Bt:=@List.map_congr_left
abbrev Gb:=@Nat.two_pow_pos
abbrev HK:=@Nat.testBit_mod_two_pow
abbrev EA:=@Nat.testBit_div_two_pow
abbrev IZ:=@Nat.eq_of_testBit_eq
abbrev EI:=@Array.getElem?_extract
abbrev EJ:=@List.getElem?_set_self
abbrev I0:=@Prod.ext
abbrev I3:=@List.getElem?_set_ne
abbrev Gc:=@List.dropLast_cons_of_ne_nil
abbrev KX:=@List.cons_ne_nil
abbrev IE:=@List.dropLast_append_of_ne_nil
abbrev E9:=@List.takeWhile_prefix
abbrev Gd:=@List.dropLast_concat_getLast
abbrev FB:=@List.Sublist.append_left
abbrev Ek:=@List.mem_or_eq_of_mem_set
abbrev Jf:=@Bool.eq_iff_iff
abbrev HL:=@decide_eq_false_iff_not
abbrev AL:=@List.getElem_toArray
abbrev AI:=@List.getElem_cons_zero
abbrev HA:=@decide_eq_true_iff
abbrev Ct:=@List.length_set
abbrev Hm:=@List.mem_of_mem_eraseIdx
abbrev FC:=@not_not_intro
abbrev DM:=@List.toList_toArray
abbrev GX:=@List.map_set
abbrev GE:=@List.mem_of_mem_take
abbrev Iv:=@List.IsPrefix.getElem
abbrev Ha:=@List.getElem_append_right
abbrev EC:=@List.length_range
abbrev Jg:=@Bool.toNat_true
abbrev KY:=@Bool.toNat_false
abbrev ED:=@List.foldl_append
abbrev Ge:=@List.take_range
abbrev IF:=@List.append_inj'
abbrev AN:=@List.getElem_cons_succ
abbrev FT:=@decide_true
abbrev GY:=@decide_false
abbrev HM:=@List.prefix_iff_eq_take
abbrev KF:=@Bool.toNat_le
theorem Af{p:Prop}(h:p:=by omega):p:=h
theorem Bv{p:Prop}(h:p:=by kernel_rfl):p:=h
theorem AW{p:Prop}(h:p:=by decide):p:=h
end Go.Proofs
set_option linter.unusedVariables false
set_option linter.unusedSimpArgs false
namespace Go.Proofs.YtlkgekpmileobaaGreat
open Go.ChangeShapes Go.WideShapes Go.ChangeAt Go.RowKit Go.Deep
variable{v:Value}{a ks:List (Option IntKind)}{x:List Value}{w:World}{r:Reach}{b0:Nat}{t:TypeId}{p:List MemPlace}
def nv:Option IntKind->Value->Prop
 |some k,v=> ∃a:Int,v= .int k a/\(Lit.int k a).wf=true
 |none,v=> ∃b:Bool,v= .bool b
def AllIs:List (Option IntKind)->List Value->Prop
 |[],cs=>cs=[]
 |k::ks,cs=> ∃c r,cs=c::r/\nv k c/\AllIs ks r
theorem AllIs.append{b:List (Option IntKind)}{y:List Value}(h:AllIs a x)(k:AllIs b y):AllIs (a++b) (x++y):=by
 induction a generalizing x with
 |nil=>cases h;exact k
 |cons q a ih=>obtain⟨c,r,rfl,h1,h2⟩:=h;exact⟨c,r++y,rfl,h1,ih h2⟩
theorem AllIs.len(h:AllIs a x):x.length=a.length:=by
 induction a generalizing x with
 |nil=>cases h;rfl
 |cons q a ih=>obtain⟨c,r,rfl,h1,h2⟩:=h;simp[ih h2]
def Mm(P:Program):Nat->TypeId->Option (List (Option IntKind))
 |0,_=>none
 |n+1,t=>
  match P.underlying t with
  |some (.int k)=>some [some k]
  |some .bool=>some [none]
  |some (.struct fs)=>fs.toList.foldl (λacc f=>acc.bind λl=>(Mm P n f.type).bind λks=>if f.offset=l.length/\ks.length=P.cellsOf f.type then some (l++ks) else none) (some []) |>.bind λks=>if ks.length=P.cellsOf t then some ks else none
  |some (.array len e)=>(Mm P n e).bind λks=>if ks.length=P.cellsOf e/\len*P.cellsOf e=P.cellsOf t then some ((List.replicate len ks).flatten) else none
  |_=>none
theorem Lk{α β:Type}(g:List α->β->Option (List α))(fs:List β):fs.foldl (λacc f=>acc.bind λl=>g l f) none=none:=by
 induction fs with
 |nil=>rfl
 |cons f fs ih=>simpa using ih
theorem QE{a:Addr}(h:w.cell? a=some v):a.block<w.heap.size/\True:=by
 refine⟨?_,trivial⟩;unfold World.cell? at h
 split at h
 ·rename_i ho;exact(BA.1 ho).1
 ·cases h
section
variable{H:Type}{enc:TypeId×Value->H}{P:Program}{base:Nat}{spare:Nat->Bool}{held:Bool}
theorem Vk(n m:Nat)(ih: ∀(t:TypeId) (m:Nat) (cs:List Value) (x:DataW H×List MemPlace) (ks:List (Option IntKind)),DataW.trod enc P w base spare held m t cs=some x->Mm P n t=some ks->AllIs ks cs)(cs:List Value):
 ∀(fs:List Field) (l ks:List (Option IntKind)),(∀f∈fs,∃x,DataW.trod enc P w base spare held m f.type ((cs.drop f.offset).take (P.cellsOf f.type))=some x)->
  AllIs l (cs.take l.length)->fs.foldl (λacc f=>acc.bind λl=>(Mm P n f.type).bind λks=>if f.offset=l.length/\ks.length=P.cellsOf f.type then some (l++ks) else none) (some l)=some ks->AllIs ks (cs.take ks.length):=by
 intro fs
 induction fs with
 |nil=>intro l ks _ hl h;simp at h;subst h;exact hl
 |cons f fs ihf=>
  intro l ks hx hl h;simp only[Eg,GT] at h;cases hk:Mm P n f.type with
  |none=>rw[hk] at h;simp only[Option.bind_none] at h;rw[Lk] at h;cases h
  |some kf=>
   rw[hk] at h;simp only[GT] at h;by_cases hc:f.offset=l.length/\kf.length=P.cellsOf f.type
   ·rw[Ae hc] at h;refine ihf _ _ (λg hg=>hx g (An _ hg)) ?_ h;obtain⟨x,hxf⟩:=hx f Ak;have:=ih f.type m _ x kf hxf hk;rw[Ah,List.take_add,<-hc.1];rw[<-hc.2] at this;rw[hc.1] at this⊢;exact hl.append this
   ·rw[Ac hc,Lk] at h;cases h
theorem aj(n m:Nat)(e:TypeId)(ks:List (Option IntKind))(ih: ∀(cs:List Value) (x:DataW H×List MemPlace),DataW.trod enc P w base spare held m e cs=some x->AllIs ks cs)(cs:List Value)(hk:ks.length=P.cellsOf e):
 ∀(k:Nat),(∀i,i<k-> ∃x,DataW.trod enc P w base spare held m e ((cs.drop (i*P.cellsOf e)).take (P.cellsOf e))=some x)->AllIs ((List.replicate k ks).flatten) (cs.take (k*P.cellsOf e)):=by
 intro k
 induction k with
 |zero=>intro _;simp[AllIs]
 |succ k ihk=>intro h;have h1:=ihk (λi hi=>h i Af);obtain⟨x,hx⟩:=h k Af;have h2:=ih _ x hx;rw[Fq,List.take_add,List.replicate_succ',List.flatten_append];simpa using h1.append h2
theorem SR: ∀(n:Nat) (t:TypeId) (m:Nat) (cs:List Value) (x:DataW H×List MemPlace) (ks:List (Option IntKind)),DataW.trod enc P w base spare held m t cs=some x->Mm P n t=some ks->AllIs ks cs:=by
 intro n
 induction n with
 |zero=>intro t m cs x ks _ h;simp[Mm] at h
 |succ n ih=>
  intro t m cs x ks hx h;unfold Mm at h
  split at h
  ·rename_i k ht;obtain⟨a,rfl,_,wa⟩:=DataW.trod_int ht hx;cases h;exact⟨_,_,rfl,⟨a,rfl,wa⟩,rfl⟩
  ·rename_i ht;obtain⟨b,rfl,_⟩:=DataW.trod_bool ht hx;cases h;exact⟨_,_,rfl,⟨b,rfl⟩,rfl⟩
  ·rename_i fs ht;obtain⟨xs,m',_,_,hl,hlen,hf⟩:=DataW.trod_struct ht hx;obtain⟨k0,hk0,hk1⟩:=HI.1 h;by_cases hc:k0.length=P.cellsOf t
   ·rw[Ae hc] at hk1;cases hk1;have:=Vk n m' ih cs fs.toList [] ks (λf hfm=>by
     obtain⟨i,hi,he⟩:=List.getElem_of_mem hfm;have h0:=hf i f (by rw[<-Array.getElem?_toList];exact Ax.2 ⟨hi,he⟩);have hix:i<xs.length:=by rw[hlen];simpa using hi
     exact⟨xs[i],by rw[h0];exact Am hix⟩) rfl hk0
    rwa [hc,<-hl,D1] at this
   ·rw[Ac hc] at hk1;cases hk1
  ·rename_i len e ht;obtain⟨xs,m',_,_,hl,hlen,hf⟩:=DataW.trod_array ht hx;cases hk:Mm P n e with
   |none=>rw[hk] at h;cases h
   |some ke=>
    rw[hk] at h;simp only[GT] at h;by_cases hc:ke.length=P.cellsOf e/\len*P.cellsOf e=P.cellsOf t
    ·rw[Ae hc] at h;cases h;have:=aj n m' e ke (λcs' x' hx'=>ih e m' cs' x' ke hx' hk) cs hc.1 len (λi hi=>by
      have h0:=hf i hi;have hix:i<xs.length:=by omega
      exact⟨xs[i],by rw[h0];exact Am hix⟩)
     rwa [hc.2,<-hl,D1] at this
    ·rw[Ac hc] at h;cases h
  ·cases h
theorem ak{d:DataW H}(n:Nat)
 (hag:(match P.underlying t with|some (.struct _)|some (.array _ _)=>true|_=>false)=true)(hk:Mm P n t=some ks)
 (hv:Value.okWide P w r b0 t v)(h:DataW.Trod enc P w base spare held t v d p): ∃cs:List Value,v= .agg cs.toArray/\AllIs ks cs:=by
 obtain⟨cs,rfl⟩: ∃cs,v= .agg cs:=by
  unfold Value.okWide at hv
  split at hv
  ·obtain⟨cs,h1,_⟩:=hv;exact⟨cs,h1⟩
  ·obtain⟨cs,h1,_⟩:=hv;exact⟨cs,h1⟩
  ·rename_i h1 h2
   split at hag
   ·rename_i hu;exact absurd hu (h1 _)
   ·rename_i hu;exact absurd hu (h2 _ _)
   ·cases hag
 obtain⟨fuel,hf⟩:=h;simp only[Value.cells] at hf;exact⟨cs.toList,by simp,SR n t fuel _ _ ks hf hk⟩
structure Ua(ks:List (Option IntKind))(w:World)(a:Option Addr)(len cap:Nat)(rows:List (List Value)):Prop where
 nil:a=none->len=0/\cap=0
 le:len<=cap
 max:cap<=maxLen
 size:rows.length=len
 all: ∀r∈rows,AllIs ks r
 at_:0<len-> ∃b off,a=some ⟨b,off,none⟩/\b<w.heap.size/\ ∀i j,i<len->j<ks.length->w.cell? ⟨b,off+i*ks.length+j,none⟩=(rows[i]?.getD [])[j]?
theorem al{e:TypeId}{d:DataW H}(n:Nat)
 (ht:P.underlying t=some (.slice e))(hk:Mm P n e=some ks)(hkl:ks.length=P.cellsOf e)(hpos:0<P.cellsOf e)
 (hv:Value.okWide P w r b0 t v)(h:DataW.Trod enc P w base spare held t v d p):
 ∃a len cap rows,v= .slice a len cap/\Ua ks w a len cap rows:=by
 obtain⟨a0,len,cap,rfl⟩:=okWide_slice ht hv;obtain⟨fuel,hf⟩:=h;simp only[Value.cells] at hf;rcases open_slice ht hf with⟨MM,_⟩|⟨a,len',cap',m,n',D,Pl,MM,hb,hl,hm,hmm,_,hel⟩
 ·simp at MM;obtain⟨rfl,rfl,rfl⟩:=MM;exact⟨none,0,0,[],rfl,⟨λ_=>⟨rfl,rfl⟩,A5 _,Bf _,rfl,by simp,by simp⟩⟩
 ·simp at MM;obtain⟨rfl,rfl,rfl⟩:=MM;have hlm:len<=m:=by rw[hmm];split<;>omega
  have hch: ∀i,i<len-> ∃cs',w.cells? base (a.add (i*P.cellsOf e)) (P.cellsOf e)=some cs'/\AllIs ks cs':=λi hi=>by obtain⟨cs',h1,h2⟩:=hel i Af;exact⟨cs',h1,SR n e n' cs' _ ks h2 hk⟩
  refine⟨some a,len,cap,(List.range len).map λi=>(w.cells? base (a.add (i*P.cellsOf e)) (P.cellsOf e)).getD [],rfl,⟨by simp,hl,hm,by simp,?_,?_⟩⟩
  ·intro r hr;obtain⟨i,hi,rfl⟩:=Au.1 hr;obtain⟨cs',h1,h2⟩:=hch i (by simpa using hi);rw[h1];exact h2
  ·intro h0;obtain⟨cs0,h1,h2⟩:=hch 0 h0;obtain⟨_,hl0,hc0⟩:=World.cells?_some h1;have hc00:=hc0 0 hpos;have hlen0:0<cs0.length:=by omega
   rw[Am hlen0] at hc00;have hsp:=World.cell?_spot hc00;obtain⟨b,off,spot⟩:=a;simp[Addr.add] at hsp;subst hsp;refine⟨b,off,rfl,?_,λi j hi hj=>?_⟩
   ·have:=(QE hc00).1;simpa[Addr.add] using this
   ·obtain⟨cs',h1,h2⟩:=hch i hi;obtain⟨_,hl1,hc1⟩:=World.cells?_some h1;have:=hc1 j Af;simp only[A0,EE hi,BH,Dn,h1];rw[<-this,hkl];congr 1;unfold Addr.add;by_cases hi0:i*P.cellsOf e=0
    ·rw[Ae hi0,hi0];by_cases hj0:j=0
     ·rw[Ae hj0];simp[hj0]
     ·rw[Ac hj0];simp
    ·rw[Ac hi0];by_cases hj0:j=0
     ·rw[Ae hj0];simp[hj0]
     ·rw[Ac hj0]
end
end Go.Proofs.YtlkgekpmileobaaGreat
namespace Go.Proofs.YtlkgekpmileobaaGreat
open Go.RowKit
variable{P:Program}{t:TypeId}{b i:Nat}{α:Type}{W w E:World}{a:Act}{c:Code}{cs:Array Value}{fz fr:Nat×Nat}{k:List Item}{o o':Obj}
theorem Vm{c:Array Value}(h:W.heap[b]?=some (.cells c t fr)): ∀i,W.cell? ⟨b,i,none⟩=c[i]?:=λi=>by simp[World.cell?,h]
theorem iZ{c:Array Value}(h:W.heap[b]?=some (.cells c t fr))(v:Value):(W.setCell ⟨b,i,none⟩ v).heap[b]?=some (.cells (c.setIfInBounds i v) t fr):=by obtain⟨hlt,hk⟩:=BA.1 h;show(W.heap.modify b _)[b]?=_;rw[Cw (by rw[Array.size_modify];exact hlt),Array.getElem_modify_self,hk];rfl
theorem I4{b:Frame}{cs:List Frame}:step P (lone (b.atR a (.code (.scope c)::k)) cs w)= .next (lone (b.atR a (.code c:: .inScope c::k)) cs w):=
 step_lone_go (by simp[stepG,stepG.exec,Frame.atR])
theorem Sv{b:Frame}{cs:List Frame}:step P (lone (b.atR a (.inScope c::k)) cs w)= .next (lone (b.atR a k) cs w):=
 step_lone_go (by simp[stepG,stepG.exec,Frame.atR])
theorem W7{F:Fence}{n:Nat}{Q:Exit->Act->World->Prop}(h:c.wpIn F n P (Exit.noGoto Q) a w):(Code.scope c).wpIn F n P Q a w:=by
 intro b k cs hro hb hr;have h0:(lone (b.atR a (.code (.scope c)::k)) cs w).fenced P F:=fenced_calm hb hr rfl;obtain⟨e,a₁,w₁,hq,harr⟩:=h b (.inScope c::k) cs hro hb hr;cases e with
 |normal=>exact⟨.normal,a₁,w₁,hq,.head h0 I4 (StepsIn.trans harr (.one (fenced_calm hb hr rfl) Sv))⟩
 |exit id=>exact⟨.exit id,a₁,w₁,hq,.of_steps (.one h0 I4) ⟨λk' hk=>harr.1 k' (by simp[exitTo,hk]),λhr' hk=>harr.2 hr' (by simp[exitTo,hk])⟩⟩
 |goto l=>exact hq.elim
 |ret=>exact⟨_,a₁,w₁,hq,.of_steps (.one h0 I4) harr⟩
 |panic ch=>exact⟨_,a₁,w₁,hq,.of_steps (.one h0 I4) harr⟩
 |outgrown=>exact⟨_,a₁,w₁,hq,.of_steps (.one h0 I4) harr⟩
abbrev Ab:=Nat×Obj
variable{l:List Ab}
structure Sat(E:World)(l:List Ab)(W:World):Prop where
 os:W.os=E.os
 tape:W.tape=E.tape
 output:W.output=E.output
 nodup:(l.map Prod.fst).Nodup
 has: ∀c,c∈l->W.heap[c.1]?=some c.2
section
variable{l':List Ab}{c:Ab}
theorem Sat.perm(h:Sat E l W)(p:l.Perm l'):Sat E l' W:=
 ⟨h.os,h.tape,h.output,(p.map _).nodup_iff.1 h.nodup,λc hc=>h.has c (p.mem_iff.2 hc)⟩
theorem Sat.sub(h:Sat E l W)(s:l'.Sublist l):Sat E l' W:=
 ⟨h.os,h.tape,h.output,List.Nodup.sublist (s.map _) h.nodup,λc hc=>h.has c (s.subset hc)⟩
theorem Sat.tail(h:Sat E (c::l) W):Sat E l W:=h.sub (DI _ _)
theorem Sat.lt(h:Sat E l W)(hc:c∈l):c.1<W.heap.size:=(BA.1 (h.has c hc)).1
theorem Sat.drawn(h:Sat E l W)(n:Nat):Sat E l {W with drawn:=n}:=⟨h.os,h.tape,h.output,h.nodup,h.has⟩
theorem Sat.drew(h:Sat E l W):Sat E l W.drew:=⟨h.os,h.tape,h.output,h.nodup,h.has⟩
theorem Sat.alloc(h:Sat E l W)(o:Obj):Sat E ((W.heap.size,o)::l) (W.alloc o):=by
 refine⟨h.os,h.tape,h.output,?_,λc hc=>?_⟩
 ·rw[AJ,AM];refine⟨λhm=>?_,h.nodup⟩;obtain⟨c,hc,he⟩:=Au.1 hm;have:=h.lt hc;simp only at he;omega
 ·rcases Aq.1 hc with rfl|hc
  ·exact World.alloc_heap_new W o
  ·exact(Below.heap_alloc W o c.1 (h.lt hc)).trans (h.has c hc)
inductive Upd:List Ab->Nat->Obj->Obj->List Ab->Prop
 |here {l:List Ab} {b:Nat} {o o':Obj}:Upd ((b,o)::l) b o o' ((b,o')::l)
 |there {l l':List Ab} {b:Nat} {o o':Obj} {c:Ab}:Upd l b o o' l'->Upd (c::l) b o o' (c::l')
theorem Upd.mem(h:Upd l b o o' l'):(b,o)∈l:=by
 induction h with
 |here=>exact Ak
 |there _ ih=>exact An _ ih
theorem Upd.keys(h:Upd l b o o' l'):l'.map Prod.fst=l.map Prod.fst:=by
 induction h with
 |here=>rfl
 |there _ ih=>simp[ih]
theorem Upd.inv(h:Upd l b o o' l'): ∀c,c∈l'->c=(b,o')\/c∈l:=by
 induction h with
 |here=>intro c hc;rcases Aq.1 hc with rfl|hc
        ·exact .inl rfl
        ·exact .inr (An _ hc)
 |there _ ih=>intro c hc;rcases Aq.1 hc with rfl|hc
              ·exact .inr Ak
              ·exact(ih c hc).imp id (An _)
theorem am(h:(l.map Prod.fst).Nodup)(h1:(b,o)∈l)(h2:(b,o')∈l):o=o':=by
 induction l with
 |nil=>cases h1
 |cons c l ih=>
  rw[AJ,AM] at h;rcases Aq.1 h1 with e1|h1<;>rcases Aq.1 h2 with e2|h2
  ·rw[<-e1] at e2;cases e2;rfl
  ·exact absurd (Au.2 ⟨_,h2,by rw[<-e1]⟩) h.1
  ·exact absurd (Au.2 ⟨_,h1,by rw[<-e2]⟩) h.1
  ·exact ih h.2 h1 h2
theorem Upd.other(h:Upd l b o o' l')(hn:(l.map Prod.fst).Nodup): ∀c,c∈l'->c=(b,o')\/(c∈l/\c.1≠b):=by
 intro c hc;by_cases hb:c.1=b
 ·left;obtain⟨k,x⟩:=c;simp only at hb;subst hb;have hm:(k,o')∈l':=by
   clear hc hn
   induction h with
   |here=>exact Ak
   |there _ ih=>exact An _ ih
  rw[am (by rw[h.keys];exact hn) hc hm]
 ·rcases h.inv c hc with rfl|hc
  ·exact absurd rfl hb
  ·exact .inr ⟨hc,hb⟩
theorem Sat.upd(h:Sat E l W)(u:Upd l b o o' l'):Sat E l' (W.putObj b o'):=by
 refine⟨h.os,h.tape,h.output,by rw[u.keys];exact h.nodup,λc hc=>?_⟩;rcases u.other h.nodup c hc with rfl|⟨hm,hne⟩
 ·exact World.putObj_heap_same (h.lt u.mem)
 ·exact(World.putObj_heap_other hne).trans (h.has c hm)
theorem Sat.setCell{v:Value}(h:Sat E l W)(u:Upd l b (.cells cs t fz) (.cells (cs.setIfInBounds i v) t fz) l'):Sat E l' (W.setCell ⟨b,i,none⟩ v):=by
 refine⟨h.os,h.tape,h.output,by rw[u.keys];exact h.nodup,λc hc=>?_⟩;rcases u.other h.nodup c hc with rfl|⟨hm,hne⟩
 ·exact iZ (h.has _ u.mem) v
 ·exact(Below.heap_setCell _ _ _ _ hne).trans (h.has c hm)
theorem Sat.cell(h:Sat E l W)(hm:(b,Obj.cells cs t fz)∈l)(i:Nat):W.cell? ⟨b,i,none⟩=cs[i]?:=Vm (h.has _ hm) i
theorem Sat.frz(h:Sat E l W)(hm:(b,Obj.cells cs t fz)∈l)(i:Nat):W.frozen? ⟨b,i,none⟩=(decide (fz.1<=i)&&decide (i<fz.2)):=by obtain⟨lo,hi⟩:=fz;simp[World.frozen?,h.has _ hm]
end
def sl(P:Program){α:Type}:Sem α->List Ab->(α->List Ab->Prop)->Prop
 | .pure a,l,Q=>Q a l
 | .load _ a k,l,Q=> ∃c t fz v,(a.block,Obj.cells c t fz)∈l/\a.spot=none/\c[a.off]?=some v/\sl P (k v) l Q
 | .store _ a v k,l,Q=>v.oneCell'=true/\ ∃c t fz l',Upd l a.block (.cells c t fz) (.cells (c.setIfInBounds a.off v) t fz) l'/\a.spot=none/\a.off<c.size/\(decide (fz.1<=a.off)&&decide (a.off<fz.2))=false/\sl P k l' Q
 | .new o k,l,Q=> ∀b,(∀c,c∈l->c.1≠b)->sl P (k b) ((b,o)::l) Q
 | .shape r k,l,Q=> ∃c t fz,(r,Obj.cells c t fz)∈l/\sl P (k (some (t,c.size))) l Q
 | .frozen a k,l,Q=> ∃c t fz,(a.block,Obj.cells c t fz)∈l/\a.spot=none/\sl P (k (decide (fz.1<=a.off)&&decide (a.off<fz.2))) l Q
 | .getObj r k,l,Q=> ∃o,(r,o)∈l/\o.isCells=false/\sl P (k o) l Q
 | .setObj r o' k,l,Q=> ∃o l',Upd l r o o' l'/\o.isCells=false/\sl P k l' Q
 | .choose q k,l,Q=> ∀t,sl P (k (if q.forced then 0 else q.cut t)) l Q
 | .program k,l,Q=>sl P (k P) l Q
 | .mark _ k,l,Q=>sl P k l Q
 | .halt _,_,_=>False
 | .freeze ..,_,_=>False
 | .sys ..,_,_=>False
theorem i4{Q Q':α->List Ab->Prop}(hq: ∀a l,Q a l->Q' a l)(s:Sem α): ∀l,sl P s l Q->sl P s l Q':=by
 induction s with
 |pure a=>exact λl h=>hq _ _ h
 |load m a k ih=>rintro l ⟨c,t,fz,v,h1,h2,h3,h4⟩;exact⟨c,t,fz,v,h1,h2,h3,ih _ _ h4⟩
 |store m a v k ih=>rintro l ⟨h0,c,t,fz,l',h1,h2,h3,h4,h5⟩;exact⟨h0,c,t,fz,l',h1,h2,h3,h4,ih _ h5⟩
 |new o k ih=>exact λl h b hb=>ih _ _ (h b hb)
 |shape r k ih=>rintro l ⟨c,t,fz,h1,h2⟩;exact⟨c,t,fz,h1,ih _ _ h2⟩
 |frozen a k ih=>rintro l ⟨c,t,fz,h1,h2,h3⟩;exact⟨c,t,fz,h1,h2,ih _ _ h3⟩
 |getObj r k ih=>rintro l ⟨o,h1,h2,h3⟩;exact⟨o,h1,h2,ih _ _ h3⟩
 |setObj r o' k ih=>rintro l ⟨o,l',h1,h2,h3⟩;exact⟨o,l',h1,h2,ih _ h3⟩
 |choose q k ih=>exact λl h t=>ih _ _ (h t)
 |program k ih=>exact λl h=>ih _ _ h
 |mark m k ih=>exact λl h=>ih _ h
 |halt h=>exact λl h=>h
 |freeze a n k ih=>exact λl h=>h
 |sys c k ih=>exact λl h=>h
theorem AB{β:Type}{Q:β->List Ab->Prop}{f:α->Sem β}(s:Sem α): ∀l,sl P (s>>=f) l Q<->sl P s l (λa l'=>sl P (f a) l' Q):=by
 show∀l,sl P (s.bind f) l Q<->_
 induction s with
 |pure a=>exact λl=>Di
 |load m a k ih=>intro l;simp only[Sem.bind,sl,ih]
 |store m a v k ih=>intro l;simp only[Sem.bind,sl,ih]
 |new o k ih=>intro l;simp only[Sem.bind,sl,ih]
 |shape r k ih=>intro l;simp only[Sem.bind,sl,ih]
 |frozen a k ih=>intro l;simp only[Sem.bind,sl,ih]
 |getObj r k ih=>intro l;simp only[Sem.bind,sl,ih]
 |setObj r o' k ih=>intro l;simp only[Sem.bind,sl,ih]
 |choose q k ih=>intro l;simp only[Sem.bind,sl,ih]
 |program k ih=>intro l;simp only[Sem.bind,sl,ih]
 |mark m k ih=>intro l;simp only[Sem.bind,sl,ih]
 |halt h=>exact λl=>Di
 |freeze a n k ih=>exact λl=>Di
 |sys c k ih=>exact λl=>Di
theorem Bj{Q:α->List Ab->Prop}(a:α)(l:List Ab):sl P (pure a:Sem α) l Q<->Q a l:=Di
theorem di{Q:α->List Ab->Prop}(s:Sem α): ∀(l:List Ab) (W:World),sl P s l Q->Sat E l W-> ∃a W' l',s.run P W= .ok a W'/\Q a l'/\Sat E l' W':=by
 induction s with
 |pure a=>exact λl W h hs=>⟨a,W,l,rfl,h,hs⟩
 |load m a k ih=>rintro l W ⟨c,t,fz,v,h1,h2,h3,h4⟩ hs;obtain⟨x,W',l',hr,hq,hs'⟩:=ih v l W h4 hs;obtain⟨ab,ao,asp⟩:=a;simp only at h2 h3 h1;subst h2;exact⟨x,W',l',by simp[Sem.run,hs.cell h1,h3,hr],hq,hs'⟩
 |store m a v k ih=>rintro l W ⟨h0,c,t,fz,l1,h1,h2,h3,h4,h5⟩ hs;obtain⟨ab,ao,asp⟩:=a;simp only at h2 h3 h1 h4;subst h2;obtain⟨x,W',l',hr,hq,hs'⟩:=ih l1 _ h5 (hs.setCell h1);refine⟨x,W',l',?_,hq,hs'⟩;have hc:=hs.cell h1.mem ao;rw[Cw h3] at hc;have hf:=(hs.frz h1.mem ao).trans h4;cases v<;>simp only[Value.oneCell',Bg] at h0<;>simp[Sem.run,hc,hf,hr]
 |new o k ih=>intro l W h hs;obtain⟨x,W',l',hr,hq,hs'⟩:=ih W.heap.size _ (W.alloc o) (h W.heap.size (λc hc=>by have:=hs.lt hc;omega)) (hs.alloc o);exact⟨x,W',l',hr,hq,hs'⟩
 |shape r k ih=>
  rintro l W ⟨c,t,fz,h1,h2⟩ hs;obtain⟨x,W',l',hr,hq,hs'⟩:=ih _ l W h2 hs;refine⟨x,W',l',?_,hq,hs'⟩;have:W.shape? r=some (t,c.size):=by simp[World.shape?,hs.has _ h1]
  simp[Sem.run,this,hr]
 |frozen a k ih=>rintro l W ⟨c,t,fz,h1,h2,h3⟩ hs;obtain⟨ab,ao,asp⟩:=a;simp only at h2 h3 h1;subst h2;obtain⟨x,W',l',hr,hq,hs'⟩:=ih _ l W h3 hs;exact⟨x,W',l',by simp only[Sem.run,hs.frz h1];exact hr,hq,hs'⟩
 |getObj r k ih=>rintro l W ⟨o,h1,h2,h3⟩ hs;obtain⟨x,W',l',hr,hq,hs'⟩:=ih _ l W h3 hs;refine⟨x,W',l',?_,hq,hs'⟩;have:=hs.has _ h1;simp only at this;cases o<;>first|(simp[Obj.isCells] at h2;done)|simp[Sem.run,this,hr]
 |setObj r o' k ih=>rintro l W ⟨o,l1,h1,h2,h3⟩ hs;obtain⟨x,W',l',hr,hq,hs'⟩:=ih l1 _ h3 (hs.upd h1);refine⟨x,W',l',?_,hq,hs'⟩;have:=hs.has _ h1.mem;simp only at this;simp only[World.putObj] at hr;cases o<;>first|(simp[Obj.isCells] at h2;done)|simp[Sem.run,this,hr]
 |choose q k ih=>
  intro l W h hs;by_cases hf:q.forced=true
  ·obtain⟨x,W',l',hr,hq,hs'⟩:=ih _ l W (h 0) hs;refine⟨x,W',l',?_,hq,hs'⟩;rw[Ae hf] at hr;simp[Sem.run,hf,hr]
  ·obtain⟨x,W',l',hr,hq,hs'⟩:=ih _ l {W with drawn:=W.drawn+1} (h (W.tape W.drawn q)) (hs.drawn _);refine⟨x,W',l',?_,hq,hs'⟩;rw[Ac hf] at hr;simp only[Bool.not_eq_true] at hf;simp[Sem.run,hf];exact hr
 |program k ih=>exact λl W h hs=>ih _ l W h hs
 |mark m k ih=>exact λl W h hs=>ih l W h hs
 |halt h=>exact λl W h hs=>h.elim
 |freeze a n k ih=>exact λl W h hs=>h.elim
 |sys c k ih=>exact λl W h hs=>h.elim
end Go.Proofs.YtlkgekpmileobaaGreat
