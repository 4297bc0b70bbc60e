/- Slices of flat structs told by an encoding; a literal slice of several structs. Laws of my own, no program's. Small laws that many chapters want: effects under guards, blocks in another order. Laws of my own, no program's. Shifts and bits; slices made. Laws of my own, no program's. ref35: Decimal. The library's number functions, told of the blocks that are held. FormatUint, ParseUint. Numbers of a line: plain. number; ref35's Word and Number. ref35: Word, Number. parts: a kind's word and its numbers. script.Line. A range over an iterator that keeps blocks of its own. Laws of my own, no program's. strings.Cut at one byte; the words of a line. A region that draws its order, whose effects are stores at places apart in one block: they may come in any order. Laws of my own, no program's. Laws that the statement's proof leans on. -/
import Derived.Test.YtffmibmefmbdjaaDoorGr3
import Derived.Test.YtffmibmefmbdjaaDoorGr4
import Derived.Lib.ItoaNum
import Derived.Lib.ItoaMem
import Derived.Lib.ConvBytes
import Derived.Lib.AtoiErrMem
import Derived.Lib.LaidTab
import Derived.Lib.ParseIntBCases
import Derived.WideLaws
import Derived.Test.YtffmibmefmbdjaaDoorGr2
/- Slices of flat structs told by an encoding; a literal slice of several structs. Laws of my own, no program's. -/
set_option linter.unusedVariables false
set_option linter.unusedSimpArgs false
namespace Go.Proofs.YtffmibmefmbdjaaDoor
open Go.RowKit

/-- v is a slice whose rows enc x can be read in l -/
def RowSl {α : Type} (l : List Chunk) (v : Value) (k : Nat) (enc : α → List Value) (xs : List α) : Prop :=
  ∃ a cap, v = .slice a xs.length cap ∧ (0 < xs.length → ∃ b off cs t fz, a = some ⟨b, off, none⟩ ∧ (b, Obj.cells cs t fz) ∈ l ∧ ∀ i x, xs[i]? = some x → off + i * k + k ≤ cs.size ∧ cs.extract (off + i * k) (off + i * k + k) = List.toArray (enc x))
theorem flat_row {α : Type} {enc : α → List Value} {k : Nat} (hk : ∀ x, (enc x).length = k) (sp : List Value) : ∀ (xs : List α) (i : Nat) (x : α), xs[i]? = some x → ((xs.flatMap enc ++ sp).drop (i * k)).take k = enc x ∧ i * k + k ≤ (xs.flatMap enc ++ sp).length
  | [], i, x, h => by simp at h
  | y :: xs, 0, x, h => by
    cases h
    rw [List.flatMap_cons, Nat.zero_mul, List.drop_zero, List.append_assoc, List.take_left' (hk y)]
    refine ⟨rfl, ?_⟩
    rw [List.length_append, hk]; omega
  | y :: xs, i + 1, x, h => by
    obtain ⟨h1, h2⟩ := flat_row hk sp xs i x (by simpa using h)
    rw [List.flatMap_cons, List.append_assoc, Nat.succ_mul]
    refine ⟨?_, by rw [List.length_append, hk]; omega⟩
    rw [List.drop_append, List.drop_of_length_le (by rw [hk]; omega), hk, List.nil_append, show i * k + k - k = i * k by omega]
    exact h1
theorem OwnSl.rowSl {α : Type} {e k : Nat} {v : Value} {enc : α → List Value} {xs : List α} {cs l : List Chunk} (h : OwnSl e k v xs.length (xs.flatMap enc) cs) (hk : ∀ x, (enc x).length = k) (hs : ∀ c, c ∈ cs → c ∈ l) : RowSl l v k enc xs := by
  rcases h.2 with ⟨rfl, h0, rfl⟩ | ⟨b, cap, sp, rfl, rfl, _⟩
  · exact ⟨none, 0, by rw [h0], fun h => by omega⟩
  · refine ⟨_, cap, rfl, fun h0 => ⟨b, 0, _, e, (0, 0), rfl, hs _ List.mem_cons_self, fun i x hx => ?_⟩⟩
    obtain ⟨h1, h2⟩ := flat_row hk sp xs i x hx
    refine ⟨by rw [Nat.zero_add]; simpa using h2, ?_⟩
    rw [Nat.zero_add, List.extract_toArray, List.extract_eq_take_drop, Nat.add_sub_cancel_left, h1]
section
variable {P : Program} {ro : Option Nat} {N : Nat} {fr : Fr} {l : List Chunk} {d : Option Nat} {ty : TypeId} {pos : String} {aft : Array Edge} {g : Option (Nat × Bool)}
/-- a slice of several structs -/
theorem e_litNk {T e yb n k : Nat} {zs : List Value} {ps : List (Nat × Operand)} {pvs : List (Nat × Value)} {cs : List Value} (hps : evps fr ps = some pvs) (hk : 0 < n * k) (hn : n * k ≤ 16777216) [c : ST P T e k yb] [cz : ZV P e zs] (hzs : zs.length = k) (hfill : Instr.fill (fun i => some (i * k, k)) (List.toArray (List.replicate n zs).flatten) pvs = some (List.toArray cs)) :
    OpE P ro N fr l ⟨d, .buildSlice T n ps.toArray, ty, pos, aft, g⟩ (fun v' l' => ∃ b, (∀ c, c ∈ l → c.1 ≠ b) ∧ v' = .slice (some ⟨b, 0, none⟩) n n ∧ l' = (b, .cells (List.toArray cs) e (0, 0)) :: l) := opE_of_sl rfl fun ρ hρ => by
  simp only [execOp, sl_bind]
  have e : ps.toArray.map (fun (i, x) => (i, ρ x)) = List.toArray pvs := by rw [← hρ.parts hps]; simp
  rw [e]
  exact sl_buildSlice (cs := cs) c.out cz.out hzs hk hn hfill fun b hb => ⟨b, hb, rfl, rfl⟩
end
end Go.Proofs.YtffmibmefmbdjaaDoor

/- Small laws that many chapters want: effects under guards, blocks in another order. Laws of my own, no program's. -/
set_option linter.unusedVariables false
set_option linter.unusedSimpArgs false
namespace Go.Proofs.YtffmibmefmbdjaaDoor
open Go.RowKit

section
variable {P : Program} {ro : Option Nat} {N : Nat} {E : World} {ops : Array Oper} {Q : Exit → Act → World → Prop} {R l : List Chunk} {tbl : List (List Nat)} {sp : Spec} {pl : List PlanOp} {fr : Fr} {ds : List Deferred} {i : Nat} {o : Oper} {K : Value → List Chunk → Prop}
theorem pl_geS {d : Nat} (h : OpE P ro N fr l o K) (hw : gst ops fr o.guard = some true) (hd : o.dst = some d) (hb : Nat.blt d N = true) (hR : ∀ v l', K v l' → (∀ c, c ∈ R → c ∈ l')) (hS : ∀ v l', K v l' → ∀ x, x ∈ sp → ancOf tbl i x.1 = false → ∀ c, c ∈ x.2 → c ∈ l') (hk : ∀ v l', K v l' → PlanS P ro N E ops Q R tbl none sp pl ((d, v) :: fr) ds l') : PlanS P ro N E ops Q R tbl none sp ((i, false, o) :: pl) fr ds l := by
  rcases gst_some hw with ⟨h1, _⟩ | ⟨j, b, oj, dj, b', h1, h2, h3, h4, h5⟩
  · exact pl_eS h h1 hd hb hR hS hk
  · have : b' = b := by simpa using h5
    subst this
    exact .ge h h1 h2 h3 h4 (by rw [hd]; exact hb) hR hS fun v l' hkv => by rw [hd]; exact hk v l' hkv
end
theorem sing_mem {c : Chunk} {l : List Chunk} (h : c ∈ l) : ∀ x, x ∈ [c] → x ∈ l := fun x hx => by rw [List.mem_singleton.1 hx]; exact h
theorem Keep.in_mid (A B C : List Chunk) : Keep (A ++ (B ++ C)) (B ++ (A ++ C)) := Keep.of_perm (List.perm_append_comm_assoc A B C)
theorem keep_new (x : Chunk) (c2 cs G : List Chunk) : Keep (c2 ++ (x :: (cs ++ G))) ((x :: c2) ++ G) :=
  ⟨cs, by
    have h1 : (c2 ++ (x :: (cs ++ G))).Perm (x :: (c2 ++ (cs ++ G))) := List.perm_middle
    have h2 : (c2 ++ (cs ++ G)).Perm (cs ++ (c2 ++ G)) := List.perm_append_comm_assoc c2 cs G
    exact (h1.trans ((h2.cons x).trans List.perm_middle.symm))⟩
theorem keep_mid2 (A B l : List Chunk) (x : Chunk) : Keep (A ++ (B ++ (x :: l))) (A ++ (B ++ l)) :=
  ⟨[x], (((List.perm_middle (l₁ := B)).append_left A).trans List.perm_middle).trans (.refl _)⟩
theorem keep_in2 (x : Chunk) (A B l : List Chunk) : Keep (x :: (A ++ (B ++ l))) (A ++ (B ++ (x :: l))) :=
  .of_perm (((List.perm_middle (l₁ := B)).append_left A).trans List.perm_middle).symm
theorem num_any (x : Int) (l : List Chunk) : Fn Tryd.prog 12 [.int .i64 x] l fun v l' => v = .int .i64 x ∧ l' = l := by
  refine fn_of_body Tryd.func12 rfl rfl fun E => ?_
  simp only [argF, Tryd.ntmps12]
  refine gz ?_
  exact k_ret [] rfl .refl (by exact zRes) ⟨rfl, rfl⟩
theorem Fn.mvL {P : Program} {f : FuncId} {args : List Value} {A F : List Chunk} {Kv : Value → Prop} {I : List Chunk → Prop} (X : List Chunk) (h : Fn P f args (A ++ (X ++ F)) fun v l' => Kv v ∧ ∃ A', I A' ∧ l' = A' ++ (X ++ F)) :
    Fn P f args (X ++ (A ++ F)) fun v l' => Kv v ∧ ∃ A', I A' ∧ l' = X ++ (A' ++ F) :=
  Fn.re (Keep.in_mid X A F) h fun v l' ⟨h1, A', h2, h3⟩ => ⟨_, by rw [h3]; exact Keep.in_mid A' X F, h1, A', h2, rfl⟩
theorem nodup_of_map {α β : Type} {f : α → β} : ∀ {l : List α}, (l.map f).Nodup → l.Nodup
  | [], _ => List.nodup_nil
  | x :: l, h => by
    rw [List.map_cons, List.nodup_cons] at h
    exact List.nodup_cons.2 ⟨fun hx => h.1 (List.mem_map.2 ⟨x, hx, rfl⟩), nodup_of_map h.2⟩
theorem nd_stamp {α β : Type} {f : α → β} : ∀ {l : List α} {x y : α}, (l.map f).Nodup → x ∈ l → y ∈ l → f x = f y → x = y
  | [], _, _, _, h, _, _ => by cases h
  | z :: l, x, y, h, hx, hy, e => by
    rw [List.map_cons, List.nodup_cons] at h
    rcases List.mem_cons.1 hx with h1 | h1 <;> rcases List.mem_cons.1 hy with h2 | h2
    · rw [h1, h2]
    · exact absurd (List.mem_map.2 ⟨y, h2, by rw [← e, h1]⟩) h.1
    · exact absurd (List.mem_map.2 ⟨x, h1, by rw [e, h2]⟩) h.1
    · exact nd_stamp h.2 h1 h2 e
end Go.Proofs.YtffmibmefmbdjaaDoor

/- Shifts and bits; slices made. Laws of my own, no program's. -/
set_option linter.unusedVariables false
set_option linter.unusedSimpArgs false
namespace Go.Proofs.YtffmibmefmbdjaaDoor
open Go.RowKit

section
variable {P : Program} {ro : Option Nat} {N : Nat} {fr : Fr} {R l : List Chunk} {d : Option Nat} {ty t t2 : TypeId} {pos : String} {aft : Array Edge} {g : Option (Nat × Bool)} {x y : Operand} {k k' : IntKind} {i : Int} {n a b : Nat}
theorem q_shr (hx : ev fr x = some (.int k i)) (hy : ev fr y = some (.int k' (n : Nat))) (hn : n ≤ k.bits) : OpQ P ro N fr R ⟨d, .binOp .shr t x y t2, ty, pos, aft, g⟩ (.int k (i / 2 ^ n)) :=
  q_bin hx hy (fun _ _ => eqGuard_int _ _ _ _ _) (by
    have h1 : ¬ ((n : Nat) : Int) < 0 := by omega
    have h2 : i.fdiv (2 ^ n) = i / 2 ^ n := Int.fdiv_eq_ediv_of_nonneg _ (by have : (0 : Int) ≤ ((2 ^ n : Nat) : Int) := Int.natCast_nonneg _; simpa using this)
    simp only [binOp, Op.shift, if_neg h1, Int.toNat_natCast, Nat.min_eq_left hn, h2])
theorem q_shl (hx : ev fr x = some (.int k i)) (hy : ev fr y = some (.int k' (n : Nat))) (hn : n ≤ k.bits) : OpQ P ro N fr R ⟨d, .binOp .shl t x y t2, ty, pos, aft, g⟩ (.int k (k.wrap (i * 2 ^ n))) :=
  q_bin hx hy (fun _ _ => eqGuard_int _ _ _ _ _) (by
    have h1 : ¬ ((n : Nat) : Int) < 0 := by omega
    simp only [binOp, Op.shift, if_neg h1, Int.toNat_natCast, Nat.min_eq_left hn])
theorem wrapN {a : Nat} (h : a < 18446744073709551616) : IntKind.u64.wrap (a : Int) = (a : Int) := by
  simp [IntKind.wrap, IntKind.signed, IntKind.bits]; omega
theorem q_and (hx : ev fr x = some (.int .u64 (a : Nat))) (hy : ev fr y = some (.int .u64 (b : Nat))) (ha : a < 18446744073709551616) (hb : b < 18446744073709551616) : OpQ P ro N fr R ⟨d, .binOp .and t x y t2, ty, pos, aft, g⟩ (.int .u64 ((a &&& b : Nat) : Int)) :=
  q_bin hx hy (fun _ _ => eqGuard_int _ _ _ _ _) (by
    have e1 : (BitVec.ofInt IntKind.u64.bits ((a : Nat) : Int)).toNat = a := by
      show (BitVec.ofInt 64 ((a : Nat) : Int)).toNat = a
      rw [BitVec.ofInt_natCast, BitVec.toNat_ofNat, Nat.mod_eq_of_lt ha]
    have e2 : (BitVec.ofInt IntKind.u64.bits ((b : Nat) : Int)).toNat = b := by
      show (BitVec.ofInt 64 ((b : Nat) : Int)).toNat = b
      rw [BitVec.ofInt_natCast, BitVec.toNat_ofNat, Nat.mod_eq_of_lt hb]
    simp only [binOp, Op.intBits, BitVec.toNat_and, e1, e2]
    rw [wrapN (Nat.lt_of_le_of_lt Nat.and_le_left ha)]
    rfl)
theorem row_zeros {zv : Value} {zs : List Value} {n k : Nat} (hzv : zv.cells = List.toArray zs) (hzs : zs.length = k) (hk : 0 < n * k) : (Array.range (n * k)).map (fun j => zv.cells[j % zv.cells.size]!) = List.toArray (List.replicate n zs).flatten := by
  have hk0 : 0 < k := Nat.pos_of_ne_zero fun e => by subst e; simp at hk
  apply Array.toList_inj.1
  apply List.ext_getElem?
  intro j
  rw [hzv]
  have hl : (List.replicate n zs).flatten.length = n * k := by simp [hzs]
  by_cases hj : j < n * k
  · have : (List.replicate n zs).flatten[j]? = zs[j % k]? := by
      clear hl hk hk0
      induction n generalizing j with
      | zero => omega
      | succ n ih =>
        rw [List.replicate_succ, List.flatten_cons]
        by_cases hjk : j < k
        · rw [List.getElem?_append_left (by omega), Nat.mod_eq_of_lt hjk]
        · rw [List.getElem?_append_right (by omega), hzs, ih (j - k) (by have := Nat.succ_mul n k; simp only [Nat.succ_eq_add_one] at this; omega), ← Nat.mod_eq_sub_mod (by omega)]
    simp only [Array.toList_map, Array.toList_range, List.getElem?_map, List.getElem?_range hj, Option.map_some]
    rw [this]
    have hlt : j % k < zs.length := by rw [hzs]; exact Nat.mod_lt _ hk0
    simp [hzs, List.getElem?_eq_getElem hlt, List.getElem!_eq_getElem?_getD]
  · rw [List.getElem?_eq_none (by simp; omega), List.getElem?_eq_none (by rw [hl]; omega)]
theorem e_makeSlice {T e kk yb : Nat} {zs : List Value} {xs : List Value} (hx : ev fr x = some (.int .i64 (n : Nat))) [c : ST P T e kk yb] [cz : ZV P e zs] (hzs : zs.length = kk) (hk : 0 < n * kk) (hn : n ≤ 1000000) (hby : yb ≤ 1000) (hxs : xs = (List.replicate n zs).flatten) :
    OpE P ro N fr l ⟨d, .makeSlice T x x, ty, pos, aft, g⟩ (fun v' l' => ∃ b, (∀ c, c ∈ l → c.1 ≠ b) ∧ v' = .slice (some ⟨b, 0, none⟩) n n ∧ l' = (b, .cells (List.toArray xs) e (0, 0)) :: l) := opE_of_sl rfl fun ρ hρ => by
  subst hxs
  obtain ⟨inf, u1, u2, u3, u4⟩ := stV_spec c.out
  obtain ⟨inf', zv, z1, z2, z3⟩ := zvV_spec cz.out
  rw [u2] at z1; cases z1
  simp only [execOp, hρ x _ hx]
  unfold Instr.makeSlice
  rw [sl_bind, sl_under u1]
  have hw : IntKind.i64.wrap ((n : Nat) : Int) = n := i64_in _ ⟨by omega, by omega⟩
  have hb : inf.bytes * n ≤ 1000000000 := by
    rw [u4]; exact Nat.le_trans (Nat.mul_le_mul hby hn) (by omega)
  have hb2 : ((inf.bytes : Nat) : Int) * ((n : Nat) : Int) ≤ 1000000000 := by rw [← Int.natCast_mul]; omega
  simp only [asInt, asIntOf, pure_bind, hw]
  rw [sl_info u2]
  have ht : (decide (((n : Nat) : Int) < 0) || decide (((inf.bytes : Nat) : Int) * ((n : Nat) : Int) > 2 ^ 48)) = false := by
    rw [decide_eq_false (by omega), decide_eq_false (by omega)]; rfl
  simp only [ht, Bool.false_or]
  rw [show (decide (((n : Nat) : Int) < 0) || decide (((n : Nat) : Int) > ((n : Nat) : Int))) = false by rw [decide_eq_false (by omega), decide_eq_false (by omega)]; rfl]
  simp only [Bool.false_eq_true, if_false, Int.toNat_natCast]
  unfold askRoom roomBytes
  have hr : n * inf.bytes ≤ 1000000000 := by rw [Nat.mul_comm]; exact hb
  rw [if_neg (by omega), sl_bind, sl_pure, sl_sizeOf u2, u3]
  have hk1 : ¬ n * kk = 0 := by omega
  simp only [hk1, if_false, zeroValue, sl_bind]
  rw [← sl_bind, sl_info u2, z2]
  simp only [sl_pure]
  have hzv : zv.cells = List.toArray zs := by rw [← z3]
  rw [row_zeros hzv hzs hk]
  simp only [newRow, sl_bind]
  intro b hb
  exact ⟨b, hb, rfl, rfl⟩
end
end Go.Proofs.YtffmibmefmbdjaaDoor

/- ref35: Decimal. -/
set_option linter.unusedVariables false
set_option linter.unusedSimpArgs false
namespace Go.Proofs.YtffmibmefmbdjaaDoor
open Go.RowKit
set_option maxRecDepth 20000

theorem dig10 (m : Nat) (h : m < 10) : (([48, 49, 50, 51, 52, 53, 54, 55, 56, 57] : List UInt8).drop m).take 1 = Lib.decDigits m := by
  rw [Lib.decDigits_one h]
  rcases m with _ | _ | _ | _ | _ | _ | _ | _ | _ | _ | m <;> first | rfl | omega
theorem dec_step (n : Nat) (h : ¬ n < 10) : Lib.decDigits n = Lib.decDigits (n / 10) ++ Lib.decDigits (n % 10) := by
  rw [Lib.decDigits, dif_neg h, Lib.decDigits_one (Nat.mod_lt _ (by omega))]
theorem dec_len (n : Nat) (h : n < 18446744073709551616) : (Lib.decDigits n).length ≤ 20 := by
  have : ∀ k m, m < 10 ^ (k + 1) → (Lib.decDigits m).length ≤ k + 1 := by
    intro k
    induction k with
    | zero => intro m hm; rw [Lib.decDigits_one (by simpa using hm)]; simp
    | succ k ih =>
      intro m hm
      by_cases h10 : m < 10
      · rw [Lib.decDigits_one h10]; simp
      · rw [dec_step m h10, List.length_append, Lib.decDigits_one (Nat.mod_lt _ (by omega))]
        have := ih (m / 10) (by rw [Nat.div_lt_iff_lt_mul (by omega)]; rw [Nat.pow_succ] at hm; exact hm)
        simp; omega
  exact this 19 n (by omega)
theorem dec_pos (n : Nat) : 0 < (Lib.decDigits n).length := by
  by_cases h : n < 10
  · rw [Lib.decDigits_one h]; simp
  · rw [dec_step n h, Lib.decDigits_one (Nat.mod_lt _ (by omega))]; simp

theorem decimal_any (n : Nat) : n < 18446744073709551616 → ∀ l, Fn Tryd.prog 28 [.int .u64 (n : Nat)] l fun v l' => v = str (Lib.decDigits n) ∧ l' = l := by
  induction n using Nat.strongRecOn with
  | ind n ih =>
  intro hn l
  refine fn_of_body Tryd.func28 rfl rfl fun E => ?_
  simp only [argF, Tryd.ntmps28]
  by_cases h : n < 10
  · refine gz ?_
    refine t_q (q_add rfl rfl ⟨by omega, by omega⟩) rfl rfl rfl ?_
    refine t_q (q_sliceS (p := [48, 49, 50, 51, 52, 53, 54, 55, 56, 57]) (l0 := n) (h0 := n + 1) rfl (.some rfl (by omega) (by omega)) (.some rfl (by omega) (by omega)) (by omega) (by simp; omega)) rfl rfl rfl ?_
    rw [Nat.add_sub_cancel_left, dig10 n h]
    refine gz ?_
    exact k_ret [] rfl .refl (by exact zRes) ⟨rfl, rfl⟩
  · refine gz ?_
    refine t_q (q_quo rfl rfl (by omega) (by omega) ⟨by omega, by omega⟩) rfl rfl rfl ?_
    refine t_e (e_call0 rfl rfl (ih (n / 10) (by omega) (by omega) _)) rfl rfl rfl ?_
    rintro _ _ ⟨rfl, rfl⟩
    refine gz ?_
    refine t_e (e_call0 rfl rfl (ih (n % 10) (by omega) (by omega) _)) rfl rfl rfl ?_
    rintro _ _ ⟨rfl, rfl⟩
    have h1 := dec_len (n / 10) (by omega)
    have h2 := dec_len (n % 10) (by omega)
    refine gz ?_
    rw [dec_step n h]
    exact k_ret [] rfl .refl (by exact zRes) ⟨rfl, rfl⟩
end Go.Proofs.YtffmibmefmbdjaaDoor

/- The library's number functions, told of the blocks that are held. -/
set_option linter.unusedVariables false
set_option linter.unusedSimpArgs false
namespace Go.Proofs.YtffmibmefmbdjaaDoor
open Go.RowKit Go.Sort
set_option maxRecDepth 20000

theorem sat_below {E W W' : World} {l : List Chunk} (h : Sat E l W) (hb : Below W.heap.size W W') : Sat E l W' :=
  ⟨hb.os.trans h.os, hb.tape.trans h.tape, hb.output.trans h.output, h.nodup, fun c hc => (hb.block _ (h.lt hc)).trans (h.has c hc)⟩
theorem fn_below {P : Program} {f : FuncId} {args : List Value} {l : List Chunk} {Q : Value → Prop} (h : ∀ W, (∀ c, c ∈ l → W.heap[c.1]? = some c.2) → Calls P f args.toArray W fun e w' => ∃ v, e = .returned v ∧ Q v ∧ Below W.heap.size W w') : Fn P f args l fun v l' => Q v ∧ l' = l := by
  refine ⟨fun E W hs => (h W hs.has).mono ?_⟩
  rintro e w' ⟨v, rfl, hq, hb⟩
  exact ⟨v, l, rfl, ⟨hq, rfl⟩, sat_below hs hb⟩

/-- what the library's variables hold, told of the blocks that are held -/
structure GL (l : List Chunk) : Prop where
  out : ∀ W : World, (∀ c, c ∈ l → W.heap[c.1]? = some c.2) → Lib.TabIs Tryd.prog W "internal/strconv.uint64pow10" .u64 Lib.pow10Tab ∧ (∃ te pe, W.cell? ⟨2, 0, none⟩ = some (.iface te pe)) ∧ (∃ te pe, W.cell? ⟨3, 0, none⟩ = some (.iface te pe))
theorem GL.mono {l l' : List Chunk} (h : GL l) (hs : ∀ c, c ∈ l → c ∈ l') : GL l' := ⟨fun W hw => h.out W fun c hc => hw c (hs c hc)⟩
theorem GL.cons {l : List Chunk} (h : GL l) (c : Chunk) : GL (c :: l) := h.mono fun _ hc => List.mem_cons_of_mem _ hc
theorem GL.app {l : List Chunk} (h : GL l) (m : List Chunk) : GL (m ++ l) := h.mono fun _ hc => List.mem_append_right _ hc

abbrev u8V (b : UInt8) : Value := .int .u8 (b.toNat : Int)
theorem small_any (n : Nat) (h : n < 100) (l : List Chunk) : Fn Tryd.prog 42 [.int .i64 (n : Nat)] l fun v l' => v = str (Lib.decDigits n) ∧ l' = l :=
  fn_below fun W _ => (Tryd.internal_strconv_small n h W).mono fun e w' ⟨h1, h2⟩ => ⟨_, h1, rfl, by rw [h2]; exact Below.refl _ _⟩
theorem numDigits_any (n : Nat) (h1 : 1 ≤ n) (h : n < 18446744073709551616) (l : List Chunk) (hG : GL l) : Fn Tryd.prog 43 [.int .u64 (n : Nat)] l fun v l' => v = .int .i64 (Lib.nDigits n : Nat) ∧ l' = l :=
  fn_below fun W hw => (Tryd.internal_strconv_numDigits n h1 h W (hG.out W hw).1).mono fun e w' ⟨h1, h2⟩ => ⟨_, h1, rfl, by rw [h2]; exact Below.refl _ _⟩
theorem fb_any (b cap n : Nat) (T : TypeId) (h : n < 18446744073709551616) (sp : List Value) (l : List Chunk) :
    Fn Tryd.prog 44 [.slice (some ⟨b, 0, none⟩) (Lib.nDigits n) cap, .int .u64 (n : Nat)] ((b, .cells (List.toArray (List.replicate (Lib.nDigits n) (.int .u8 0) ++ sp)) T (0, 0)) :: l) fun v l' => v = .tuple #[] ∧ l' = (b, .cells (List.toArray ((Lib.decDigits n).map u8V ++ sp)) T (0, 0)) :: l := by
  refine ⟨fun E W hs => ?_⟩
  have hH : Holds (fun (b : UInt8) => Value.int .u8 (b.toNat : Int)) W b 0 (Array.replicate (Lib.nDigits n) 0) := fun j hj => by
    simp only [Array.size_replicate] at hj
    refine ⟨?_, ?_⟩
    · rw [hs.cell (.head _), Nat.zero_add, List.getElem?_toArray, List.getElem?_append_left (by simpa using hj), List.getElem?_replicate]
      simp [hj]
    · rw [hs.frz (.head _)]; simp
  have h := Tryd.internal_strconv_formatBase10 b 0 cap n (Array.replicate (Lib.nDigits n) 0) W hH (by rw [Array.size_replicate]; exact Lib.lt_pow_nDigits n) h (by
    rw [Array.size_replicate, ← Lib.decDigits_length]; have := dec_len n h; omega)
  rw [Array.size_replicate] at h
  refine (h : Calls Tryd.prog 44 _ W _).mono ?_
  rintro e w' ⟨rfl, k, v', dk, rfl, hF⟩
  refine ⟨_, _, rfl, ⟨rfl, rfl⟩, ?_⟩
  refine ⟨hs.os, hs.tape, hs.output, by simpa using hs.nodup, fun c hc => ?_⟩
  have hb := hs.lt (.head _)
  simp only at hb
  have hget : ∀ q : Nat, ((putRow (fun (b : UInt8) => Value.int .u8 (b.toNat : Int)) W b 0 dk).drewN k).heap[q]? = (W.heap.modify b (onCells (putCells (fun (b : UInt8) => Value.int .u8 (b.toNat : Int)) 0 dk)))[q]? := fun q => rfl
  rcases List.mem_cons.1 hc with rfl | hc'
  · rw [hget, Array.getElem?_modify, if_pos rfl, hs.has _ (.head _)]
    simp only [Option.map_some, onCells]
    congr 2
    apply Array.toList_inj.1
    apply List.ext_getElem?
    intro j
    unfold putCells
    rw [Array.getElem?_toList, Array.getElem?_mapIdx, List.getElem?_toArray]
    have hl : (Lib.decDigits n).length = Lib.nDigits n := Lib.decDigits_length n
    have hd : dk.size = Lib.nDigits n := hF.size
    by_cases hj : j < Lib.nDigits n
    · rw [List.getElem?_append_left (by simpa using hj), List.getElem?_append_left (by simpa [hl] using hj), List.getElem?_replicate, List.getElem?_map, List.getElem?_eq_getElem (by omega)]
      have hr := Lib.row_is_numeral hF j (by omega)
      simp only [hj, if_true, Option.map_some]
      rw [hr]
      simp [hj, hd, getElem!_pos]
    · rw [List.getElem?_append_right (by simpa using Nat.le_of_not_lt hj), List.getElem?_append_right (by simpa [hl] using Nat.le_of_not_lt hj)]
      simp only [List.length_map, List.length_replicate, hl]
      cases sp[j - Lib.nDigits n]? with
      | none => rfl
      | some u => simp [hd, hj]
  · rw [hget, Array.getElem?_modify, if_neg, hs.has _ (List.mem_cons_of_mem _ hc')]
    intro e
    have := hs.nodup
    rw [List.map_cons, List.nodup_cons] at this
    exact this.1 (List.mem_map.2 ⟨c, hc', e.symm⟩)

section
variable {P : Program} {ro : Option Nat} {N : Nat} {fr : Fr} {R l : List Chunk} {K : Value → List Chunk → Prop} {d : Option Nat} {ty : TypeId} {pos : String} {aft : Array Edge} {g : Option (Nat × Bool)} {x y z : Operand} {v u w : Value} {b off : Nat} {t t2 : TypeId}
theorem q_sliceArrH {T n e k h0 : Nat} {hi : Operand} (hx : ev fr x = some (.pointer (some ⟨b, off, none⟩))) [c : AT P T n e k] (hn : 0 < n) (hh : Bnd fr (some hi) n h0) (h2 : h0 ≤ n) : OpQ P ro N fr R ⟨d, .slice T x none (some hi) none, ty, pos, aft, g⟩ (.slice (some ⟨b, off, none⟩) h0 n) := opQ_of_sl rfl fun ρ l hρ _ => by
  obtain ⟨inf, u1, u2, u3⟩ := atV_spec c.out
  simp only [execOp, hρ x _ hx]
  rw [sl_bind]
  unfold Instr.sliceAt
  rw [sl_under u1]
  simp only [Instr.sureAddr, sl_bind, sl_pure]
  change sl P (Instr.sliceBounds false n n (Option.map ρ none) (Option.map ρ (some hi)) none) l _
  rw [sl_sliceBoundsS hρ (lo := none) .none hh (Nat.zero_le _) h2]
  simp only
  rw [sl_sizeOf' u2]
  simp only [sl_pure]
  rw [if_neg (by omega), Nat.zero_mul]
  exact ⟨by simp [addr_add], trivial⟩
theorem q_convBytes {e k yb n cap : Nat} {bs : List UInt8} {cs : Array Value} {ct : TypeId} {fz : Nat × Nat} {src dst : TypeId} (hx : ev fr x = some (.slice (some ⟨b, off, none⟩) n cap)) [c1 : ST P src e k yb] [c3 : IT P e .u8] [c2 : SGT P dst] (hm : (b, Obj.cells cs ct fz) ∈ R) (hn : bs.length = n) (hc : ∀ j (hj : j < bs.length), cs[off + j]? = some (.int .u8 (bs[j].toNat : Int))) :
    OpQ P ro N fr R ⟨d, .convert src dst x, ty, pos, aft, g⟩ (str bs) := by
  refine ⟨fun l hl => ⟨rfl, fun E a W hf hs => ?_⟩⟩
  have hρ := hf.agrees
  obtain ⟨inf, u1, u2, u3, _⟩ := stV_spec c1.out
  have hex : execOp a.eval ⟨d, .convert src dst x, ty, pos, aft, g⟩ = (do pure (.value (← convert src dst (.slice (some ⟨b, off, none⟩) n cap))) : Sem Next) := by
    simp [execOp, hρ x _ hx]
  unfold OpVal
  rw [hex, Sem.run_bind]
  subst hn
  have hr := run_convert_bytes_back (P := P) W src dst e ⟨b, off, none⟩ cap bs u1 (by have := c3.out; unfold itV at this; split at this <;> simp_all) c2.out (fun j hj => by
    rw [addr_add, hs.cell (hl _ hm)]; exact hc j hj)
  rw [hr]
  exact ⟨_, ⟨rfl, rfl⟩, hs⟩
end
end Go.Proofs.YtffmibmefmbdjaaDoor

/- FormatUint, ParseUint. -/
set_option linter.unusedVariables false
set_option linter.unusedSimpArgs false
namespace Go.Proofs.YtffmibmefmbdjaaDoor
open Go.RowKit
set_option maxRecDepth 20000

theorem z24 (k : Nat) (h : k ≤ 24) : ([.int .u8 0, .int .u8 0, .int .u8 0, .int .u8 0, .int .u8 0, .int .u8 0, .int .u8 0, .int .u8 0, .int .u8 0, .int .u8 0, .int .u8 0, .int .u8 0, .int .u8 0, .int .u8 0, .int .u8 0, .int .u8 0, .int .u8 0, .int .u8 0, .int .u8 0, .int .u8 0, .int .u8 0, .int .u8 0, .int .u8 0, .int .u8 0] : List Value) = List.replicate k (.int .u8 0) ++ List.replicate (24 - k) (.int .u8 0) := by
  rw [List.replicate_append_replicate, Nat.add_sub_cancel' h]; rfl
theorem formatI_any (n : Nat) (h : n < 18446744073709551616) (l : List Chunk) (hG : GL l) : Fn Tryd.prog 35 [.int .u64 (n : Nat), .int .i64 10] l fun v l' => v = str (Lib.decDigits n) ∧ l' = l := by
  refine fn_of_body Tryd.func35 rfl rfl fun E => ?_
  simp only [argF, Tryd.ntmps35]
  by_cases h1 : n < 100
  · refine gz ?_
    refine t_e (e_call0 rfl rfl (small_any n h1 l)) rfl rfl rfl ?_
    rintro _ _ ⟨rfl, rfl⟩
    refine gz ?_
    exact k_ret [] rfl .refl (by exact zRes) ⟨rfl, rfl⟩
  · have hd := dec_len n h
    rw [Lib.decDigits_length] at hd
    refine gz ?_
    refine t_e e_alloc rfl rfl rfl ?_; rintro _ _ ⟨b1, _, rfl, rfl⟩
    refine gz ?_
    refine t_e (e_call0 rfl rfl (numDigits_any n (by omega) h _ (hG.cons _))) rfl rfl rfl ?_
    rintro _ _ ⟨rfl, rfl⟩
    refine gz ?_
    refine t_q (q_sliceArrH (h0 := Lib.nDigits n) rfl (by omega) (.some rfl (by omega) (by omega)) (by omega)) rfl rfl rfl ?_
    refine gz ?_
    rw [z24 (Lib.nDigits n) (by omega)]
    refine t_e (e_call0 rfl rfl (fb_any b1 24 n _ h _ l)) rfl rfl rfl ?_
    rintro _ _ ⟨rfl, rfl⟩
    refine gz ?_
    refine t_q (q_sliceArrH (h0 := Lib.nDigits n) rfl (by omega) (.some rfl (by omega) (by omega)) (by omega)) rfl rfl rfl ?_
    refine t_q (q_convBytes (bs := Lib.decDigits n) rfl (.head _) (Lib.decDigits_length n) (fun j hj => ?_)) rfl rfl rfl ?_
    · rw [Nat.zero_add, List.getElem?_toArray, List.getElem?_append_left (by simpa using hj), List.getElem?_map, List.getElem?_eq_getElem hj]
      rfl
    refine gz ?_
    exact k_ret [] rfl (l' := l) (by exact zKeep) (by exact zRes) ⟨rfl, rfl⟩
theorem format_any (n : Nat) (h : n < 18446744073709551616) (l : List Chunk) (hG : GL l) : Fn Tryd.prog 26 [.int .u64 (n : Nat), .int .i64 10] l fun v l' => v = str (Lib.decDigits n) ∧ l' = l := by
  refine fn_of_body Tryd.func26 rfl rfl fun E => ?_
  simp only [argF, Tryd.ntmps26]
  refine gz ?_
  refine t_e (e_call0 rfl rfl (formatI_any n h l hG)) rfl rfl rfl ?_
  rintro _ _ ⟨rfl, rfl⟩
  refine gz ?_
  exact k_ret [] rfl .refl (by exact zRes) ⟨rfl, rfl⟩

theorem parseU_ok (s : List UInt8) (hs : s.length ≤ 1000000) (u : Nat) (h : Lib.parseUintB 64 s = .ok u) (l : List Chunk) : Fn Tryd.prog 38 [str s, .int .i64 10, .int .i64 64] l fun v l' => v = .tuple #[.int .u64 (u : Nat), .nilIface] ∧ l' = l :=
  fn_below fun W _ => (Tryd.strconv_ParseUint_10_at64_ok ⟨List.toArray s⟩ (by rw [ba_size]; omega) u h W).mono fun e w' ⟨h1, h2⟩ => ⟨_, h1, rfl, by
    rcases h2 with rfl | rfl
    · exact Below.refl _ _
    · exact Lib.bytesWorld_below _ _ _⟩
theorem parseU_bad (s : List UInt8) (hs : s.length ≤ 1000000) (h : ∀ u, Lib.parseUintB 64 s ≠ .ok u) (l : List Chunk) (hG : GL l) : Fn Tryd.prog 38 [str s, .int .i64 10, .int .i64 64] l fun v l' => (∃ (x : Nat) (t : TypeId) (p : Value), x < 18446744073709551616 ∧ v = .tuple #[.int .u64 (x : Nat), .iface t p]) ∧ l' = l :=
  fn_below fun W hw => by
    obtain ⟨_, ⟨te, pe, h1⟩, ⟨te', pe', h2⟩⟩ := hG.out W hw
    rcases hp : Lib.parseUintB 64 s with u | _ | _
    · exact absurd hp (h u)
    · have H := Any.strconv_ParseUint_10_at64_syntax Tryd.laysPu14 ⟨List.toArray s⟩ (by rw [ba_size]; omega) hp _ W h1 (.inr ⟨_, _, rfl⟩)
      exact (H : Calls Tryd.prog 38 _ W _).mono fun e w' ⟨N, e1, e2, e3, e4⟩ => ⟨_, e1, ⟨0, _, _, by omega, rfl⟩, e4⟩
    · have H := Any.strconv_ParseUint_10_at64_range Tryd.laysPu14 ⟨List.toArray s⟩ (by rw [ba_size]; omega) hp _ W h2 (.inr ⟨_, _, rfl⟩)
      exact (H : Calls Tryd.prog 38 _ W _).mono fun e w' ⟨N, e1, e2, e3, e4⟩ => ⟨_, e1, ⟨18446744073709551615, _, _, by omega, rfl⟩, e4⟩
end Go.Proofs.YtffmibmefmbdjaaDoor

/- Numbers of a line: plain. -/
set_option linter.unusedVariables false
set_option linter.unusedSimpArgs false
namespace Go.Proofs.YtffmibmefmbdjaaDoor
open Go.RowKit

theorem pm_snoc (M : Nat) (r : List UInt8) : ∀ (a : List UInt8) (acc u : Nat), Lib.parseUintM M acc a = .ok u → Lib.parseUintM M acc (a ++ r) = Lib.parseUintM M u r := by
  intro a
  induction a with
  | nil => intro acc u h; simp only [Lib.parseUintM] at h; cases h; rfl
  | cons c a ih =>
    intro acc u h
    simp only [List.cons_append, Lib.parseUintM] at h ⊢
    split at h
    · rename_i hc
      rw [if_pos hc]
      split at h
      · cases h
      · rename_i h1
        rw [if_neg h1]
        split at h
        · cases h
        · rename_i h2
          rw [if_neg h2]
          exact ih _ _ h
    · cases h
theorem dchar (k : Nat) (h : k < 10) : (UInt8.ofNat (48 + k)).toNat = 48 + k := by
  simp; omega
theorem pm_dec (n : Nat) : n < 18446744073709551616 → Lib.parseUintM 18446744073709551615 0 (Lib.decDigits n) = .ok n := by
  induction n using Nat.strongRecOn with
  | ind n ih =>
    intro hn
    have one : ∀ u k : Nat, k < 10 → u * 10 + k < 18446744073709551616 → Lib.parseUintM 18446744073709551615 u [UInt8.ofNat (48 + k)] = .ok (u * 10 + k) := by
      intro u k hk hu
      simp only [Lib.parseUintM, dchar k hk]
      rw [if_pos ⟨by omega, by omega⟩, if_neg (by omega), if_neg (by omega)]
      congr 1; omega
    by_cases h : n < 10
    · rw [Lib.decDigits_one h, one 0 n h (by omega)]; congr 1; omega
    · rw [dec_step n h, pm_snoc _ _ _ _ _ (ih (n / 10) (by omega) (by omega)), Lib.decDigits_one (Nat.mod_lt _ (by omega)), one _ _ (Nat.mod_lt _ (by omega)) (by omega)]
      congr 1; omega
theorem pu_dec (n : Nat) (h : n < 18446744073709551616) : Lib.parseUintB 64 (Lib.decDigits n) = .ok n := by
  unfold Lib.parseUintB
  rw [if_neg (List.ne_nil_of_length_pos (dec_pos n))]
  exact pm_dec n h
theorem dec_inj {m n : Nat} (hm : m < 18446744073709551616) (hn : n < 18446744073709551616) (h : Lib.decDigits m = Lib.decDigits n) : m = n := by
  have h1 := pu_dec m hm
  rw [h, pu_dec n hn] at h1
  cases h1; rfl
open Classical in
/-- the number that is written so -/
noncomputable def rdN (s : List UInt8) : Option Nat := if h : ∃ n, n < 18446744073709551616 ∧ Lib.decDigits n = s then some h.choose else none
theorem rdN_dec {n : Nat} (h : n < 18446744073709551616) : rdN (Lib.decDigits n) = some n := by
  have hx : ∃ m, m < 18446744073709551616 ∧ Lib.decDigits m = Lib.decDigits n := ⟨n, h, rfl⟩
  unfold rdN
  rw [dif_pos hx]
  exact congrArg some (dec_inj hx.choose_spec.1 h hx.choose_spec.2)
theorem rdN_some {s : List UInt8} {n : Nat} (h : rdN s = some n) : n < 18446744073709551616 ∧ Lib.decDigits n = s := by
  unfold rdN at h
  split at h
  · rename_i hx; cases h; exact hx.choose_spec
  · cases h
theorem rdN_none {s : List UInt8} (h : rdN s = none) (n : Nat) (hn : n < 18446744073709551616) : Lib.decDigits n ≠ s := fun e => by
  rw [← e, rdN_dec hn] at h; cases h
/-- .. of a bound -/
noncomputable def rdL (s : List UInt8) (lim : Nat) : Option Nat := (rdN s).filter fun n => decide (n ≤ lim)
theorem rdL_some {s : List UInt8} {lim n : Nat} : rdL s lim = some n ↔ rdN s = some n ∧ n ≤ lim := by
  unfold rdL; rw [Option.filter_eq_some_iff]; simp
theorem rdL_none {s : List UInt8} {lim : Nat} : rdL s lim = none ↔ ∀ n, rdN s = some n → ¬ n ≤ lim := by
  unfold rdL; rw [Option.filter_eq_none_iff]; simp

section
variable {P : Program} {ro : Option Nat} {N : Nat} {fr : Fr} {R l : List Chunk} {K : Value → List Chunk → Prop} {d : Option Nat} {ty : TypeId} {pos : String} {aft : Array Edge} {g : Option (Nat × Bool)} {x y z : Operand} {v u w : Value} {t t2 : TypeId}
theorem q_eqniI {k : TypeId} {p : Value} (ht : P.underlying t = some (.interface (P.methodsAt t))) (hx : ev fr x = some (.iface k p)) (hy : ev fr y = some .nilIface) : OpQ P ro N fr R ⟨d, .binOp .eql t x y t2, ty, pos, aft, g⟩ (.bool false) := by
  refine ⟨fun l hl => ⟨rfl, fun E a W hf hs => ?_⟩⟩
  have hρ := hf.agrees
  have hex : execOp a.eval ⟨d, .binOp .eql t x y t2, ty, pos, aft, g⟩ = (do let b ← Op.equal t (.iface k p) .nilIface; pure (.value (.bool b)) : Sem Next) := by
    simp [execOp, hρ x _ hx, hρ y _ hy, eqGuard_at_iface, binOp]
  unfold OpVal
  rw [hex, Sem.run_bind, run_equal_held_nil W t k p ht]
  exact ⟨_, ⟨rfl, rfl⟩, hs⟩
theorem q_eqniN {c : Value} (ht : P.underlying t = some (.interface (P.methodsAt t))) (hx : ev fr x = some .nilIface) (hy : ev fr (.const c) = some .nilIface) : OpQ P ro N fr R ⟨d, .binOp .eql t x (.const c) t2, ty, pos, aft, g⟩ (.bool true) := by
  refine ⟨fun l hl => ⟨rfl, fun E a W hf hs => ?_⟩⟩
  have hρ := hf.agrees
  have hex : execOp a.eval ⟨d, .binOp .eql t x (.const c) t2, ty, pos, aft, g⟩ = (do let b ← Op.equal t .nilIface .nilIface; pure (.value (.bool b)) : Sem Next) := by
    simp only [execOp, hρ x _ hx, hρ _ _ hy, eqGuard_nil_constR, binOp]
    simp
  unfold OpVal
  rw [hex, Sem.run_bind, run_equal_nil_nil W t ht]
  exact ⟨_, ⟨rfl, rfl⟩, hs⟩
end
end Go.Proofs.YtffmibmefmbdjaaDoor

/- number; ref35's Word and Number. -/
set_option linter.unusedVariables false
set_option linter.unusedSimpArgs false
namespace Go.Proofs.YtffmibmefmbdjaaDoor
open Go.RowKit
set_option maxRecDepth 20000

/-- what comes of a word that is read as a number -/
def NumV (s : List UInt8) (lim : Nat) (v : Value) : Prop := (∃ n, rdL s lim = some n ∧ v = .tuple #[.int .u64 (n : Nat), .bool true]) ∨ (rdL s lim = none ∧ ∃ x : Nat, x < 18446744073709551616 ∧ v = .tuple #[.int .u64 (x : Nat), .bool false])
theorem iface_error : Tryd.prog.underlying 59 = some (.interface (Tryd.prog.methodsAt 59)) := by kernel_rfl
theorem number_any (s : List UInt8) (lim : Nat) (hs : s.length ≤ 100000) (hl : lim < 18446744073709551616) (l : List Chunk) (hG : GL l) : Fn Tryd.prog 31 [str s, .int .u64 (lim : Nat)] l fun v l' => NumV s lim v ∧ l' = l := by
  refine fn_of_body Tryd.func31 rfl rfl fun E => ?_
  simp only [argF, Tryd.ntmps31]
  by_cases hp : ∃ u, Lib.parseUintB 64 s = .ok u
  · obtain ⟨u, hp⟩ := hp
    have hu := Lib.parseUintB_le hp
    have hu : u < 18446744073709551616 := by omega
    refine gz ?_
    refine t_e (e_call0 rfl rfl (parseU_ok s (by omega) u hp l)) rfl rfl rfl ?_
    rintro _ _ ⟨rfl, rfl⟩
    refine gz ?_
    refine t_q (q_eqniN iface_error rfl rfl) rfl rfl rfl ?_
    by_cases h : u ≤ lim
    · refine gz ?_
      refine t_eh (e_call0 rfl rfl (format_any u hu _ hG)) rfl rfl rfl ?_
      rintro _ _ ⟨rfl, rfl⟩
      refine gz ?_
      refine k_ret [] rfl .refl (by exact zRes) ⟨?_, rfl⟩
      by_cases h2 : Lib.decDigits u = s
      · rw [decide_eq_true h2]
        exact .inl ⟨u, rdL_some.2 ⟨by rw [← h2]; exact rdN_dec hu, h⟩, rfl⟩
      · rw [decide_eq_false h2]
        refine .inr ⟨rdL_none.2 fun n hn _ => ?_, u, hu, rfl⟩
        obtain ⟨h3, h4⟩ := rdN_some hn
        have := pu_dec n h3
        rw [h4, hp] at this
        cases this
        exact h2 h4
    · refine gz ?_
      refine k_ret [] rfl .refl (by exact zRes) ⟨.inr ⟨rdL_none.2 fun n hn h5 => ?_, u, hu, rfl⟩, rfl⟩
      obtain ⟨h3, h4⟩ := rdN_some hn
      have := pu_dec n h3
      rw [h4, hp] at this
      cases this
      exact h h5
  · refine gz ?_
    refine t_e (e_call0 rfl rfl (parseU_bad s (by omega) (fun u e => hp ⟨u, e⟩) l hG)) rfl rfl rfl ?_
    rintro _ _ ⟨⟨x, t, p, hx, rfl⟩, rfl⟩
    refine gz ?_
    refine t_q (q_eqniI iface_error rfl rfl) rfl rfl rfl ?_
    refine gz ?_
    refine k_ret [] rfl .refl (by exact zRes) ⟨.inr ⟨rdL_none.2 fun n hn h5 => ?_, x, hx, rfl⟩, rfl⟩
    obtain ⟨h3, h4⟩ := rdN_some hn
    exact hp ⟨n, by rw [← h4]; exact pu_dec n h3⟩
end Go.Proofs.YtffmibmefmbdjaaDoor

/- ref35: Word, Number. -/
-- GU
set_option linter.unusedVariables false
set_option linter.unusedSimpArgs false
namespace Go.Proofs.YtffmibmefmbdjaaDoor
open Go.RowKit
set_option maxRecDepth 20000

def wfN : Nat → List UInt8 → Nat
  | a, [] => a
  | a, c :: r => wfN ((a * 10 + (c.toNat - 48)) % 18446744073709551616) r
theorem wfN_snoc (r : List UInt8) : ∀ (a : List UInt8) (x : Nat), wfN x (a ++ r) = wfN (wfN x a) r := by
  intro a
  induction a with
  | nil => intro x; rfl
  | cons c a ih => intro x; exact ih _
theorem wfN_lt (s : List UInt8) : ∀ a, a < 18446744073709551616 → wfN a s < 18446744073709551616 := by
  induction s with
  | nil => intro a h; exact h
  | cons c r ih => intro a h; exact ih _ (Nat.mod_lt _ (by omega))
theorem wfN_one (a k : Nat) (h : k < 10) (ha : a * 10 + k < 18446744073709551616) : wfN a [UInt8.ofNat (48 + k)] = a * 10 + k := by
  show (a * 10 + ((UInt8.ofNat (48 + k)).toNat - 48)) % 18446744073709551616 = _
  rw [dchar k h, Nat.add_sub_cancel_left, Nat.mod_eq_of_lt ha]
theorem wf_dec (n : Nat) : n < 18446744073709551616 → wfN 0 (Lib.decDigits n) = n := by
  induction n using Nat.strongRecOn with
  | ind n ih =>
    intro hn
    by_cases h : n < 10
    · rw [Lib.decDigits_one h, wfN_one 0 n h (by omega)]; omega
    · rw [dec_step n h, wfN_snoc, ih (n / 10) (by omega) (by omega), Lib.decDigits_one (Nat.mod_lt _ (by omega)), wfN_one _ _ (Nat.mod_lt _ (by omega)) (by omega)]; omega
theorem dec_digits (n : Nat) : ∀ c ∈ Lib.decDigits n, 48 ≤ c.toNat ∧ c.toNat ≤ 57 := by
  induction n using Nat.strongRecOn with
  | ind n ih =>
    intro c hc
    have one : ∀ k, k < 10 → c ∈ Lib.decDigits k → 48 ≤ c.toNat ∧ c.toNat ≤ 57 := by
      intro k hk hc
      rw [Lib.decDigits_one hk, List.mem_singleton] at hc
      subst hc
      rw [dchar k hk]; omega
    by_cases h : n < 10
    · exact one n h hc
    · rw [dec_step n h, List.mem_append] at hc
      rcases hc with hc | hc
      · exact ih _ (by omega) c hc
      · exact one _ (Nat.mod_lt _ (by omega)) hc
theorem dec_head (n : Nat) : 1 ≤ n → ((Lib.decDigits n).getD 0 0).toNat ≠ 48 := by
  induction n using Nat.strongRecOn with
  | ind n ih =>
    intro h1
    by_cases h : n < 10
    · rw [Lib.decDigits_one h]
      show (UInt8.ofNat (48 + n)).toNat ≠ 48
      rw [dchar n h]; omega
    · rw [dec_step n h]
      have := ih (n / 10) (by omega) (by omega)
      have hp := dec_pos (n / 10)
      rw [List.getD_eq_getElem?_getD, List.getElem?_append_left hp, ← List.getD_eq_getElem?_getD]
      exact this
theorem rdN_bad {s : List UInt8} (h : ∀ n, n < 18446744073709551616 → Lib.decDigits n ≠ s) : rdN s = none := by
  cases e : rdN s with
  | none => rfl
  | some n => exact absurd (rdN_some e).2 (h n (rdN_some e).1)
def WordV (s : List UInt8) (v : Value) : Prop := v = .tuple #[.int .u64 ((rdN s).getD 0 : Nat), .bool (rdN s).isSome]
theorem wordV_none {s : List UInt8} (h : rdN s = none) : WordV s (.tuple #[.int .u64 0, .bool false]) := by unfold WordV; rw [h]; rfl

theorem getD_mem {s : List UInt8} {k : Nat} (h : k < s.length) : s.getD k 0 ∈ s := by
  rw [List.getD_eq_getElem?_getD, List.getElem?_eq_getElem h]; exact List.getElem_mem h
theorem take_snoc {s : List UInt8} {k : Nat} (h : k < s.length) : s.take (k + 1) = s.take k ++ [s.getD k 0] := by
  rw [List.take_add_one, List.getD_eq_getElem?_getD, List.getElem?_eq_getElem h]; rfl
theorem word_any (s : List UInt8) (hs : s.length ≤ 100000) (l : List Chunk) : Fn Tryd.prog 40 [str s] l fun v l' => WordV s v ∧ l' = l := by
  refine fn_of_body Tryd.func40 rfl rfl fun E => ?_
  simp only [argF, Tryd.ntmps40]
  by_cases c1 : s.length < 1
  · refine gzU ?_
    refine k_ret [] rfl .refl (by exact zRes) ⟨wordV_none (rdN_bad fun n hn e => ?_), rfl⟩
    have := dec_pos n; rw [e] at this; omega
  by_cases c2 : 20 < s.length
  · refine gzU ?_
    refine k_ret [] rfl .refl (by exact zRes) ⟨wordV_none (rdN_bad fun n hn e => ?_), rfl⟩
    have := dec_len n hn; rw [e] at this; omega
  by_cases c5 : (s.getD 0 0).toNat = 48
  · by_cases c6 : 1 < s.length
    · refine gzU ?_
      refine t_h (q_idxS (m := 0) rfl rfl (by omega)) rfl rfl rfl ?_
      refine gzU ?_
      refine k_ret [] rfl .refl (by exact zRes) ⟨wordV_none (rdN_bad fun n hn e => ?_), rfl⟩
      by_cases hn0 : n = 0
      · subst hn0; rw [Lib.decDigits_one (by omega)] at e; rw [← e] at c6; simp at c6
      · have := dec_head n (by omega); rw [e] at this; exact this c5
    · refine gzU ?_
      refine t_h (q_idxS (m := 0) rfl rfl (by omega)) rfl rfl rfl ?_
      refine gzU ?_
      refine k_loop (α := Nat) (fun k => [(0, str s), (4, .int .u64 (wfN 0 (s.take k) : Nat)), (5, .int .i64 k)]) (fun k => l) (fun k => k ≤ s.length ∧ ∀ j, j < k → 48 ≤ (s.getD j 0).toNat ∧ (s.getD j 0).toNat ≤ 57) (fun k => s.length - k) 0 ⟨Nat.zero_le _, fun j h => by omega⟩ ⟨rfl, rfl, rfl, trivial⟩ .refl ?_
      rintro k ⟨hk, hj⟩
      by_cases hlt : k < s.length
      · by_cases hd : 48 ≤ (s.getD k 0).toNat ∧ (s.getD k 0).toNat ≤ 57
        · have hw := wfN_lt (s.take k) 0 (by omega)
          refine gzU ?_
          refine t_q (q_mul_w rfl rfl) rfl rfl rfl ?_
          refine gzU ?_
          refine t_q (q_sub rfl rfl ⟨by omega, by omega⟩) rfl rfl rfl ?_
          refine gzU ?_
          refine t_q (q_add_w rfl rfl) rfl rfl rfl ?_
          refine gzU ?_
          refine k_next (k + 1) ⟨by omega, fun j h => ?_⟩ (by omega) ⟨rfl, ?_, rfl, trivial⟩ .refl
          · by_cases e : j = k
            · subst e; exact hd
            · exact hj j (by omega)
          · show _ = some (Value.int .u64 _)
            rw [take_snoc hlt, wfN_snoc]
            show some (Value.int .u64 (IntKind.u64.wrap (IntKind.u64.wrap ((wfN 0 (s.take k) : Nat) * 10) + ((s.getD k 0).toNat - 48 : Int)))) = some (Value.int .u64 (((wfN 0 (s.take k) * 10 + ((s.getD k 0).toNat - 48)) % 18446744073709551616 : Nat)))
            congr 2
            rw [IntKind.wrap_u64, IntKind.wrap_u64]
            omega
        · by_cases h48 : (s.getD k 0).toNat < 48
          all_goals
            refine gzU ?_
            refine k_ret [] rfl .refl (by exact zRes) ⟨wordV_none (rdN_bad fun n hn e => ?_), rfl⟩
            exact hd (dec_digits n _ (by rw [e]; exact getD_mem hlt))
      · obtain rfl : k = s.length := by omega
        have hw := wfN_lt s 0 (by omega)
        refine gzU ?_
        rw [List.take_length]
        refine t_e (e_call0 rfl rfl (decimal_any _ hw _)) rfl rfl rfl ?_
        rintro _ _ ⟨rfl, rfl⟩
        refine gzU ?_
        by_cases h : Lib.decDigits (wfN 0 s) = s
        · refine c_if_f rfl (by simpa using h) ?_
          refine gzU ?_
          refine k_ret [] rfl .refl (by exact zRes) ⟨?_, rfl⟩
          have := rdN_dec hw
          rw [h] at this
          unfold WordV; rw [this]; rfl
        · refine c_if_t rfl h ?_
          refine gzU ?_
          refine k_ret [] rfl .refl (by exact zRes) ⟨wordV_none (rdN_bad fun n hn e => h ?_), rfl⟩
          rw [← e, wf_dec n hn]
  · refine gzU ?_
    refine t_h (q_idxS (m := 0) rfl rfl (by omega)) rfl rfl rfl ?_
    refine gzU ?_
    refine k_loop (α := Nat) (fun k => [(0, str s), (4, .int .u64 (wfN 0 (s.take k) : Nat)), (5, .int .i64 k)]) (fun k => l) (fun k => k ≤ s.length ∧ ∀ j, j < k → 48 ≤ (s.getD j 0).toNat ∧ (s.getD j 0).toNat ≤ 57) (fun k => s.length - k) 0 ⟨Nat.zero_le _, fun j h => by omega⟩ ⟨rfl, rfl, rfl, trivial⟩ .refl ?_
    rintro k ⟨hk, hj⟩
    by_cases hlt : k < s.length
    · by_cases hd : 48 ≤ (s.getD k 0).toNat ∧ (s.getD k 0).toNat ≤ 57
      · have hw := wfN_lt (s.take k) 0 (by omega)
        refine gzU ?_
        refine t_q (q_mul_w rfl rfl) rfl rfl rfl ?_
        refine gzU ?_
        refine t_q (q_sub rfl rfl ⟨by omega, by omega⟩) rfl rfl rfl ?_
        refine gzU ?_
        refine t_q (q_add_w rfl rfl) rfl rfl rfl ?_
        refine gzU ?_
        refine k_next (k + 1) ⟨by omega, fun j h => ?_⟩ (by omega) ⟨rfl, ?_, rfl, trivial⟩ .refl
        · by_cases e : j = k
          · subst e; exact hd
          · exact hj j (by omega)
        · show _ = some (Value.int .u64 _)
          rw [take_snoc hlt, wfN_snoc]
          show some (Value.int .u64 (IntKind.u64.wrap (IntKind.u64.wrap ((wfN 0 (s.take k) : Nat) * 10) + ((s.getD k 0).toNat - 48 : Int)))) = some (Value.int .u64 (((wfN 0 (s.take k) * 10 + ((s.getD k 0).toNat - 48)) % 18446744073709551616 : Nat)))
          congr 2
          rw [IntKind.wrap_u64, IntKind.wrap_u64]
          omega
      · by_cases h48 : (s.getD k 0).toNat < 48
        all_goals
          refine gzU ?_
          refine k_ret [] rfl .refl (by exact zRes) ⟨wordV_none (rdN_bad fun n hn e => ?_), rfl⟩
          exact hd (dec_digits n _ (by rw [e]; exact getD_mem hlt))
    · obtain rfl : k = s.length := by omega
      have hw := wfN_lt s 0 (by omega)
      refine gzU ?_
      rw [List.take_length]
      refine t_e (e_call0 rfl rfl (decimal_any _ hw _)) rfl rfl rfl ?_
      rintro _ _ ⟨rfl, rfl⟩
      refine gzU ?_
      by_cases h : Lib.decDigits (wfN 0 s) = s
      · refine c_if_f rfl (by simpa using h) ?_
        refine gzU ?_
        refine k_ret [] rfl .refl (by exact zRes) ⟨?_, rfl⟩
        have := rdN_dec hw
        rw [h] at this
        unfold WordV; rw [this]; rfl
      · refine c_if_t rfl h ?_
        refine gzU ?_
        refine k_ret [] rfl .refl (by exact zRes) ⟨wordV_none (rdN_bad fun n hn e => h ?_), rfl⟩
        rw [← e, wf_dec n hn]

def NumbV (s : List UInt8) (v : Value) : Prop := v = .tuple #[.int .i64 ((rdL s 999999).getD 0 : Nat), .bool (rdL s 999999).isSome]
theorem numb_any (s : List UInt8) (hs : s.length ≤ 100000) (l : List Chunk) : Fn Tryd.prog 39 [str s] l fun v l' => NumbV s v ∧ l' = l := by
  refine fn_of_body Tryd.func39 rfl rfl fun E => ?_
  simp only [argF, Tryd.ntmps39]
  refine gzU ?_
  refine t_e (e_call0 rfl rfl (word_any s hs l)) rfl rfl rfl ?_
  rintro _ _ ⟨hw, rfl⟩
  unfold WordV at hw
  cases h : rdN s with
  | none =>
    rw [h] at hw
    subst hw
    refine gzU ?_
    refine k_ret [] rfl .refl (by exact zRes) ⟨?_, rfl⟩
    unfold NumbV rdL; rw [h]; rfl
  | some n =>
    rw [h] at hw
    obtain rfl : _ = Value.tuple #[.int .u64 (n : Nat), .bool true] := hw
    have hn := (rdN_some h).1
    by_cases h1 : n ≤ 999999
    · refine gzU ?_
      refine k_ret [] rfl .refl (by exact zRes) ⟨?_, rfl⟩
      unfold NumbV; rw [rdL_some.2 ⟨h, h1⟩]; rfl
    · refine gzU ?_
      refine k_ret [] rfl .refl (by exact zRes) ⟨?_, rfl⟩
      unfold NumbV; rw [rdL_none.2 fun m hm => by rw [h] at hm; cases hm; exact h1]; rfl
end Go.Proofs.YtffmibmefmbdjaaDoor

/- parts: a kind's word and its numbers. -/
set_option linter.unusedVariables false
set_option linter.unusedSimpArgs false
namespace Go.Proofs.YtffmibmefmbdjaaDoor
open Go.RowKit
set_option maxRecDepth 20000

structure EvT where
  kd : Int
  co : Int
  th : Int
  op : Nat
  a0 : Nat
  a1 : Nat
  a2 : Nat
  a3 : Nat
  a4 : Nat
  a5 : Nat
  va : Nat
  vl : Nat
  se : Int
  wy : Int
  pg : Int
def EvT.cells (e : EvT) : List Value := [.int .i64 e.kd, .int .i64 e.co, .int .i64 e.th, .int .u64 e.op, .int .u64 e.a0, .int .u64 e.a1, .int .u64 e.a2, .int .u64 e.a3, .int .u64 e.a4, .int .u64 e.a5, .int .u64 e.va, .int .u64 e.vl, .int .i64 e.se, .int .i64 e.wy, .int .i64 e.pg]
abbrev evC (b : Nat) (cs : List Value) : Chunk := (b, .cells (List.toArray cs) 43 (0, 0))
/-- a kind's numbers: where each lies, and whether it is a word -/
def pts (k : Int) : List (Nat × Bool) :=
  if k = 1 then [(1, false), (2, false)] else if k = 2 then [(1, false), (3, true), (4, true), (5, true), (6, true), (7, true), (8, true), (9, true)] else if k = 3 then [(1, false), (10, true)]
  else if k = 4 then [(1, false), (10, true), (11, true)] else if k = 5 then [(1, false), (12, false), (13, false)] else if k = 6 then [(1, false), (14, false)] else []
def nm (k : Int) : List UInt8 :=
  if k = 1 then [112, 105, 99, 107] else if k = 2 then [99, 97, 108, 108] else if k = 3 then [108, 111, 97, 100] else if k = 4 then [115, 116, 111, 114, 101] else if k = 5 then [101, 118, 105, 99, 116] else if k = 6 then [112, 114, 101, 102, 101, 116, 99, 104] else []
def ptrV (b : Nat) (p : Nat × Bool) : List Value := if p.2 then [.pointer none, .pointer (some ⟨b, p.1, none⟩)] else [.pointer (some ⟨b, p.1, none⟩), .pointer none]
def partsV (b : Nat) (k : Int) : List Value := (pts k).flatMap (ptrV b)
def PartsQ (b : Nat) (k : Int) (l : List Chunk) (v : Value) (l' : List Chunk) : Prop :=
  ∃ sv cs, v = .tuple #[str (nm k), sv, .bool (decide (1 ≤ k ∧ k ≤ 6))] ∧ OwnSl 70 2 sv (pts k).length (partsV b k) cs ∧ l' = cs ++ l

def pcl (b i : Nat) : List Value := ((pts 2).take (2 + i)).flatMap (ptrV b)
theorem pcl_step (b i : Nat) (h : i < 6) : pcl b (i + 1) = pcl b i ++ [.pointer none, .pointer (some ⟨b, 4 + i * 1, none⟩)] := by
  rcases i with _ | _ | _ | _ | _ | _ | i <;> first | rfl | omega
theorem pcl_len (b i : Nat) (h : i ≤ 6) : (pcl b i).length = (2 + i) * 2 := by
  rcases i with _ | _ | _ | _ | _ | _ | _ | i <;> first | rfl | omega
set_option maxHeartbeats 2000000 in
theorem parts_any (b : Nat) (cs : List Value) (k : Int) (l : List Chunk) (hlen : cs.length = 15) (hk : cs[0]? = some (.int .i64 k)) (hb : evC b cs ∈ l) : Fn Tryd.prog 25 [.pointer (some ⟨b, 0, none⟩)] l (PartsQ b k l) := by
  obtain ⟨c0, rest, rfl⟩ : ∃ c r, cs = c :: r := by cases cs <;> simp_all
  obtain rfl : c0 = .int .i64 k := by simpa using hk
  refine fn_of_body Tryd.func25 rfl rfl fun E => ?_
  simp only [argF, Tryd.ntmps25]
  refine gz ?_
  refine t_e e_alloc rfl rfl rfl ?_; rintro _ _ ⟨b5, _, rfl, rfl⟩
  refine gz ?_
  by_cases h0 : k = 1
  · subst h0
    refine gz ?_
    refine c_draw [(0, true), (1, true), (2, true), (3, true), (4, true), (6, true), (5, false), (7, true), (8, true)] [[], [], [1], [1, 2], [1, 2, 3], [0, 1, 2, 3, 4], [], [0, 1, 2, 3, 4, 5, 6], [0, 1, 2, 3, 4, 5, 6, 7]] _ (by kernel_rfl) (by kernel_rfl) zAtt (fun _ h => h) ?_
    refine pz ?_
    apply pl_e
    · exact e_litNk (k := 2) (zs := [.pointer none, .pointer none]) (cs := partsV b 1) rfl (by decide) (by decide) rfl rfl
    · rfl
    · rfl
    · rfl
    · rintro _ _ ⟨_, _, _, rfl⟩ x hx; exact .tail _ hx
    rintro _ _ ⟨gb, hgb, rfl, rfl⟩
    refine pz ?_
    refine gz ?_
    exact k_ret [] rfl (l' := [_] ++ l) (by exact zKeep) (by exact zRes) ⟨_, _, rfl, ⟨by rfl, .inr ⟨gb, 2, [], rfl, by rw [List.append_nil], by decide, by unfold maxLen; omega, by rfl⟩⟩, rfl⟩
  by_cases h1 : k = 3
  · subst h1
    refine gz ?_
    refine c_draw [(0, true), (1, true), (2, true), (3, true), (4, true), (6, true), (5, false), (7, true), (8, true)] [[], [], [1], [1, 2], [1, 2, 3], [0, 1, 2, 3, 4], [], [0, 1, 2, 3, 4, 5, 6], [0, 1, 2, 3, 4, 5, 6, 7]] _ (by kernel_rfl) (by kernel_rfl) zAtt (fun _ h => h) ?_
    refine pz ?_
    apply pl_e
    · exact e_litNk (k := 2) (zs := [.pointer none, .pointer none]) (cs := partsV b 3) rfl (by decide) (by decide) rfl rfl
    · rfl
    · rfl
    · rfl
    · rintro _ _ ⟨_, _, _, rfl⟩ x hx; exact .tail _ hx
    rintro _ _ ⟨gb, hgb, rfl, rfl⟩
    refine pz ?_
    refine gz ?_
    exact k_ret [] rfl (l' := [_] ++ l) (by exact zKeep) (by exact zRes) ⟨_, _, rfl, ⟨by rfl, .inr ⟨gb, 2, [], rfl, by rw [List.append_nil], by decide, by unfold maxLen; omega, by rfl⟩⟩, rfl⟩
  by_cases h2 : k = 4
  · subst h2
    refine gz ?_
    refine c_draw [(0, true), (1, true), (2, true), (3, true), (4, true), (5, true), (6, true), (7, true), (8, true), (10, true), (9, false), (11, true), (12, true)] [[], [], [1], [1, 2], [1, 2, 3], [], [5], [5, 6], [5, 6, 7], [0, 1, 2, 3, 4, 5, 6, 7, 8], [], [0, 1, 2, 3, 4, 5, 6, 7, 8, 9, 10], [0, 1, 2, 3, 4, 5, 6, 7, 8, 9, 10, 11]] _ (by kernel_rfl) (by kernel_rfl) zAtt (fun _ h => h) ?_
    refine pz ?_
    apply pl_e
    · exact e_litNk (k := 2) (zs := [.pointer none, .pointer none]) (cs := partsV b 4) rfl (by decide) (by decide) rfl rfl
    · rfl
    · rfl
    · rfl
    · rintro _ _ ⟨_, _, _, rfl⟩ x hx; exact .tail _ hx
    rintro _ _ ⟨gb, hgb, rfl, rfl⟩
    refine pz ?_
    refine gz ?_
    exact k_ret [] rfl (l' := [_] ++ l) (by exact zKeep) (by exact zRes) ⟨_, _, rfl, ⟨by rfl, .inr ⟨gb, 3, [], rfl, by rw [List.append_nil], by decide, by unfold maxLen; omega, by rfl⟩⟩, rfl⟩
  by_cases h3 : k = 5
  · subst h3
    refine gz ?_
    refine c_draw [(0, true), (1, true), (2, true), (3, true), (4, true), (5, true), (6, true), (7, true), (8, true), (10, true), (9, false), (11, true), (12, true)] [[], [], [1], [1, 2], [1, 2, 3], [], [5], [5, 6], [5, 6, 7], [0, 1, 2, 3, 4, 5, 6, 7, 8], [], [0, 1, 2, 3, 4, 5, 6, 7, 8, 9, 10], [0, 1, 2, 3, 4, 5, 6, 7, 8, 9, 10, 11]] _ (by kernel_rfl) (by kernel_rfl) zAtt (fun _ h => h) ?_
    refine pz ?_
    apply pl_e
    · exact e_litNk (k := 2) (zs := [.pointer none, .pointer none]) (cs := partsV b 5) rfl (by decide) (by decide) rfl rfl
    · rfl
    · rfl
    · rfl
    · rintro _ _ ⟨_, _, _, rfl⟩ x hx; exact .tail _ hx
    rintro _ _ ⟨gb, hgb, rfl, rfl⟩
    refine pz ?_
    refine gz ?_
    exact k_ret [] rfl (l' := [_] ++ l) (by exact zKeep) (by exact zRes) ⟨_, _, rfl, ⟨by rfl, .inr ⟨gb, 3, [], rfl, by rw [List.append_nil], by decide, by unfold maxLen; omega, by rfl⟩⟩, rfl⟩
  by_cases h4 : k = 6
  · subst h4
    refine gz ?_
    refine c_draw [(0, true), (1, true), (2, true), (3, true), (4, true), (6, true), (5, false), (7, true), (8, true)] [[], [], [1], [1, 2], [1, 2, 3], [0, 1, 2, 3, 4], [], [0, 1, 2, 3, 4, 5, 6], [0, 1, 2, 3, 4, 5, 6, 7]] _ (by kernel_rfl) (by kernel_rfl) zAtt (fun _ h => h) ?_
    refine pz ?_
    apply pl_e
    · exact e_litNk (k := 2) (zs := [.pointer none, .pointer none]) (cs := partsV b 6) rfl (by decide) (by decide) rfl rfl
    · rfl
    · rfl
    · rfl
    · rintro _ _ ⟨_, _, _, rfl⟩ x hx; exact .tail _ hx
    rintro _ _ ⟨gb, hgb, rfl, rfl⟩
    refine pz ?_
    refine gz ?_
    exact k_ret [] rfl (l' := [_] ++ l) (by exact zKeep) (by exact zRes) ⟨_, _, rfl, ⟨by rfl, .inr ⟨gb, 2, [], rfl, by rw [List.append_nil], by decide, by unfold maxLen; omega, by rfl⟩⟩, rfl⟩
  by_cases h9 : k = 2
  · subst h9
    refine gz ?_
    refine c_draw [(0, true), (1, true), (2, true), (3, true), (4, true), (5, true), (6, false), (7, true)] [[], [], [1], [1, 2], [1, 2, 3], [1, 2, 3, 4], [0, 1, 2, 3, 4, 5], [0, 1, 2, 3, 4, 5, 6]] _ (by kernel_rfl) (by kernel_rfl) zAtt (fun _ h => h) ?_
    refine pz ?_
    apply pl_e
    · exact e_litNk (k := 2) (zs := [.pointer none, .pointer none]) (cs := pcl b 0) rfl (by decide) (by decide) rfl rfl
    · rfl
    · rfl
    · rfl
    · rintro _ _ ⟨_, _, _, rfl⟩ x hx; exact .tail _ hx
    rintro _ _ ⟨gb, hgb, rfl, rfl⟩
    refine pz ?_
    refine gz ?_
    refine k_loop (α := Nat × Value × List Chunk) (fun x => [(0, .pointer (some ⟨b, 0, none⟩)), (6, x.2.1), (33, .int .i64 x.1)]) (fun x => x.2.2 ++ l) (fun x => x.1 ≤ 6 ∧ OwnSl 70 2 x.2.1 (2 + x.1) (pcl b x.1) x.2.2) (fun x => 6 - x.1) (0, .slice (some ⟨gb, 0, none⟩) 2 2, [(gb, .cells (List.toArray (pcl b 0)) 70 (0, 0))])
      ⟨by omega, ⟨by rfl, .inr ⟨gb, 2, [], rfl, by rw [List.append_nil], by show 2 + 0 ≤ 2; omega, by unfold maxLen; omega, by rfl⟩⟩⟩ ⟨rfl, rfl, rfl, trivial⟩ (by exact zKeep) ?_
    rintro ⟨i, v, cs⟩ ⟨hi, ho⟩
    simp only at hi ho ⊢
    by_cases hlt : i < 6
    · refine gz ?_
      refine t_e (e_litA (k := 2) (zs := [.pointer none, .pointer none]) rfl rfl rfl (by decide) (by decide)) rfl rfl rfl ?_
      rintro _ _ ⟨bl, hbl, rfl, rfl⟩
      refine t_e (e_appX (k := 2) (X := []) (cs := cs) (F := l) (n := 2 + i) (xs := pcl b i) (zs := [.pointer none, .pointer none]) rfl rfl rfl ho rfl (by simp [Value.oneCell']) (by omega) (by decide)) rfl rfl rfl ?_
      rintro v2 _ ⟨c2, ho2, rfl⟩
      refine gz ?_
      exact k_next (i + 1, v2, c2) ⟨by omega, by rw [pcl_step b i hlt]; exact ho2⟩ (by simp only; omega) ⟨rfl, rfl, rfl, trivial⟩ .refl
    · obtain rfl : i = 6 := by omega
      refine gz ?_
      exact k_ret [] rfl .refl (by exact zRes) ⟨_, _, rfl, ho, rfl⟩
  · refine gz ?_
    refine k_ret [] rfl (l' := l) (by exact zKeep) (by exact zRes) ⟨.slice none 0 0, [], ?_, ?_, rfl⟩
    · unfold nm
      rw [if_neg h0, if_neg h9, if_neg h1, if_neg h2, if_neg h3, if_neg h4, decide_eq_false (by omega)]; rfl
    · unfold partsV pts
      rw [if_neg h0, if_neg h9, if_neg h1, if_neg h2, if_neg h3, if_neg h4]; exact OwnSl.nil _ _
end Go.Proofs.YtffmibmefmbdjaaDoor

/- script.Line. -/
set_option linter.unusedVariables false
set_option linter.unusedSimpArgs false
namespace Go.Proofs.YtffmibmefmbdjaaDoor
open Go.RowKit
set_option maxRecDepth 20000

/-- the number in a cell -/
def fldI (cs : List Value) (o : Nat) : Int := match cs[o]? with | some (.int _ x) => x | _ => 0
/-- fifteen cells of an event -/
structure IsEv (cs : List Value) : Prop where
  len : cs.length = 15
  num : ∀ o, o = 0 ∨ o = 1 ∨ o = 2 ∨ o = 12 ∨ o = 13 ∨ o = 14 → cs[o]? = some (.int .i64 (fldI cs o))
  word : ∀ o, 3 ≤ o ∧ o ≤ 11 → cs[o]? = some (.int .u64 (fldI cs o)) ∧ 0 ≤ fldI cs o ∧ fldI cs o < 18446744073709551616
def lineGo (cs : List Value) : List UInt8 → List (Nat × Bool) → List UInt8 × Int
  | s, [] => (s, 0)
  | s, p :: ps => if p.2 = false ∧ ¬ (0 ≤ fldI cs p.1 ∧ fldI cs p.1 ≤ 999999) then ([], 3) else lineGo cs (s ++ (32 :: Lib.decDigits (fldI cs p.1).toNat)) ps
/-- an event's line, or the error -/
def lineC (cs : List Value) : List UInt8 × Int := if 1 ≤ fldI cs 0 ∧ fldI cs 0 ≤ 6 then lineGo cs (nm (fldI cs 0)) (pts (fldI cs 0)) else ([], 2)
theorem pts_mem {k : Int} {p : Nat × Bool} (h : p ∈ pts k) : (p.2 = false ∧ (p.1 = 1 ∨ p.1 = 2 ∨ p.1 = 12 ∨ p.1 = 13 ∨ p.1 = 14)) ∨ (p.2 = true ∧ 3 ≤ p.1 ∧ p.1 ≤ 11) := by
  unfold pts at h
  repeat' split at h
  all_goals
    revert p
    decide
theorem pts_len (k : Int) : (pts k).length ≤ 8 := by
  unfold pts
  repeat' split
  all_goals decide
theorem nm_len (k : Int) : (nm k).length ≤ 8 := by
  unfold nm
  repeat' split
  all_goals decide
def lnV (r : List UInt8 × Int) : Value := .tuple #[str r.1, .int .i64 r.2]
set_option maxHeartbeats 1000000 in
theorem line_any (cs : List Value) (hc : IsEv cs) (l : List Chunk) (hG : GL l) : Fn Tryd.prog 16 [.agg (List.toArray cs)] l fun v l' => v = lnV (lineC cs) ∧ l' = l := by
  refine fn_of_body Tryd.func16 rfl rfl fun E => ?_
  simp only [argF, Tryd.ntmps16]
  refine gz ?_
  refine t_e (e_boxA rfl) rfl rfl rfl ?_
  rintro _ _ ⟨b1, hb1, rfl, rfl⟩
  refine gz ?_
  refine t_e (e_call0 rfl rfl (parts_any b1 cs (fldI cs 0) _ hc.len (hc.num 0 (.inl rfl)) (.head _))) rfl rfl rfl ?_
  rintro _ _ ⟨sv, c1, rfl, ho, rfl⟩
  by_cases hk : 1 ≤ fldI cs 0 ∧ fldI cs 0 ≤ 6
  · rw [decide_eq_true hk]
    refine gz ?_
    have hln := nm_len (fldI cs 0)
    have hpl := pts_len (fldI cs 0)
    have hp0 : 0 < (pts (fldI cs 0)).length := by
      have h1 : fldI cs 0 = 1 ∨ fldI cs 0 = 2 ∨ fldI cs 0 = 3 ∨ fldI cs 0 = 4 ∨ fldI cs 0 = 5 ∨ fldI cs 0 = 6 := by omega
      rcases h1 with h | h | h | h | h | h <;> rw [h] <;> decide
    obtain ⟨_, ⟨rfl, h0, rfl⟩ | ⟨gb, cap, sp, rfl, rfl, hnc, hcm, hcl⟩⟩ := ho
    · omega
    generalize hPS : pts (fldI cs 0) = PS at *
    have hps : ∀ p ∈ PS, (p.2 = false ∧ (p.1 = 1 ∨ p.1 = 2 ∨ p.1 = 12 ∨ p.1 = 13 ∨ p.1 = 14)) ∨ (p.2 = true ∧ 3 ≤ p.1 ∧ p.1 ≤ 11) := fun p h => pts_mem (by rw [hPS]; exact h)
    have hPV : partsV b1 (fldI cs 0) = PS.flatMap (ptrV b1) := by unfold partsV; rw [hPS]
    rw [hPV]
    have hfin : lineC cs = lineGo cs (nm (fldI cs 0)) PS := by unfold lineC; rw [if_pos hk, hPS]
    rw [hfin]
    generalize hNM : nm (fldI cs 0) = NM at *
    refine gz ?_
    refine k_loop (α := Nat × List UInt8) (fun x => [(4, str x.2), (17, .slice (some ⟨gb, 0, none⟩) PS.length cap), (18, .int .i64 PS.length), (19, .int .i64 x.1)]) (fun x => (gb, .cells (List.toArray (PS.flatMap (ptrV b1) ++ sp)) 70 (0, 0)) :: evC b1 cs :: l) (fun x => x.1 ≤ PS.length ∧ x.2.length ≤ 8 + 21 * x.1 ∧ lineGo cs NM PS = lineGo cs x.2 (PS.drop x.1)) (fun x => PS.length - x.1) (0, NM) ⟨by omega, by simp only; omega, rfl⟩ ⟨rfl, rfl, rfl, rfl, trivial⟩ (by exact zKeep) ?_
    rintro ⟨i, s⟩ ⟨hi, hsl, hgo⟩
    simp only at hi hsl hgo ⊢
    by_cases hlt : i < PS.length
    · obtain ⟨p, hf⟩ : ∃ p, PS[i]? = some p := ⟨_, List.getElem?_eq_getElem hlt⟩
      have hpm := hps p (List.mem_of_getElem? hf)
      have hdrop : PS.drop i = p :: PS.drop (i + 1) := by
        rw [List.drop_eq_getElem_cons hlt]
        rw [List.getElem?_eq_getElem hlt] at hf; cases hf; rfl
      rw [hdrop] at hgo
      obtain ⟨q1, q2⟩ := flat_row (enc := ptrV b1) (k := 2) (fun x => by unfold ptrV; split <;> rfl) sp PS i p hf
      have hmb : (gb, Obj.cells (List.toArray (PS.flatMap (ptrV b1) ++ sp)) 70 (0, 0)) ∈ (gb, Obj.cells (List.toArray (PS.flatMap (ptrV b1) ++ sp)) 70 (0, 0)) :: evC b1 cs :: l := .head _
      rcases hpm with ⟨hp2, hp1⟩ | ⟨hp2, hp1⟩
      · -- a small number
        have hcell : (List.toArray cs)[p.1]? = some (.int .i64 (fldI cs p.1)) := by rw [List.getElem?_toArray]; exact hc.num _ (.inr hp1)
        rw [show ptrV b1 p = [.pointer (some ⟨b1, p.1, none⟩), .pointer none] by unfold ptrV; rw [hp2]; rfl] at q1
        refine gz ?_
        refine t_q (q_loadA (n := 2) rfl hmb (by simpa using q2) (by rw [List.extract_toArray, List.extract_eq_take_drop, Nat.add_sub_cancel_left, q1])) rfl rfl rfl ?_
        refine t_e e_alloc rfl rfl rfl ?_; rintro _ _ ⟨b8, _, rfl, rfl⟩
        refine gz ?_
        by_cases hr : 0 ≤ fldI cs p.1 ∧ fldI cs p.1 ≤ 999999
        · obtain ⟨n, hn⟩ : ∃ n : Nat, fldI cs p.1 = n := ⟨(fldI cs p.1).toNat, by omega⟩
          have hn2 : lineGo cs s (p :: PS.drop (i + 1)) = lineGo cs (s ++ ([32] ++ Lib.decDigits n)) (PS.drop (i + 1)) := by
            show (if _ then _ else _) = _
            rw [if_neg (fun h => h.2 hr), hn]; rfl
          rw [hn] at hcell hr
          have hdl := dec_len n (by omega)
          refine gz ?_
          refine t_e (e_call0 rfl rfl (format_any n (by omega) _ (by exact ((hG.cons _).cons _).cons _))) rfl rfl rfl ?_
          rintro _ _ ⟨rfl, rfl⟩
          refine gz ?_
          exact k_next (i + 1, s ++ ([32] ++ Lib.decDigits n)) ⟨by omega, by simp only [List.length_append, List.length_cons, List.length_nil]; omega, by rw [hgo, hn2]⟩ (by simp only; omega) ⟨rfl, rfl, rfl, rfl, trivial⟩ (.drop .refl)
        · have hn2 : lineGo cs s (p :: PS.drop (i + 1)) = ([], 3) := by
            show (if _ then _ else _) = _
            rw [if_pos ⟨hp2, hr⟩]
          by_cases hr2 : fldI cs p.1 < 0
          all_goals
            refine gz ?_
            refine k_ret [] rfl (l' := l) (by exact zKeep) (by exact zRes) ⟨?_, rfl⟩
            rw [hgo, hn2]; rfl
      · -- a word
        obtain ⟨hcell, hx0, hx1⟩ := hc.word p.1 hp1
        have hcell : (List.toArray cs)[p.1]? = some (.int .u64 (fldI cs p.1)) := by rw [List.getElem?_toArray]; exact hcell
        rw [show ptrV b1 p = [.pointer none, .pointer (some ⟨b1, p.1, none⟩)] by unfold ptrV; rw [hp2]; rfl] at q1
        obtain ⟨n, hn⟩ : ∃ n : Nat, fldI cs p.1 = n := ⟨(fldI cs p.1).toNat, by omega⟩
        have hn2 : lineGo cs s (p :: PS.drop (i + 1)) = lineGo cs (s ++ ([32] ++ Lib.decDigits n)) (PS.drop (i + 1)) := by
          show (if _ then _ else _) = _
          rw [if_neg (fun h => by rw [hp2] at h; cases h.1), hn]; rfl
        rw [hn] at hcell hx1
        have hdl := dec_len n (by omega)
        refine gz ?_
        refine t_q (q_loadA (n := 2) rfl hmb (by simpa using q2) (by rw [List.extract_toArray, List.extract_eq_take_drop, Nat.add_sub_cancel_left, q1])) rfl rfl rfl ?_
        refine t_e e_alloc rfl rfl rfl ?_; rintro _ _ ⟨b8, _, rfl, rfl⟩
        refine gz ?_
        refine t_e (e_call0 rfl rfl (format_any n (by omega) _ (by exact ((hG.cons _).cons _).cons _))) rfl rfl rfl ?_
        rintro _ _ ⟨rfl, rfl⟩
        refine gz ?_
        exact k_next (i + 1, s ++ ([32] ++ Lib.decDigits n)) ⟨by omega, by simp only [List.length_append, List.length_cons, List.length_nil]; omega, by rw [hgo, hn2]⟩ (by simp only; omega) ⟨rfl, rfl, rfl, rfl, trivial⟩ (.drop .refl)
    · obtain rfl : i = PS.length := by omega
      refine gz ?_
      refine k_ret [] rfl (l' := l) (by exact zKeep) (by exact zRes) ⟨?_, rfl⟩
      rw [hgo, List.drop_length]; rfl
  · rw [decide_eq_false hk]
    refine gz ?_
    refine k_ret [] rfl (l' := l) ?_ (by exact zRes) ⟨?_, rfl⟩
    · exact (Keep.drop .refl).dropL c1
    · unfold lineC; rw [if_neg hk]; rfl
end Go.Proofs.YtffmibmefmbdjaaDoor

/- A range over an iterator that keeps blocks of its own. Laws of my own, no program's. -/
set_option linter.unusedVariables false
set_option linter.unusedSimpArgs false
namespace Go.Proofs.YtffmibmefmbdjaaDoor
open Go.RowKit

/-- an iterator with blocks C of its own, which nobody sees behind it -/
structure IterM (P : Program) (gf : Nat) (lb : List Value) {α : Type} (enc : α → List Value) (S Sp : List α → Prop) (Need : List α → List Chunk → Prop) (C : List Chunk) : Prop where
  run : ∀ (r : Nat) (I Ix : List α → List Chunk → Prop) (G0 : List Chunk), (∀ pre l G, (∀ c, c ∈ G0 → c ∈ G) → I pre l → Need pre (l ++ G)) →
    (∀ pre x l G, (∀ c, c ∈ G0 → c ∈ G) → I pre l → Sp (pre ++ [x]) → YieldS P r (enc x) (l ++ G) (fun v l' => ∃ l1, l' = l1 ++ G ∧ ((v = .bool true ∧ I (pre ++ [x]) l1) ∨ (v = .bool false ∧ Ix (pre ++ [x]) l1)))) →
    ∀ l G, (∀ c, c ∈ G0 → c ∈ G) → I [] l → Fn P gf (.func (.yield r) #[] #[] :: lb) (l ++ (C ++ G)) (fun v l' => ∃ l1, l' = l1 ++ G ∧ ((∃ xs, S xs ∧ I xs l1) ∨ (∃ pre, Sp pre ∧ Ix pre l1)))

section
variable {P : Program} {N : Nat} {E : World} {Q : Exit → Act → World → Prop} {fr : Fr} {ds : List Deferred} {L : List Chunk} {α : Type} {g : Operand} {ps : List Tmp} {assign body : Code} {gf : Nat} {lb : List Value} {enc : α → List Value} {S Sp : List α → Prop} {Need : List α → List Chunk → Prop}

/-- a range over a function -/
theorem c_rangeM (hg : ev fr g = some (.func (.func gf) #[] lb.toArray)) [en : EN P gf] {C : List Chunk} (hit : IterM P gf lb enc S Sp Need C) (hps : ∀ x, (enc x).length = ps.length) (hpb : ps.all (fun p => Nat.blt p N) = true)
    (I : List α → List Chunk → Prop) (Ix : Code → List α → List Chunk → Prop) (l0 G : List Chunk) (hneed : ∀ pre l X, (∀ c, c ∈ G → c ∈ X) → I pre l → Need pre (l ++ X)) (hL : Keep L (l0 ++ (C ++ G))) (h0 : I [] l0)
    (hround : ∀ (E : World) (r : Nat) (rec : LoopState → Option Code → Loop) (pre : List α) (x : α) (l T : List Chunk), (∃ fn tmps D, rec = recOf fn tmps ps.toArray assign body D) → (∀ c, c ∈ G → c ∈ T) → I pre l → Sp (pre ++ [x]) →
      CodeS P (some r) N E assign (Exit.then (BeginK P r body (roundPost P r (RK E (RoundK I Ix (pre ++ [x]) r rec T)))) (fun _ _ _ => False)) (putPs ps (enc x) fr) [] (l ++ (r, .loop (rec .ready none)) :: T))
    (hdone : ∀ (D : Nat) (xs : List α) (l : List Chunk), S xs → I xs l → PostS N E Q .normal fr (markD D :: ds) (markC D :: (l ++ G)))
    (hstop : ∀ (D : Nat) (c : Code) (pre : List α) (l : List Chunk), Sp pre → Ix c pre l → CodeS P none N E c Q fr (markD D :: ds) (markC D :: (l ++ G))) :
    CodeS P none N E (.rangeFunc g ps.toArray assign body) Q fr ds L := by
  refine ⟨fun a W hf hds hs => wpIn_rangeFunc ?_⟩
  intro fn hfn
  have hs := hL.sat hs
  obtain ⟨rec, hrec⟩ : ∃ rec, rec = recOf fn a.tmps ps.toArray assign body W.heap.size := ⟨_, rfl⟩
  obtain ⟨W1, hW1⟩ : ∃ W1, (W.alloc (.deferred (some []))).alloc (.loop (rec .ready none)) = W1 := ⟨_, rfl⟩
  have hs1 : Sat E ((W.heap.size + 1, .loop (rec .ready none)) :: (W.heap.size, .deferred (some [])) :: (l0 ++ (C ++ G))) W1 := by
    have := (hs.alloc (.deferred (some []))).alloc (.loop (rec .ready none))
    rw [World.size_alloc, hW1] at this
    exact this
  have hev := hf.agrees g _ hg
  refine ⟨W.heap.size + 1, [markD W.heap.size], W1, { target := .fn (.func gf) lb.toArray, args := #[.func (.yield (W.heap.size + 1)) #[] #[]] }, W1, gf, #[.func (.yield (W.heap.size + 1)) #[] #[]] ++ lb.toArray, W1, ?_, ?_, fun _ _ => trivial, ?_, fun h => (by cases h), ?_⟩
  · rw [← hW1, hrec]; exact run_enterLoop_outer _ _ _ _ _
  · simp only [resolve, hev]
    simp [Deferred.ofValue, Act.eval]
  · simp [invoke, en.out]
  · have hR := hit.run (W.heap.size + 1)
      (fun pre l => ∃ l1, I pre l1 ∧ l = l1 ++ [(W.heap.size + 1, .loop (rec .ready none)), markC W.heap.size])
      (fun pre l => ∃ c l1, Ix c pre l1 ∧ l = l1 ++ [(W.heap.size + 1, .loop (rec .done (some c))), markC W.heap.size])
      G
      (fun pre l G' hG ⟨l1, h1, h2⟩ => by rw [h2, List.append_assoc]; exact hneed _ _ _ (fun c hc => List.mem_append_right _ (hG c hc)) h1)
      (fun pre x l G' hG ⟨l1, h1, h2⟩ hsp => by
        subst h2
        have hy := yield_of (P := P) (N := N) (fr := fr) (assign := assign) (body := body) (ps := ps) (enc := enc) (r := W.heap.size + 1) (fn := fn) (tmps := a.tmps) (D := W.heap.size) (T := markC W.heap.size :: G') (I := I) (Ix := Ix) (pre := pre) (x := x) (l := l1) (hps x) hpb
          (fun a' ha' => ⟨by rw [ha']; exact hf.size, fun d v hd => by rw [ha']; exact hf.at_ d v hd⟩) (fun E' => by
            have := hround E' (W.heap.size + 1) rec pre x l1 (markC W.heap.size :: G') ⟨fn, a.tmps, W.heap.size, hrec⟩ (fun c hc => List.mem_cons_of_mem _ (hG c hc)) h1 hsp
            rw [hrec] at this
            exact this)
        rw [← hrec] at hy
        refine ⟨fun E' W' hs' => ?_⟩
        have e : l1 ++ [(W.heap.size + 1, Obj.loop (rec .ready none)), markC W.heap.size] ++ G' = l1 ++ (W.heap.size + 1, Obj.loop (rec .ready none)) :: markC W.heap.size :: G' := by simp
        rw [e] at hs'
        obtain ⟨fn', tm, asg, bo, k1, k2⟩ := hy.run E' W' hs'
        refine ⟨fn', tm, asg, bo, k1, k2.mono ?_⟩
        rintro e' W'' ⟨v, l', rfl, hk, hs''⟩
        refine ⟨v, l', rfl, ?_, hs''⟩
        rcases hk with ⟨hv, l2, hI, rfl⟩ | ⟨hv, c, l2, hI, rfl⟩
        · exact ⟨l2 ++ [(W.heap.size + 1, .loop (rec .ready none)), markC W.heap.size], by simp, .inl ⟨hv, l2, hI, rfl⟩⟩
        · exact ⟨l2 ++ [(W.heap.size + 1, .loop (rec .done (some c))), markC W.heap.size], by simp, .inr ⟨hv, c, l2, hI, rfl⟩⟩)
      (l0 ++ [(W.heap.size + 1, .loop (rec .ready none)), markC W.heap.size]) G (fun _ h => h) ⟨l0, h0, rfl⟩
    have hs2 : Sat E (l0 ++ [(W.heap.size + 1, Obj.loop (rec .ready none)), markC W.heap.size] ++ (C ++ G)) W1 := hs1.perm (by
      refine List.Perm.trans ?_ (List.Perm.append_right (C ++ G) (List.perm_append_comm (l₁ := [(W.heap.size + 1, Obj.loop (rec .ready none)), markC W.heap.size]) (l₂ := l0)))
      simp [markC])
    have hc := hR.run E W1 hs2
    have eargs : (Value.func (.yield (W.heap.size + 1)) #[] #[] :: lb).toArray = #[.func (.yield (W.heap.size + 1)) #[] #[]] ++ lb.toArray := by simp
    rw [eargs] at hc
    refine callsIn_fw (hc.mono ?_)
    rintro e W2 ⟨v, l', rfl, ⟨l1, rfl, ⟨xs, hS, l2, hI, rfl⟩ | ⟨pre, hSp, c, l2, hI, rfl⟩⟩, hs3⟩
    · have hm : W2.heap[W.heap.size + 1]? = some (.loop (rec .ready none)) := hs3.has (W.heap.size + 1, _) (by simp)
      subst hrec
      refine ⟨none, _, run_endLoop (P := P) hm (by simp [recOf]), ?_⟩
      refine (hdone W.heap.size xs l2 hS hI).run { a with defers := [markD W.heap.size] ++ a.defers } _ ⟨hf.size, hf.at_⟩ (by rw [← hds]; rfl) ?_
      have h4 : Sat E (l2 ++ (W.heap.size + 1, Obj.loop (recOf fn a.tmps ps.toArray assign body W.heap.size .ready none)) :: markC W.heap.size :: G) W2 := by simpa using hs3
      have h5 := h4.upd (upd_mid l2 _ _ (.loop { recOf fn a.tmps ps.toArray assign body W.heap.size .ready none with state := .exhausted }) _)
      refine (h5.perm List.perm_middle).tail.perm List.perm_middle
    · have hm : W2.heap[W.heap.size + 1]? = some (.loop (rec .done (some c))) := hs3.has (W.heap.size + 1, _) (by simp)
      subst hrec
      refine ⟨some c, _, run_endLoop (P := P) hm (by simp [recOf]), ?_⟩
      refine (hstop W.heap.size c pre l2 hSp hI).run { a with defers := [markD W.heap.size] ++ a.defers } _ ⟨hf.size, hf.at_⟩ (by rw [← hds]; rfl) ?_
      have h4 : Sat E (l2 ++ (W.heap.size + 1, Obj.loop (recOf fn a.tmps ps.toArray assign body W.heap.size .done (some c))) :: markC W.heap.size :: G) W2 := by simpa using hs3
      have h5 := h4.upd (upd_mid l2 _ _ (.loop { recOf fn a.tmps ps.toArray assign body W.heap.size .done (some c) with state := .exhausted }) _)
      refine (h5.perm List.perm_middle).tail.perm List.perm_middle
end
end Go.Proofs.YtffmibmefmbdjaaDoor

/- strings.Cut at one byte; the words of a line. -/
set_option linter.unusedVariables false
set_option linter.unusedSimpArgs false
namespace Go.Proofs.YtffmibmefmbdjaaDoor
open Go.RowKit
set_option maxRecDepth 20000

/-- a text cut at its first c -/
def cutL (c : UInt8) : List UInt8 → List UInt8 × List UInt8 × Bool
  | [] => ([], [], false)
  | x :: r => if x = c then ([], r, true) else (x :: (cutL c r).1, (cutL c r).2.1, (cutL c r).2.2)
/-- a text at each c -/
def splitL (c : UInt8) : List UInt8 → List (List UInt8)
  | [] => [[]]
  | x :: r => if x = c then [] :: splitL c r else match splitL c r with | w :: ws => (x :: w) :: ws | [] => [[x]]
theorem splitL_cut (c : UInt8) (s : List UInt8) : splitL c s = (cutL c s).1 :: (if (cutL c s).2.2 then splitL c (cutL c s).2.1 else []) := by
  induction s with
  | nil => rfl
  | cons x r ih =>
    have e1 : splitL c (x :: r) = if x = c then [] :: splitL c r else match splitL c r with | w :: ws => (x :: w) :: ws | [] => [[x]] := rfl
    have e2 : cutL c (x :: r) = if x = c then ([], r, true) else (x :: (cutL c r).1, (cutL c r).2.1, (cutL c r).2.2) := rfl
    rw [e1, e2]
    by_cases h : x = c
    · rw [if_pos h, if_pos h]; rfl
    · rw [if_neg h, if_neg h, ih]
theorem cutL_len (c : UInt8) (s : List UInt8) : (cutL c s).1.length ≤ s.length ∧ (cutL c s).2.1.length ≤ s.length ∧ ((cutL c s).2.2 = true → (cutL c s).2.1.length < s.length) := by
  induction s with
  | nil => exact ⟨by simp [cutL], by simp [cutL], by simp [cutL]⟩
  | cons x r ih =>
    obtain ⟨h1, h2, h3⟩ := ih
    unfold cutL
    by_cases h : x = c
    · rw [if_pos h]; simp
    · rw [if_neg h]
      refine ⟨by simp; omega, by simp; omega, fun hb => ?_⟩
      have := h3 hb
      simp; omega
theorem cut_index (c : UInt8) (s : List UInt8) : (Lib.indexByte s c = -1 ∧ cutL c s = (s, [], false)) ∨ (∃ i : Nat, Lib.indexByte s c = i ∧ i < s.length ∧ cutL c s = (s.take i, s.drop (i + 1), true)) := by
  induction s with
  | nil => exact .inl ⟨rfl, rfl⟩
  | cons x r ih =>
    unfold Lib.indexByte cutL
    by_cases h : x = c
    · subst h
      rw [if_pos (by simp), if_pos rfl]
      exact .inr ⟨0, rfl, Nat.zero_lt_succ _, rfl⟩
    · rw [if_neg (by simpa using h), if_neg h]
      rcases ih with ⟨h1, h2⟩ | ⟨i, h1, h2, h3⟩
      · rw [h1, h2, if_pos (by rfl)]; exact .inl ⟨rfl, rfl⟩
      · rw [h1, h3, if_neg (by simp)]
        exact .inr ⟨i + 1, by omega, by simpa using h2, rfl⟩

theorem index_any (s : List UInt8) (c : UInt8) (l : List Chunk) : Fn Tryd.prog 36 [str s, str [c]] l fun v l' => v = .int .i64 (Lib.indexByte s c) ∧ l' = l :=
  fn_below fun W _ => (Tryd.stringslite_Index_one ⟨List.toArray s⟩ c W).mono fun e w' ⟨h1, h2⟩ => ⟨_, h1, rfl, by rw [h2]; exact Below.refl _ _⟩
def cutV (c : UInt8) (s : List UInt8) : Value := .tuple #[str (cutL c s).1, str (cutL c s).2.1, .bool (cutL c s).2.2]
theorem cutI_any (s : List UInt8) (c : UInt8) (hs : s.length ≤ 1000000) (l : List Chunk) : Fn Tryd.prog 29 [str s, str [c]] l fun v l' => v = cutV c s ∧ l' = l := by
  unfold cutV
  refine fn_of_body Tryd.func29 rfl rfl fun E => ?_
  simp only [argF, Tryd.ntmps29]
  refine gz ?_
  refine t_e (e_call0 rfl rfl (index_any s c l)) rfl rfl rfl ?_
  rintro _ _ ⟨rfl, rfl⟩
  rcases cut_index c s with ⟨h1, h2⟩ | ⟨i, h1, h3, h2⟩
  · rw [h1, h2]
    refine gz ?_
    exact k_ret [] rfl .refl (by exact zRes) ⟨rfl, rfl⟩
  · rw [h1, h2]
    refine gz ?_
    refine c_draw [(0, true), (1, true), (2, true), (3, true), (4, true), (5, true), (6, true), (7, true), (8, true), (9, true), (10, true), (11, true)] [[], [], [0, 1], [], [], [], [5], [4, 5, 6], [3, 4, 5, 6, 7], [0, 1, 2], [0, 1, 2, 3, 4, 5, 6, 7, 8, 9], [0, 1, 2, 3, 4, 5, 6, 7, 8, 9, 10]] _ (by kernel_rfl) (by kernel_rfl) zAtt (fun _ h => h) ?_
    refine pz ?_
    refine pzq ?_ (h := q_sliceS (l0 := 0) (h0 := i) rfl .none (.some rfl (by omega) (by omega)) (by omega) (by omega))
    refine pz ?_
    simp only [List.length_cons, List.length_nil, Nat.zero_add]
    refine pz ?_
    refine pzq ?_ (h := q_sliceS (l0 := i + 1) (h0 := s.length) rfl (.some rfl (by omega) (by omega)) .none (by omega) (by omega))
    refine pz ?_
    refine gz ?_
    refine k_ret [] rfl .refl (by exact zRes) ⟨?_, rfl⟩
    rw [List.drop_zero, Nat.sub_zero, List.take_of_length_le (l := s.drop (i + 1)) (by rw [List.length_drop]; omega)]
    rfl
theorem cut_any (s : List UInt8) (c : UInt8) (hs : s.length ≤ 1000000) (l : List Chunk) : Fn Tryd.prog 18 [str s, str [c]] l fun v l' => v = cutV c s ∧ l' = l := by
  have H := cutI_any s c hs l
  unfold cutV at H ⊢
  refine fn_of_body Tryd.func18 rfl rfl fun E => ?_
  simp only [argF, Tryd.ntmps18]
  refine gz ?_
  refine t_e (e_call0 rfl rfl H) rfl rfl rfl ?_
  rintro _ _ ⟨rfl, rfl⟩
  refine gz ?_
  exact k_ret [] rfl .refl (by exact zRes) ⟨rfl, rfl⟩

abbrev stC (B : Nat) (s : List UInt8) : Chunk := (B, .cells (List.toArray [str s]) 9 (0, 0))
theorem Keep.mid' {L1 G G' : List Chunk} (h : Keep G G') : Keep (L1 ++ G) (L1 ++ G') := by
  obtain ⟨r, p⟩ := h
  exact ⟨r, (List.Perm.append_left L1 p).trans (List.perm_append_comm_assoc L1 r G')⟩
theorem words_any (s : List UInt8) (l : List Chunk) : Fn Tryd.prog 30 [str s] l fun v l' => ∃ B, v = .func (.func 37) #[] #[.pointer (some ⟨B, 0, none⟩)] ∧ l' = stC B s :: l := by
  refine fn_of_body Tryd.func30 rfl rfl fun E => ?_
  simp only [argF, Tryd.ntmps30]
  refine gz ?_
  (first | refine t_e (e_box1 rfl rfl) rfl rfl rfl ?_ | refine t_e (e_boxA rfl) rfl rfl rfl ?_); rintro _ _ ⟨b1, _, rfl, rfl⟩
  refine gz ?_
  exact k_ret [] rfl .refl (by exact zRes) ⟨_, rfl, rfl⟩
def wdV (x : Nat × List UInt8) : List Value := [.int .i64 x.1, str x.2]
def numb {α : Type} : Nat → List α → List (Nat × α)
  | _, [] => []
  | i, x :: r => (i, x) :: numb (i + 1) r
theorem words_iter (B : Nat) (s : List UInt8) (hs : s.length ≤ 1000000) : IterM Tryd.prog 37 [.pointer (some ⟨B, 0, none⟩)] wdV (fun xs => xs = numb 0 (splitL 32 s)) (fun pre => pre <+: numb 0 (splitL 32 s)) (fun _ _ => True) [stC B s] := by
  refine ⟨fun r I Ix G0 hneed hY l G hG h0 => ?_⟩
  refine fn_of_body Tryd.func37 rfl rfl fun E => ?_
  simp only [argF, Tryd.ntmps37]
  refine gz ?_
  refine k_loop (α := Nat × List (Nat × List UInt8) × List UInt8 × List Chunk) (fun x => [(0, .func (.yield r) #[] #[]), (1, .pointer (some ⟨B, 0, none⟩)), (3, .int .i64 x.1)]) (fun x => x.2.2.2 ++ (stC B x.2.2.1 :: G))
    (fun x => I x.2.1 x.2.2.2 ∧ numb 0 (splitL 32 s) = x.2.1 ++ numb x.1 (splitL 32 x.2.2.1) ∧ x.1 + x.2.2.1.length ≤ s.length) (fun x => x.2.2.1.length) (0, [], s, l) ⟨h0, rfl, by simp⟩ ⟨rfl, rfl, rfl, trivial⟩ .refl ?_
  rintro ⟨i, pre, q, l⟩ ⟨hI, hW, hb⟩
  simp only at hI hW hb ⊢
  have hm : stC B q ∈ l ++ (stC B q :: G) := List.mem_append_right _ (.head _)
  obtain ⟨k1, k2, k3⟩ := cutL_len 32 q
  rw [splitL_cut 32 q] at hW
  refine gz ?_
  refine t_e (e_call0 rfl rfl (cut_any q 32 (by omega) _)) rfl rfl rfl ?_
  rintro _ _ ⟨rfl, rfl⟩
  unfold cutV
  refine gz ?_
  have hpre : pre ++ [(i, (cutL 32 q).1)] <+: numb 0 (splitL 32 s) := by
    rw [hW]
    exact ⟨numb (i + 1) (if (cutL 32 q).2.2 then splitL 32 (cutL 32 q).2.1 else []), by rw [List.append_assoc]; rfl⟩
  have hy := hY pre (i, (cutL 32 q).1) l (stC B q :: G) (fun c hc => .tail _ (hG c hc)) hI hpre
  refine t_e (e_yield rfl rfl hy) rfl rfl rfl ?_
  rintro w l' ⟨l1, rfl, ⟨rfl, hI'⟩ | ⟨rfl, hx⟩⟩
  · have hm' : stC B q ∈ l1 ++ (stC B q :: G) := List.mem_append_right _ (.head _)
    cases hmore : (cutL 32 q).2.2 with
    | true =>
      rw [hmore] at hW k3
      have k4 := k3 rfl
      refine gz ?_
      apply t_n
      · exact e_storeL rfl rfl rfl hm' .zero (upd_mid _ _ _ _ _)
      · rfl
      · rfl
      rintro _ _ ⟨rfl, rfl⟩
      refine gz ?_
      exact k_next (i + 1, pre ++ [(i, (cutL 32 q).1)], (cutL 32 q).2.1, l1) ⟨hI', by simp only; rw [hW, List.append_assoc]; rfl, by simp only; omega⟩ k4 ⟨rfl, rfl, rfl, trivial⟩ .refl
    | false =>
      rw [hmore] at hW
      refine gz ?_
      exact k_ret [] rfl (l' := l1 ++ G) (.mid' (.drop .refl)) (by exact zRes) ⟨l1, rfl, .inl ⟨_, hW.symm, hI'⟩⟩
  · refine gz ?_
    exact k_ret [] rfl (l' := l1 ++ G) (.mid' (.drop .refl)) (by exact zRes) ⟨l1, rfl, .inr ⟨_, hpre, hx⟩⟩
end Go.Proofs.YtffmibmefmbdjaaDoor

/- A region that draws its order, whose effects are stores at places apart in one block: they may come in any order. Laws of my own, no program's. -/
set_option linter.unusedVariables false
set_option linter.unusedSimpArgs false
namespace Go.Proofs.YtffmibmefmbdjaaDoor
open Go.RowKit

theorem setFrom_at (vs : List Value) : ∀ (cs : Array Value) (off k : Nat), (setFrom cs off vs)[k]? = if off ≤ k ∧ k < off + vs.length ∧ k < cs.size then vs[k - off]? else cs[k]? := by
  induction vs with
  | nil => intro cs off k; rw [if_neg (by simp; omega)]; rfl
  | cons v r ih =>
    intro cs off k
    show (setFrom (cs.setIfInBounds off v) (off + 1) r)[k]? = _
    rw [ih, Array.size_setIfInBounds]
    by_cases h1 : off + 1 ≤ k ∧ k < off + 1 + r.length ∧ k < cs.size
    · rw [if_pos h1, if_pos (by simp; omega), show k - off = (k - (off + 1)) + 1 by omega]; rfl
    · rw [if_neg h1, Array.getElem?_setIfInBounds]
      by_cases h2 : off = k
      · subst h2
        rw [if_pos rfl]
        by_cases h3 : off < cs.size
        · rw [if_pos h3, if_pos (by simp; omega), Nat.sub_self]; rfl
        · rw [if_neg h3, if_neg (by omega), Array.getElem?_eq_none (by omega)]
      · rw [if_neg h2, if_neg (by simp; omega)]
/-- stores at places apart, the other way round -/
theorem setFrom_comm (cs : Array Value) (o1 o2 : Nat) (v1 v2 : List Value) (h : o1 + v1.length ≤ o2 ∨ o2 + v2.length ≤ o1) : setFrom (setFrom cs o1 v1) o2 v2 = setFrom (setFrom cs o2 v2) o1 v1 := by
  refine Array.ext_getElem? fun k => ?_
  rw [setFrom_at, setFrom_at, setFrom_at, setFrom_at, setFrom_size, setFrom_size]
  by_cases h1 : o1 ≤ k ∧ k < o1 + v1.length ∧ k < cs.size
  · rw [if_neg (by omega), if_pos h1, if_pos h1]
  · rw [if_neg h1, if_neg h1]
/-- a store: its number, its operation, its place, its cells -/
abbrev StG := Nat × Oper × Nat × List Value
def setAll (cs : Array Value) : List StG → Array Value
  | [] => cs
  | g :: r => setAll (setFrom cs g.2.2.1 g.2.2.2) r
def toPl (g : StG) : PlanOp := (g.1, false, g.2.1)
def gPairs (gs : List StG) : List (Nat × Nat) := gs.flatMap fun x => gs.map fun y => (x.1, y.1)
def gOk2 (x y : StG) : Bool := (x.2.1.after.all fun e => !Region.binds .any e || e.on != y.1) && (y.2.1.after.all fun e => !Region.binds .any e || e.on != x.1) && x.1 != y.1 && (decide (x.2.2.1 + x.2.2.2.length ≤ y.2.2.1) || decide (y.2.2.1 + y.2.2.2.length ≤ x.2.2.1))
def gOk (ops : Array Oper) : List StG → Bool
  | [] => true
  | x :: r => selfOk ops (toPl x) && r.all (gOk2 x) && gOk ops r
theorem gOk2_sym {x y : StG} (h : gOk2 x y = true) : gOk2 y x = true := by
  unfold gOk2 at h ⊢
  simp only [Bool.and_eq_true, Bool.or_eq_true, bne_iff_ne, ne_eq] at h ⊢
  exact ⟨⟨⟨h.1.1.2, h.1.1.1⟩, fun e => h.1.2 e.symm⟩, h.2.symm⟩
theorem gOk_spec {ops : Array Oper} : ∀ {gs : List StG}, gOk ops gs = true → (∀ x, x ∈ gs → selfOk ops (toPl x) = true) ∧ gs.Pairwise (fun x y => gOk2 x y = true)
  | [], _ => ⟨by simp, .nil⟩
  | x :: r, h => by
    simp only [gOk, Bool.and_eq_true] at h
    obtain ⟨⟨h1, h2⟩, h3⟩ := h
    obtain ⟨k1, k2⟩ := gOk_spec h3
    exact ⟨fun y hy => by rcases List.mem_cons.1 hy with rfl | hy; exact h1; exact k1 y hy, List.pairwise_cons.2 ⟨fun y hy => List.all_eq_true.1 h2 y hy, k2⟩⟩
theorem setAll_out (g : StG) (B : List StG) : ∀ (A : List StG) (cs : Array Value), (∀ x, x ∈ A → gOk2 x g = true) → setAll cs (A ++ g :: B) = setAll (setFrom cs g.2.2.1 g.2.2.2) (A ++ B)
  | [], cs, _ => rfl
  | x :: A, cs, h => by
    show setAll (setFrom cs x.2.2.1 x.2.2.2) (A ++ g :: B) = setAll (setFrom (setFrom cs g.2.2.1 g.2.2.2) x.2.2.1 x.2.2.2) (A ++ B)
    have hx := h x (.head _)
    unfold gOk2 at hx
    simp only [Bool.and_eq_true, Bool.or_eq_true, decide_eq_true_eq] at hx
    rw [setAll_out g B A _ fun y hy => h y (.tail _ hy), setFrom_comm _ _ _ _ _ hx.2]
/-- the store of a number, and the others -/
def pickG (j : Nat) : List StG → Option (StG × List StG)
  | [] => none
  | g :: r => if g.1 = j then some (g, r) else (pickG j r).map fun x => (x.1, g :: x.2)
theorem pickG_spec {j : Nat} : ∀ {gs : List StG}, (∃ y, y ∈ gs ∧ y.1 = j) → ∃ A g B, gs = A ++ g :: B ∧ g.1 = j ∧ pickG j gs = some (g, A ++ B)
  | [], ⟨y, hy, _⟩ => by cases hy
  | g :: r, ⟨y, hy, e⟩ => by
    by_cases h : g.1 = j
    · exact ⟨[], g, r, rfl, h, by unfold pickG; rw [if_pos h]; rfl⟩
    · rcases List.mem_cons.1 hy with rfl | hy
      · exact absurd e h
      · obtain ⟨A, q, B, rfl, h2, h3⟩ := pickG_spec ⟨y, hy, e⟩
        exact ⟨g :: A, q, B, rfl, h2, by unfold pickG; rw [if_neg h, h3]; rfl⟩
section
variable {P : Program} {ro : Option Nat} {N : Nat} {E : World} {ops : Array Oper} {Q : Exit → Act → World → Prop} {R : List Chunk} {tbl : List (List Nat)}
theorem g_pairs {L : List (Nat × Nat)} : ∀ {gs : List StG}, (∀ x, x ∈ gs → selfOk ops (toPl x) = true) → gs.Pairwise (fun x y => gOk2 x y = true) → (∀ x y, x ∈ gs → y ∈ gs → (x.1, y.1) ∈ L) → pairsOk ops tbl (some L) (gs.map toPl) = true
  | [], _, _, _ => rfl
  | x :: r, h1, h2, h3 => by
    obtain ⟨k1, k2⟩ := List.pairwise_cons.1 h2
    have ih := g_pairs (L := L) (fun y hy => h1 y (.tail _ hy)) k2 fun a b ha hb => h3 a b (.tail _ ha) (.tail _ hb)
    show (selfOk ops (toPl x) && (r.map toPl).all (pairOk ops tbl (some L) (toPl x)) && pairsOk ops tbl (some L) (r.map toPl)) = true
    rw [h1 x (.head _), ih, Bool.true_and, Bool.and_true, List.all_eq_true]
    intro y hy
    obtain ⟨g, hg, rfl⟩ := List.mem_map.1 hy
    have := k1 g hg
    unfold gOk2 at this
    simp only [Bool.and_eq_true] at this
    unfold pairOk
    simp only [Bool.and_eq_true, Bool.or_eq_true]
    refine ⟨⟨.inr ?_, this.1.1.1⟩, this.1.2⟩
    simp only [swOk, List.contains_iff_mem]
    exact h3 x g (.head _) (.tail _ hg)
theorem mem_gPairs {gs : List StG} {x y : StG} (hx : x ∈ gs) (hy : y ∈ gs) : (x.1, y.1) ∈ gPairs gs := List.mem_flatMap.2 ⟨x, hx, List.mem_map.2 ⟨y, hy, rfl⟩⟩
theorem g_in (gs : List StG) : swIn (some (gPairs gs)) (gs.map toPl) = true := by
  unfold swIn
  rw [List.all_eq_true]
  intro p hp
  obtain ⟨x, hx, h⟩ := List.mem_flatMap.1 hp
  obtain ⟨y, hy, rfl⟩ := List.mem_map.1 h
  rw [List.any_eq_true]
  exact ⟨toPl x, List.mem_map.2 ⟨x, hx, rfl⟩, by simp [toPl]⟩
theorem pl_stores {sp : Spec} {fr : Fr} {ds : List Deferred} {put : Array Value → List Chunk} {n : Nat} {cs2 : Array Value} (hR : ∀ cs c, c ∈ R → c ∈ put cs) (hk : PostS N E Q .normal fr ds (put cs2)) : ∀ (m : Nat) (gs : List StG), gs.length = m → ∀ (cs : Array Value), cs.size = n →
    (∀ g, g ∈ gs → (∀ cs : Array Value, cs.size = n → OpE P ro N fr (put cs) g.2.1 (fun _ l' => l' = put (setFrom cs g.2.2.1 g.2.2.2))) ∧ g.2.1.dst = none ∧ gst ops fr g.2.1.guard = some true) →
    (∀ g, g ∈ gs → ∀ x, x ∈ sp → ancOf tbl g.1 x.1 = false → ∀ cs c, c ∈ x.2 → c ∈ put cs) →
    (∀ x, x ∈ gs → selfOk ops (toPl x) = true) → gs.Pairwise (fun x y => gOk2 x y = true) → setAll cs gs = cs2 → PlanS P ro N E ops Q R tbl (some (gPairs gs)) sp (gs.map toPl) fr ds (put cs) := by
  intro m
  induction m with
  | zero =>
    intro gs hm cs hc _ _ _ _ hs
    obtain rfl := List.length_eq_zero_iff.1 hm
    obtain rfl : cs = cs2 := hs
    exact .nil hk
  | succ m ih =>
    intro gs hm cs hc hst hS hself hpw hs
    obtain ⟨g0, r, rfl⟩ : ∃ g0 r, gs = g0 :: r := by
      cases gs with
      | nil => simp at hm
      | cons a b => exact ⟨a, b, rfl⟩
    have key : ∀ j, Cand tbl (some (gPairs (g0 :: r))) g0.1 (r.map toPl) j → ∃ A g B, g0 :: r = A ++ g :: B ∧ g.1 = j ∧ pickG j (g0 :: r) = some (g, A ++ B) := fun j hj => pickG_spec (by
      rcases hj with rfl | ⟨_, _, y, hy, e⟩
      · exact ⟨g0, .head _, rfl⟩
      · obtain ⟨g, hg, rfl⟩ := List.mem_map.1 hy
        exact ⟨g, .tail _ hg, e⟩)
    refine .alt (fun j => ((pickG j (g0 :: r)).getD (g0, [])).1.2.1) (fun j _ l' => l' = put (setFrom cs ((pickG j (g0 :: r)).getD (g0, [])).1.2.2.1 ((pickG j (g0 :: r)).getD (g0, [])).1.2.2.2)) (fun j => ((pickG j (g0 :: r)).getD (g0, [])).2.map toPl) (fun j => some (gPairs ((pickG j (g0 :: r)).getD (g0, [])).2)) (fun j hj => ?_) (fun j hj => ?_) (fun j hj => ?_) (fun j hj => ?_)
    all_goals
      obtain ⟨A, g, B, e, hgj, hp⟩ := key j hj
      rw [hp]
      simp only [Option.getD_some]
      have hgm : g ∈ g0 :: r := by rw [e]; simp
      have hsub : ∀ x, x ∈ A ++ B → x ∈ g0 :: r := fun x hx => by
        rw [e]
        rcases List.mem_append.1 hx with h | h
        · exact List.mem_append_left _ h
        · exact List.mem_append_right _ (List.mem_cons_of_mem _ h)
      have hpw2 : (A ++ B).Pairwise (fun x y => gOk2 x y = true) := by
        rw [e] at hpw
        exact hpw.sublist (List.Sublist.append (List.Sublist.refl _) (List.sublist_cons_self _ _))
    · refine ⟨?_, g_pairs (fun x hx => hself x (hsub x hx)) hpw2 (fun x y hx hy => mem_gPairs hx hy), g_in _⟩
      have h1 : ((j, false, g.2.1) :: (A ++ B).map toPl) = (g :: (A ++ B)).map toPl := by rw [List.map_cons, ← hgj]; rfl
      have h2 : ((g0.1, false, g0.2.1) :: r.map toPl) = (A ++ g :: B).map toPl := by rw [← e]; rfl
      rw [h1, h2]
      exact List.perm_middle.symm.map _
    · obtain ⟨k1, k2, k3⟩ := hst g hgm
      exact ⟨k1 cs hc, k3, by rw [k2]; rfl⟩
    · rintro v l' rfl
      refine ⟨hR _, fun x hx ha => ?_⟩
      exact hS g hgm x hx (by rw [hgj]; exact ha) _
    · rintro v l' rfl
      rw [(hst g hgm).2.1]
      refine ih (A ++ B) ?_ _ (by rw [setFrom_size]; exact hc) (fun x hx => hst x (hsub x hx)) (fun x hx => hS x (hsub x hx)) (fun x hx => hself x (hsub x hx)) hpw2 ?_
      · have := congrArg List.length e
        rw [hm] at this
        simp at this ⊢; omega
      · rw [← setAll_out g B A cs fun x hx => ?_, ← e]
        · exact hs
        · rw [e] at hpw
          exact (List.pairwise_append.1 hpw).2.2 x hx g (.head _)
/-- the stores of a plan, with their places and cells -/
inductive StoresS (P : Program) (ro : Option Nat) (N : Nat) (ops : Array Oper) (fr : Fr) (put : Array Value → List Chunk) (n : Nat) : List PlanOp → List Value → List StG → List Value → Prop
  | nil {cs : List Value} : StoresS P ro N ops fr put n [] cs [] cs
  | cons {i : Nat} {o : Oper} {off : Nat} {vs cs cs1 cs2 : List Value} {pl : List PlanOp} {gs : List StG} : (∀ cs : Array Value, cs.size = n → OpE P ro N fr (put cs) o (fun _ l' => l' = put (setFrom cs off vs))) → o.dst = none → gst ops fr o.guard = some true → LSetA cs off vs cs1 → StoresS P ro N ops fr put n pl cs1 gs cs2 → StoresS P ro N ops fr put n ((i, false, o) :: pl) cs ((i, o, off, vs) :: gs) cs2
theorem StoresS.spec {fr : Fr} {put : Array Value → List Chunk} {n : Nat} {pl : List PlanOp} {cs cs2 : List Value} {gs : List StG} (h : StoresS P ro N ops fr put n pl cs gs cs2) : pl = gs.map toPl ∧ setAll (List.toArray cs) gs = List.toArray cs2 ∧ ∀ g, g ∈ gs → (∀ cs : Array Value, cs.size = n → OpE P ro N fr (put cs) g.2.1 (fun _ l' => l' = put (setFrom cs g.2.2.1 g.2.2.2))) ∧ g.2.1.dst = none ∧ gst ops fr g.2.1.guard = some true := by
  induction h with
  | nil => exact ⟨rfl, rfl, fun g hg => by cases hg⟩
  | cons h1 h2 h3 h4 _ ih =>
    obtain ⟨k1, k2, k3⟩ := ih
    refine ⟨by rw [k1]; rfl, ?_, fun g hg => ?_⟩
    · have e := h4.spec.1
      show setAll (setFrom _ _ _) _ = _
      rw [e]; exact k2
    · rcases List.mem_cons.1 hg with rfl | hg
      · exact ⟨h1, h2, h3⟩
      · exact k3 g hg
/-- the rest of a plan is stores at places apart in one block -/
theorem pl_group {sp : Spec} {fr : Fr} {ds : List Deferred} {L : List (Nat × Nat)} {pl : List PlanOp} {gs : List StG} {cs2 : List Value} (put : Array Value → List Chunk) (n : Nat) (cs : List Value) (h : StoresS P ro N ops fr put n pl cs gs cs2) (hn : cs.length = n) (hL : L = gPairs gs) (hok : gOk ops gs = true) (hR : ∀ cs c, c ∈ R → c ∈ put cs) (hS : (gs.all fun g => (sp.map Prod.fst).all fun q => ancOf tbl g.1 q) = true) (hk : PostS N E Q .normal fr ds (put (List.toArray cs2))) : PlanS P ro N E ops Q R tbl (some L) sp pl fr ds (put (List.toArray cs)) := by
  obtain ⟨rfl, e, hst⟩ := h.spec
  subst hL
  obtain ⟨k1, k2⟩ := gOk_spec hok
  exact pl_stores hR hk gs.length gs rfl _ (by simpa using hn) hst (fun g hg x hx ha => by
    have := List.all_eq_true.1 (List.all_eq_true.1 hS g hg) x.1 (List.mem_map.2 ⟨x, hx, rfl⟩)
    rw [ha] at this; cases this) k1 k2 e
/-- one of two effects comes first; what is open behind it is told anew -/
def twoOk (os : List Oper) (tbl : List (List Nat)) (L : List (Nat × Nat)) (plan1 plan2 : List (Nat × Bool)) (i j : Nat) (sw1 swj : Sw) : Bool :=
  ((attachF os plan1).tail.all fun y => !L.contains (i, y.1) || y.1 == j || (attachF os plan1).tail.any fun z => ancOf tbl y.1 z.1) && pairsOk os.toArray tbl sw1 (attachF os plan1).tail && swIn sw1 (attachF os plan1).tail && pairsOk os.toArray tbl swj (attachF os plan2).tail && swIn swj (attachF os plan2).tail && plan1.head? == some (i, false) && plan2.head? == some (j, false) && i != j
theorem pl_two {os : List Oper} {sp : Spec} {fr : Fr} {ds : List Deferred} {l : List Chunk} {L : List (Nat × Nat)} {o oj : Oper} {rest rj : List PlanOp} {K K' : Value → List Chunk → Prop} (plan1 plan2 : List (Nat × Bool)) (i j : Nat) (sw1 swj : Sw) (h1 : Attach os plan1 ((i, false, o) :: rest)) (h2 : Attach os plan2 ((j, false, oj) :: rj)) (hp : ((j, false, oj) :: rj).Perm ((i, false, o) :: rest)) (hok : twoOk os tbl L plan1 plan2 i j sw1 swj = true)
    (ho : OpE P ro N fr l o K) (hg : gst os.toArray fr o.guard = some true) (hd : okDst N o.dst = true) (hR : ∀ v l', K v l' → (∀ c, c ∈ R → c ∈ l')) (hS : ∀ v l', K v l' → ∀ x, x ∈ sp → ancOf tbl i x.1 = false → ∀ c, c ∈ x.2 → c ∈ l')
    (ho' : OpE P ro N fr l oj K') (hg' : gst os.toArray fr oj.guard = some true) (hd' : okDst N oj.dst = true) (hR' : ∀ v l', K' v l' → (∀ c, c ∈ R → c ∈ l')) (hS' : ∀ v l', K' v l' → ∀ x, x ∈ sp → ancOf tbl j x.1 = false → ∀ c, c ∈ x.2 → c ∈ l')
    (hk0 : ∀ v l', K v l' → PlanS P ro N E os.toArray Q R tbl sw1 sp rest (putF o.dst v fr) ds l') (hk' : ∀ v l', K' v l' → PlanS P ro N E os.toArray Q R tbl swj sp rj (putF oj.dst v fr) ds l') : PlanS P ro N E os.toArray Q R tbl (some L) sp ((i, false, o) :: rest) fr ds l := by
  unfold twoOk at hok
  rw [h1.fun_eq, h2.fun_eq] at hok
  simp only [Bool.and_eq_true, bne_iff_ne, ne_eq, List.tail_cons, List.all_eq_true, Bool.or_eq_true, Bool.not_eq_true', beq_iff_eq, List.any_eq_true] at hok
  obtain ⟨⟨⟨⟨⟨⟨⟨p1, p2⟩, p3⟩, p4⟩, p5⟩, _⟩, _⟩, hij⟩ := hok
  have hj : ∀ k, Cand tbl (some L) i rest k → k = i ∨ k = j := fun k hk => by
    rcases hk with h | ⟨h, h3, y, hy, rfl⟩
    · exact .inl h
    · rcases p1 y hy with (h4 | h4) | ⟨z, hz, h4⟩
      · simp only [swOk] at h
        rw [h] at h4; cases h4
      · exact .inr h4
      · rw [h3 z hz] at h4; cases h4
  refine .alt (fun k => if k = i then o else oj) (fun k => if k = i then K else K') (fun k => if k = i then rest else rj) (fun k => if k = i then sw1 else swj) (fun k hk => ?_) (fun k hk => ?_) (fun k hk => ?_) fun k hk => ?_
  all_goals rcases hj k hk with h | h
  · subst h; simp only [if_true]; exact ⟨.refl _, p2, p3⟩
  · subst h; simp only [if_neg (Ne.symm hij)]; exact ⟨hp, p4, p5⟩
  · subst h; simp only [if_true]; exact ⟨ho, hg, hd⟩
  · subst h; simp only [if_neg (Ne.symm hij)]; exact ⟨ho', hg', hd'⟩
  · subst h; simp only [if_true]; exact fun v l' k => ⟨hR v l' k, hS v l' k⟩
  · subst h; simp only [if_neg (Ne.symm hij)]; exact fun v l' k => ⟨hR' v l' k, hS' v l' k⟩
  · subst h; simp only [if_true]; exact hk0
  · subst h; simp only [if_neg (Ne.symm hij)]; exact hk'
variable {fr : Fr} {ty : TypeId} {pos : String} {aft : Array Edge} {g : Option (Nat × Bool)} {x y : Operand} {b off : Nat} {t : TypeId}
theorem g_store {put : Array Value → List Chunk} {n : Nat} {T : TypeId} {v : Value} (hu : ∀ cs cs' : Array Value, Upd (put cs) b (.cells cs T (0, 0)) (.cells cs' T (0, 0)) (put cs')) (hx : ev fr x = some (.pointer (some ⟨b, off, none⟩))) (hy : ev fr y = some v) [c : OC P t] (h1 : v.oneCell' = true) (hlt : off < n) : ∀ cs : Array Value, cs.size = n → OpE P ro N fr (put cs) ⟨none, .store t x y, ty, pos, aft, g⟩ (fun _ l' => l' = put (setFrom cs off [v])) := fun cs hc =>
  (e_store hx hy h1 (hu cs _) (by rw [hc]; exact hlt)).mono fun _ _ h => h.2
theorem g_storeA {put : Array Value → List Chunk} {n k : Nat} {T : TypeId} {ws : List Value} (hu : ∀ cs cs' : Array Value, Upd (put cs) b (.cells cs T (0, 0)) (.cells cs' T (0, 0)) (put cs')) (hx : ev fr x = some (.pointer (some ⟨b, off, none⟩))) (hy : ev fr y = some (.agg (List.toArray ws))) [c : AG P t k] (hk : ws.length = k) (h1 : ∀ v, v ∈ ws → v.oneCell' = true) (hlt : off + k ≤ n) : ∀ cs : Array Value, cs.size = n → OpE P ro N fr (put cs) ⟨none, .store t x y, ty, pos, aft, g⟩ (fun _ l' => l' = put (setFrom cs off ws)) := fun cs hc =>
  (e_storeA hx hy (by simpa using hk) (by simpa using h1) (hu cs _) (by rw [hc]; exact hlt)).mono fun _ _ h => h.2
end
end Go.Proofs.YtffmibmefmbdjaaDoor
