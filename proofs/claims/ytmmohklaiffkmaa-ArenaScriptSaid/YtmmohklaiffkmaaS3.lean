/- More operations: numbers, tests, parts of values; stores, allocations, calls. Laws of my own, no program's. -/
import Derived.Test.YtmmohklaiffkmaaS2
set_option linter.unusedVariables false
set_option linter.unusedSimpArgs false
namespace Go.Proofs.Ytmmohklaiffkmaa
open Go.RowKit

section
variable {P : Program} {ro : Option Nat} {N : Nat} {fr : Fr} {R l : List Chunk} {K : Value → List Chunk → Prop} {d : Option Nat} {ty : TypeId} {pos : String} {aft : Array Edge} {g : Option (Nat × Bool)} {x y z : Operand} {v u w : Value} {b off : Nat} {t t2 : TypeId}

/-! numbers -/
def kmin (k : IntKind) : Int := if k.signed then -(2 ^ (k.bits - 1) : Int) else 0
def kmax (k : IntKind) : Int := if k.signed then (2 ^ (k.bits - 1) : Int) - 1 else (2 ^ k.bits : Int) - 1
theorem wrap_in (k : IntKind) (n : Int) (h1 : kmin k ≤ n) (h2 : n ≤ kmax k) : k.wrap n = n := by
  unfold IntKind.wrap kmin kmax at *
  cases k <;> simp [IntKind.signed, IntKind.bits] at * <;> (try split) <;> omega
theorem i64_in (n : Int) (h : -9223372036854775808 ≤ n ∧ n ≤ 9223372036854775807) : IntKind.i64.wrap n = n := wrap_in _ _ (by simpa [kmin, IntKind.signed, IntKind.bits] using h.1) (by simpa [kmax, IntKind.signed, IntKind.bits] using h.2)
theorem u64_in (n : Int) (h : 0 ≤ n ∧ n ≤ 18446744073709551615) : IntKind.u64.wrap n = n := wrap_in _ _ (by simpa [kmin, IntKind.signed, IntKind.bits] using h.1) (by simpa [kmax, IntKind.signed, IntKind.bits] using h.2)
def Rng (k : IntKind) (n : Int) : Prop := match k with
  | .i64 => -9223372036854775808 ≤ n ∧ n ≤ 9223372036854775807
  | .u64 => 0 ≤ n ∧ n ≤ 18446744073709551615
  | .u8 => 0 ≤ n ∧ n ≤ 255
  | .i32 => -2147483648 ≤ n ∧ n ≤ 2147483647
  | .u32 => 0 ≤ n ∧ n ≤ 4294967295
  | _ => False
theorem rng_wrap {k : IntKind} {n : Int} (h : Rng k n) : k.wrap n = n := by
  cases k <;> simp only [Rng] at h <;> first | exact h.elim | exact wrap_in _ _ (by simpa [kmin, IntKind.signed, IntKind.bits] using h.1) (by simpa [kmax, IntKind.signed, IntKind.bits] using h.2)
theorem rng_i64 {n : Int} (h1 : -9223372036854775808 ≤ n) (h2 : n ≤ 9223372036854775807) : Rng .i64 n := ⟨h1, h2⟩
theorem eqGuard_int (op : BinOp) (k k' : IntKind) (i j : Int) : eqGuard op t x y (.int k i) (.int k' j) = pure () := by
  unfold eqGuard; split <;> rfl
theorem eqGuard_bool (op : BinOp) (i j : Bool) : eqGuard op t x y (.bool i) (.bool j) = pure () := by
  unfold eqGuard; split <;> rfl
theorem eqGuard_ptr (op : BinOp) (i j : Option Addr) : eqGuard op t x y (.pointer i) (.pointer j) = pure () := by
  unfold eqGuard; split <;> rfl
theorem eqGuard_str (op : BinOp) (i j : ByteArray) : eqGuard op t x y (.string i) (.string j) = pure () := by
  unfold eqGuard; split <;> rfl
theorem eqGuard_sl (op : BinOp) (i j : Option Addr) (a b c e : Nat) : eqGuard op t x y (.slice i a b) (.slice j c e) = pure () := by
  unfold eqGuard; split <;> rfl
theorem q_bin {op : BinOp} (hx : ev fr x = some u) (hy : ev fr y = some w) (hg : ∀ x y, eqGuard op t x y u w = pure ()) (h : binOp op t u w = pure v) : OpQ P ro N fr R ⟨d, .binOp op t x y t2, ty, pos, aft, g⟩ v := opQ_of_sl rfl fun ρ l hρ _ => by
  simp only [execOp, hρ x _ hx, hρ y _ hy, sl_bind, hg, h]
  exact ⟨rfl, rfl⟩
variable {k : IntKind} {i j : Int}
theorem q_add (hx : ev fr x = some (.int k i)) (hy : ev fr y = some (.int k j)) (h : Rng k (i + j)) : OpQ P ro N fr R ⟨d, .binOp .add t x y t2, ty, pos, aft, g⟩ (.int k (i + j)) :=
  q_bin hx hy (fun _ _ => eqGuard_int _ _ _ _ _) (by simp [binOp, Op.intArith, rng_wrap h])
theorem q_sub (hx : ev fr x = some (.int k i)) (hy : ev fr y = some (.int k j)) (h : Rng k (i - j)) : OpQ P ro N fr R ⟨d, .binOp .sub t x y t2, ty, pos, aft, g⟩ (.int k (i - j)) :=
  q_bin hx hy (fun _ _ => eqGuard_int _ _ _ _ _) (by simp [binOp, Op.intArith, rng_wrap h])
theorem q_mul (hx : ev fr x = some (.int k i)) (hy : ev fr y = some (.int k j)) (h : Rng k (i * j)) : OpQ P ro N fr R ⟨d, .binOp .mul t x y t2, ty, pos, aft, g⟩ (.int k (i * j)) :=
  q_bin hx hy (fun _ _ => eqGuard_int _ _ _ _ _) (by simp [binOp, Op.intArith, rng_wrap h])
theorem q_add_w (hx : ev fr x = some (.int k i)) (hy : ev fr y = some (.int k j)) : OpQ P ro N fr R ⟨d, .binOp .add t x y t2, ty, pos, aft, g⟩ (.int k (k.wrap (i + j))) :=
  q_bin hx hy (fun _ _ => eqGuard_int _ _ _ _ _) (by simp [binOp, Op.intArith])
theorem q_sub_w (hx : ev fr x = some (.int k i)) (hy : ev fr y = some (.int k j)) : OpQ P ro N fr R ⟨d, .binOp .sub t x y t2, ty, pos, aft, g⟩ (.int k (k.wrap (i - j))) :=
  q_bin hx hy (fun _ _ => eqGuard_int _ _ _ _ _) (by simp [binOp, Op.intArith])
theorem q_mul_w (hx : ev fr x = some (.int k i)) (hy : ev fr y = some (.int k j)) : OpQ P ro N fr R ⟨d, .binOp .mul t x y t2, ty, pos, aft, g⟩ (.int k (k.wrap (i * j))) :=
  q_bin hx hy (fun _ _ => eqGuard_int _ _ _ _ _) (by simp [binOp, Op.intArith])
theorem q_quo (hx : ev fr x = some (.int k i)) (hy : ev fr y = some (.int k j)) (h0 : 0 ≤ i) (h1 : 0 < j) (h : Rng k i) : OpQ P ro N fr R ⟨d, .binOp .quo t x y t2, ty, pos, aft, g⟩ (.int k (i / j)) :=
  q_bin hx hy (fun _ _ => eqGuard_int _ _ _ _ _) (by
    have e : i.tdiv j = i / j := Int.tdiv_eq_ediv_of_nonneg h0
    have h2 : i / j ≤ i := Int.ediv_le_self _ h0
    have h3 : 0 ≤ i / j := Int.ediv_nonneg h0 (by omega)
    have hr : Rng k (i / j) := by cases k <;> simp only [Rng] at h ⊢ <;> first | exact h | omega
    simp [binOp, Op.intDiv, show ¬ j = 0 by omega, e, rng_wrap hr])
theorem q_rem (hx : ev fr x = some (.int k i)) (hy : ev fr y = some (.int k j)) (h0 : 0 ≤ i) (h1 : 0 < j) : OpQ P ro N fr R ⟨d, .binOp .rem t x y t2, ty, pos, aft, g⟩ (.int k (i % j)) :=
  q_bin hx hy (fun _ _ => eqGuard_int _ _ _ _ _) (by
    have e : i.tmod j = i % j := Int.tmod_eq_emod_of_nonneg h0
    simp [binOp, Op.intDiv, show ¬ j = 0 by omega, e])
theorem q_lss (hx : ev fr x = some (.int k i)) (hy : ev fr y = some (.int k j)) : OpQ P ro N fr R ⟨d, .binOp .lss t x y t2, ty, pos, aft, g⟩ (.bool (decide (i < j))) :=
  q_bin hx hy (fun _ _ => eqGuard_int _ _ _ _ _) (by simp [binOp, Op.intCmp])
theorem q_leq (hx : ev fr x = some (.int k i)) (hy : ev fr y = some (.int k j)) : OpQ P ro N fr R ⟨d, .binOp .leq t x y t2, ty, pos, aft, g⟩ (.bool (decide (i ≤ j))) :=
  q_bin hx hy (fun _ _ => eqGuard_int _ _ _ _ _) (by simp [binOp, Op.intCmp])
theorem q_gtr (hx : ev fr x = some (.int k i)) (hy : ev fr y = some (.int k j)) : OpQ P ro N fr R ⟨d, .binOp .gtr t x y t2, ty, pos, aft, g⟩ (.bool (decide (j < i))) :=
  q_bin hx hy (fun _ _ => eqGuard_int _ _ _ _ _) (by simp [binOp, Op.intCmp])
theorem q_geq (hx : ev fr x = some (.int k i)) (hy : ev fr y = some (.int k j)) : OpQ P ro N fr R ⟨d, .binOp .geq t x y t2, ty, pos, aft, g⟩ (.bool (decide (j ≤ i))) :=
  q_bin hx hy (fun _ _ => eqGuard_int _ _ _ _ _) (by simp [binOp, Op.intCmp])
theorem q_eql (hx : ev fr x = some (.int k i)) (hy : ev fr y = some (.int k j)) : OpQ P ro N fr R ⟨d, .binOp .eql t x y t2, ty, pos, aft, g⟩ (.bool (decide (i = j))) :=
  q_bin hx hy (fun _ _ => eqGuard_int _ _ _ _ _) (by simp [binOp, Op.intCmp]; rfl)
theorem q_neq (hx : ev fr x = some (.int k i)) (hy : ev fr y = some (.int k j)) : OpQ P ro N fr R ⟨d, .binOp .neq t x y t2, ty, pos, aft, g⟩ (.bool (decide (¬ i = j))) :=
  q_bin hx hy (fun _ _ => eqGuard_int _ _ _ _ _) (by simp [binOp, Op.intCmp, bne]; rfl)
theorem q_not {bb : Bool} (hx : ev fr x = some (.bool bb)) : OpQ P ro N fr R ⟨d, .unOp .not t x, ty, pos, aft, g⟩ (.bool (!bb)) := opQ_of_sl rfl fun ρ l hρ _ => by
  simp only [execOp, hρ x _ hx, Op.unary, sl_bind]; exact ⟨rfl, rfl⟩
theorem q_conv {k' : IntKind} {src dst : TypeId} (hx : ev fr x = some (.int k i)) [c1 : IT P src k] [c2 : IT P dst k'] (h : Rng k' i) : OpQ P ro N fr R ⟨d, .convert src dst x, ty, pos, aft, g⟩ (.int k' i) := opQ_of_sl rfl fun ρ l hρ _ => by
  have h1 : P.underlying src = some (.int k) := by have := c1.out; unfold itV at this; split at this <;> simp_all
  have h2 : P.underlying dst = some (.int k') := by have := c2.out; unfold itV at this; split at this <;> simp_all
  simp only [execOp, hρ x _ hx, convert, sl_bind]
  rw [sl_under' h1, sl_under' h2]
  exact ⟨by rw [rng_wrap h], rfl⟩
theorem q_conv_w {k' : IntKind} {src dst : TypeId} (hx : ev fr x = some (.int k i)) [c1 : IT P src k] [c2 : IT P dst k'] : OpQ P ro N fr R ⟨d, .convert src dst x, ty, pos, aft, g⟩ (.int k' (k'.wrap i)) := opQ_of_sl rfl fun ρ l hρ _ => by
  have h1 : P.underlying src = some (.int k) := by have := c1.out; unfold itV at this; split at this <;> simp_all
  have h2 : P.underlying dst = some (.int k') := by have := c2.out; unfold itV at this; split at this <;> simp_all
  simp only [execOp, hρ x _ hx, convert, sl_bind]
  rw [sl_under' h1, sl_under' h2]
  exact ⟨rfl, rfl⟩
theorem ptV_spec {t e : Nat} (h : ptV P t = some e) : P.underlying t = some (.pointer e) := by unfold ptV at h; split at h <;> simp_all
theorem q_eqnil {p : Option Addr} {e : Nat} (hx : ev fr x = some (.pointer p)) (hy : ev fr y = some (.pointer none)) [c : PT P t e] : OpQ P ro N fr R ⟨d, .binOp .eql t x y t2, ty, pos, aft, g⟩ (.bool p.isNone) := opQ_of_sl rfl fun ρ l hρ _ => by
  simp only [execOp, hρ x _ hx, hρ y _ hy, sl_bind, eqGuard_ptr, sl_pure, binOp]
  unfold Op.equal Op.maxDepth Op.equalIn
  rw [sl_under (ptV_spec c.out)]
  cases p <;> exact ⟨rfl, rfl⟩
theorem q_nenil {p : Option Addr} {e : Nat} (hx : ev fr x = some (.pointer p)) (hy : ev fr y = some (.pointer none)) [c : PT P t e] : OpQ P ro N fr R ⟨d, .binOp .neq t x y t2, ty, pos, aft, g⟩ (.bool p.isSome) := opQ_of_sl rfl fun ρ l hρ _ => by
  simp only [execOp, hρ x _ hx, hρ y _ hy, sl_bind, eqGuard_ptr, sl_pure, binOp]
  unfold Op.equal Op.maxDepth Op.equalIn
  rw [sl_under (ptV_spec c.out)]
  cases p <;> exact ⟨rfl, rfl⟩
theorem q_eqb {p q : Bool} (hx : ev fr x = some (.bool p)) (hy : ev fr y = some (.bool q)) (ht : P.underlying t = some .bool) : OpQ P ro N fr R ⟨d, .binOp .eql t x y t2, ty, pos, aft, g⟩ (.bool (p == q)) := opQ_of_sl rfl fun ρ l hρ _ => by
  simp only [execOp, hρ x _ hx, hρ y _ hy, sl_bind, eqGuard_bool, sl_pure, binOp]
  unfold Op.equal Op.maxDepth Op.equalIn
  rw [sl_under ht]
  exact ⟨rfl, rfl⟩
theorem q_neb {p q : Bool} (hx : ev fr x = some (.bool p)) (hy : ev fr y = some (.bool q)) (ht : P.underlying t = some .bool) : OpQ P ro N fr R ⟨d, .binOp .neq t x y t2, ty, pos, aft, g⟩ (.bool (!(p == q))) := opQ_of_sl rfl fun ρ l hρ _ => by
  simp only [execOp, hρ x _ hx, hρ y _ hy, sl_bind, eqGuard_bool, sl_pure, binOp]
  unfold Op.equal Op.maxDepth Op.equalIn
  rw [sl_under ht]
  exact ⟨rfl, rfl⟩

/-! parts of values -/
theorem q_extract {vs : Array Value} {ix : Nat} (hx : ev fr x = some (.tuple vs)) (hv : vs[ix]? = some v) : OpQ P ro N fr R ⟨d, .extract x ix, ty, pos, aft, g⟩ v := opQ_of_sl rfl fun ρ l hρ _ => by
  simp only [execOp, hρ x _ hx, sl_bind, Instr.extract, hv]; exact ⟨rfl, rfl⟩
theorem q_makeFunc {f : Nat} {xs : List Operand} {vs : List Value} (hx : evs fr xs = some vs) : OpQ P ro N fr R ⟨d, .makeFunc (.func f) #[] xs.toArray, ty, pos, aft, g⟩ (.func (.func f) #[] vs.toArray) := opQ_of_sl rfl fun ρ l hρ _ => by
  simp only [execOp, sl_bind, Instr.makeFunc, List.map_toArray, hρ.list hx]; exact ⟨rfl, rfl⟩
theorem q_makeFunc0 {f : Nat} : OpQ P ro N fr R ⟨d, .makeFunc (.func f) #[] #[], ty, pos, aft, g⟩ (.func (.func f) #[] #[]) := opQ_of_sl rfl fun ρ l hρ _ => ⟨by simp, rfl⟩
theorem fvV_spec {s f k t : Nat} (h : fvV P s f = some (k, t)) : ∃ fs fd, P.underlying s = some (.struct fs) ∧ fs[f]? = some fd ∧ fd.offset = k ∧ fd.type = t := by
  unfold fvV at h
  split at h
  · rename_i fs hu
    obtain ⟨fd, hf, h2⟩ := Option.map_eq_some_iff.1 h
    cases h2
    exact ⟨fs, fd, hu, hf, rfl, rfl⟩
  · cases h
theorem sl_part1 {α : Type} {Q : α → List Chunk → Prop} {f : Value → Sem α} {t : Nat} {cs : Array Value} (hc : ocV P t = true) (hv : cs[off]? = some v) (h : sl P (f v) l Q) : sl P (part t cs off >>= f) l Q := by
  obtain ⟨u, i, h1, h2, _, _⟩ := ocV_spec hc
  rw [sl_bind]; unfold part
  rw [sl_isAgg h1, h2]
  simp only [Bool.false_eq_true, if_false, hv]
  exact h
theorem sl_partA {α : Type} {Q : α → List Chunk → Prop} {f : Value → Sem α} {t n : Nat} {cs : Array Value} (hc : agV P t = some n) (h : sl P (f (.agg (cs.extract off (off + n)))) l Q) : sl P (part t cs off >>= f) l Q := by
  obtain ⟨u, i, h1, h2, h3, h4⟩ := agV_spec hc
  rw [sl_bind]; unfold part
  rw [sl_isAgg h1, h2]
  simp only [if_true]
  rw [sl_sizeOf h3, h4]
  exact h
theorem q_field {s f k ft : Nat} {cs : Array Value} (hx : ev fr x = some (.agg cs)) [c : FV P s f k ft] [c2 : OC P ft] (hv : cs[k]? = some v) : OpQ P ro N fr R ⟨d, .field s x f, ty, pos, aft, g⟩ v := opQ_of_sl rfl fun ρ l hρ _ => by
  obtain ⟨fs, fd, h1, h2, h3, h4⟩ := fvV_spec c.out
  simp only [execOp, hρ x _ hx, sl_bind, Instr.field]
  rw [← sl_bind, sl_under h1]
  simp only [h2, asAgg, sl_bind, sl_pure, h3, h4]
  have := sl_part1 (P := P) (l := l) (f := fun v => (pure v : Sem Value)) (Q := fun a l' => Next.value a = .value v ∧ l' = l) c2.out hv ⟨rfl, rfl⟩
  rw [sl_bind] at this
  exact this
theorem q_fieldA {s f k ft n : Nat} {cs wc : Array Value} (hx : ev fr x = some (.agg cs)) [c : FV P s f k ft] [c2 : AG P ft n] (hv : cs.extract k (k + n) = wc) : OpQ P ro N fr R ⟨d, .field s x f, ty, pos, aft, g⟩ (.agg wc) := opQ_of_sl rfl fun ρ l hρ _ => by
  subst hv
  obtain ⟨fs, fd, h1, h2, h3, h4⟩ := fvV_spec c.out
  simp only [execOp, hρ x _ hx, sl_bind, Instr.field]
  rw [← sl_bind, sl_under h1]
  simp only [h2, asAgg, sl_bind, sl_pure, h3, h4]
  have := sl_partA (P := P) (l := l) (f := fun v => (pure v : Sem Value)) (Q := fun a l' => Next.value a = .value (.agg (cs.extract k (k + n))) ∧ l' = l) c2.out ⟨rfl, rfl⟩
  rw [sl_bind] at this
  exact this
theorem q_len_sl {p : Option Addr} {n cap e kk yb : Nat} (hx : ev fr x = some (.slice p n cap)) [c : ST P t e kk yb] : OpQ P ro N fr R ⟨d, .call { callee := .builtin .len, args := #[x], argTypes := #[t] }, ty, pos, aft, g⟩ (.int .i64 (n : Nat)) := opQ_of_sl rfl fun ρ l hρ _ => by
  obtain ⟨inf, h1, _⟩ := stV_spec c.out
  simp only [execOp, resolve, sl_bind, sl_pure, invoke, builtin, List.map_toArray, List.map_cons, List.map_nil, hρ x _ hx, Builtin.len_]
  show sl P (underlying t >>= _) l _
  rw [sl_under h1]
  exact ⟨rfl, rfl⟩

/-! effects -/
theorem e_call {f : Nat} {xs : List Operand} {vs : List Value} {fs cs : Array Value} {at_ : Array TypeId} (hx : ev fr x = some (.func (.func f) fs cs)) (hy : evs fr xs = some vs) [c : EN P f] (h : Fn P f (fs.toList ++ vs ++ cs.toList) l K) : OpE P ro N fr l ⟨d, .call { callee := .value x, args := xs.toArray, argTypes := at_ }, ty, pos, aft, g⟩ K := by
  refine ⟨rfl, fun E a W hf hs => ?_⟩
  have hρ := hf.agrees
  unfold OpVal
  have e : (execOp a.eval ⟨d, .call { callee := .value x, args := xs.toArray, argTypes := at_ }, ty, pos, aft, g⟩).run P W = .ok (.enter f (fs.toList ++ vs ++ cs.toList).toArray) W := by
    simp only [execOp, resolve, List.map_toArray, hρ.list hy, hρ x _ hx, Deferred.ofValue, Sem.run_bind]
    simp only [Sem.run_pure, Result.andThen, invoke]
    rw [c.out]
    congr 2
    apply Array.toList_inj.1
    simp
  rw [e]
  refine callsIn_fw ((h.run E W hs).mono ?_)
  rintro e W'' ⟨v, l'', rfl, hk, hs''⟩
  exact ⟨v, rfl, l'', hk, hs''⟩
theorem e_call0 {f : Nat} {xs : List Operand} {vs : List Value} {at_ : Array TypeId} (hx : ev fr x = some (.func (.func f) #[] #[])) (hy : evs fr xs = some vs) [c : EN P f] (h : Fn P f vs l K) : OpE P ro N fr l ⟨d, .call { callee := .value x, args := xs.toArray, argTypes := at_ }, ty, pos, aft, g⟩ K :=
  e_call hx hy (by simpa using h)
/-- a call that has one result and leaves all blocks -/
theorem q_call {f : Nat} {xs : List Operand} {vs : List Value} {at_ : Array TypeId} (hx : ev fr x = some (.func (.func f) #[] #[])) (hy : evs fr xs = some vs) [c : EN P f] (h : ∀ l, (∀ c, c ∈ R → c ∈ l) → Fn P f vs l (fun v' l' => v' = v ∧ l' = l)) : OpQ P ro N fr R ⟨d, .call { callee := .value x, args := xs.toArray, argTypes := at_ }, ty, pos, aft, g⟩ v :=
  ⟨fun l hl => e_call0 hx hy (h l hl)⟩
theorem e_yield {r : Nat} {xs : List Operand} {vs : List Value} {at_ : Array TypeId} (hx : ev fr x = some (.func (.yield r) #[] #[])) (hy : evs fr xs = some vs) (h : YieldS P r vs l K) : OpE P ro N fr l ⟨d, .call { callee := .value x, args := xs.toArray, argTypes := at_ }, ty, pos, aft, g⟩ K := by
  refine ⟨rfl, fun E a W hf hs => ?_⟩
  have hρ := hf.agrees
  unfold OpVal
  obtain ⟨fn, tmps, assign, body, hy2, hR⟩ := h.run E W hs
  have e : (execOp a.eval ⟨d, .call { callee := .value x, args := xs.toArray, argTypes := at_ }, ty, pos, aft, g⟩).run P W = .ok (.round r fn tmps assign body) W := by
    simp only [execOp, resolve, List.map_toArray, hρ.list hy, hρ x _ hx, Deferred.ofValue, Sem.run_bind]
    simp only [Sem.run_pure, Result.andThen, invoke]
    rw [← hy2]
    congr 1
    simp
  rw [e]
  refine roundIn_fw (hR.mono ?_)
  rintro e W'' ⟨v, l'', rfl, hk, hs''⟩
  exact ⟨v, rfl, l'', hk, hs''⟩
theorem q_fieldL {s f k ft n : Nat} {cs wc : List Value} (hx : ev fr x = some (.agg (List.toArray cs))) [c : FV P s f k ft] [c2 : AG P ft n] (hv : LSub cs k n wc) : OpQ P ro N fr R ⟨d, .field s x f, ty, pos, aft, g⟩ (.agg (List.toArray wc)) :=
  q_fieldA hx (by
    apply Array.toList_inj.1
    rw [Array.toList_extract, List.extract_eq_take_drop]
    simpa using hv.spec.1)
theorem zvV_spec {t : Nat} {z : List Value} (h : zvV P t = some z) : ∃ i zv, P.info? t = some i ∧ i.zero = some zv ∧ zv.cells.toList = z := by
  unfold zvV at h
  split at h
  · rename_i i hi
    split at h
    · rename_i zv hz
      cases h
      exact ⟨i, zv, hi, hz, rfl⟩
    · cases h
  · cases h
theorem e_alloc {zs : List Value} [c : ZV P t zs] : OpE P ro N fr l ⟨d, .alloc t, ty, pos, aft, g⟩ (fun v l' => ∃ b, (∀ c, c ∈ l → c.1 ≠ b) ∧ v = .pointer (some ⟨b, 0, none⟩) ∧ l' = (b, .cells zs.toArray t (0, 0)) :: l) := opE_of_sl rfl fun ρ hρ => by
  obtain ⟨i, zv, h1, h2, h3⟩ := zvV_spec c.out
  simp only [execOp, sl_bind, Instr.alloc, zeroValue]
  rw [← sl_bind, sl_info h1, h2]
  simp only [sl_pure, newVar, newRow, sl_bind]
  intro b hb
  exact ⟨b, hb, rfl, by rw [← h3]⟩
theorem e_box {e : Nat} (hx : ev fr x = some v) : OpE P ro N fr l ⟨d, .box e x, ty, pos, aft, g⟩ (fun v' l' => ∃ b, (∀ c, c ∈ l → c.1 ≠ b) ∧ v' = .pointer (some ⟨b, 0, none⟩) ∧ l' = (b, .cells v.cells e (0, 0)) :: l) := opE_of_sl rfl fun ρ hρ => by
  simp only [execOp, sl_bind, Instr.box, hρ x _ hx, newVar, newRow]
  intro b hb
  exact ⟨b, hb, rfl, rfl⟩
theorem oc1_cells {v : Value} (h : v.oneCell' = true) : v.cells = #[v] := by cases v <;> first | rfl | (simp [Value.oneCell'] at h)
theorem sl_storeVar1 {α : Type} {Q : α → List Chunk → Prop} {f : Unit → Sem α} {cs : Array Value} {T : TypeId} {l' : List Chunk} (hc : ocV P t = true) (h1 : v.oneCell' = true) (hlt : off < cs.size) (hu : Upd l b (.cells cs T (0, 0)) (.cells (cs.setIfInBounds off v) T (0, 0)) l') (h : sl P (f ()) l' Q) : sl P (storeVar t ⟨b, off, none⟩ v >>= f) l Q := by
  obtain ⟨u, i, _, _, h3, h4⟩ := ocV_spec hc
  rw [sl_bind]; unfold storeVar
  rw [sl_sizeOf h3, oc1_cells h1, h4]
  exact ⟨h1, cs, T, (0, 0), l', hu, rfl, hlt, by simp [Addr.add], h⟩
theorem e_store {cs : Array Value} {T : TypeId} {l' : List Chunk} (hx : ev fr x = some (.pointer (some ⟨b, off, none⟩))) (hy : ev fr y = some v) [c : OC P t] (h1 : v.oneCell' = true) (hu : Upd l b (.cells cs T (0, 0)) (.cells (cs.setIfInBounds off v) T (0, 0)) l') (hlt : off < cs.size) : OpE P ro N fr l ⟨d, .store t x y, ty, pos, aft, g⟩ (fun v' l2 => v' = undef ∧ l2 = l') := opE_of_sl rfl fun ρ hρ => by
  simp only [execOp, hρ x _ hx, hρ y _ hy, Instr.storeAt, sl_bind, Instr.sureAddr, sl_pure]
  have := sl_storeVar1 (P := P) (f := fun v => (pure v : Sem Unit)) (Q := fun a l2 => NextK P (fun v' l2 => v' = undef ∧ l2 = l') Next.skip l2) c.out h1 hlt hu ⟨rfl, rfl⟩
  rw [sl_bind] at this
  exact this
theorem e_box1 {e : Nat} (hx : ev fr x = some v) (h1 : v.oneCell' = true) : OpE P ro N fr l ⟨d, .box e x, ty, pos, aft, g⟩ (fun v' l' => ∃ b, (∀ c, c ∈ l → c.1 ≠ b) ∧ v' = .pointer (some ⟨b, 0, none⟩) ∧ l' = (b, .cells (List.toArray [v]) e (0, 0)) :: l) :=
  (e_box hx).mono fun v' l' ⟨b, h0, h1', h2⟩ => ⟨b, h0, h1', by rw [h2, oc1_cells h1]⟩
theorem e_boxA {e : Nat} {ws : Array Value} (hx : ev fr x = some (.agg ws)) : OpE P ro N fr l ⟨d, .box e x, ty, pos, aft, g⟩ (fun v' l' => ∃ b, (∀ c, c ∈ l → c.1 ≠ b) ∧ v' = .pointer (some ⟨b, 0, none⟩) ∧ l' = (b, .cells ws e (0, 0)) :: l) := e_box hx
theorem e_storeL {cs cs' : List Value} {T : TypeId} {l' : List Chunk} (hx : ev fr x = some (.pointer (some ⟨b, off, none⟩))) (hy : ev fr y = some v) [c : OC P t] (h1 : v.oneCell' = true) (hm : (b, Obj.cells (List.toArray cs) T (0, 0)) ∈ l) (hs : LSet cs off v cs') (hu : Upd l b (.cells (List.toArray cs) T (0, 0)) (.cells (List.toArray cs') T (0, 0)) l') : OpE P ro N fr l ⟨d, .store t x y, ty, pos, aft, g⟩ (fun v' l2 => v' = undef ∧ l2 = l') := by
  refine e_store hx hy h1 (cs := List.toArray cs) (T := T) ?_ (by simpa using hs.spec.2)
  rw [List.setIfInBounds_toArray, hs.spec.1]
  exact hu
def setFrom (cs : Array Value) (off : Nat) : List Value → Array Value
  | [] => cs
  | v :: r => setFrom (cs.setIfInBounds off v) (off + 1) r
theorem setFrom_size (cs : Array Value) (vs : List Value) : ∀ off, (setFrom cs off vs).size = cs.size := by
  induction vs generalizing cs with
  | nil => intro off; rfl
  | cons v r ih => intro off; simp [setFrom, ih]
/-- the same block set again -/
theorem Upd.mid {l l'' : List Chunk} {b : Nat} {o o'' : Obj} (o' : Obj) (h : Upd l b o o'' l'') : ∃ l', Upd l b o o' l' ∧ Upd l' b o' o'' l'' := by
  induction h with
  | here => exact ⟨_, .here, .here⟩
  | there _ ih => obtain ⟨l', h1, h2⟩ := ih; exact ⟨_, .there h1, .there h2⟩
theorem Upd.same' {l l' : List Chunk} {b : Nat} {o o' : Obj} (h : Upd l b o o' l') (e : o = o') : l' = l := by
  induction h with
  | here => rw [e]
  | there _ ih => rw [ih e]
theorem Upd.same {l l' : List Chunk} {b : Nat} {o : Obj} (h : Upd l b o o l') : l' = l := h.same' rfl
theorem sl_storeCells {α : Type} {Q : α → List Chunk → Prop} {f : Unit → Sem α} {T : TypeId} : ∀ (vs : List Value) (i : Nat) (cs : Array Value) (l l' : List Chunk), (∀ v, v ∈ vs → v.oneCell' = true) → off + i + vs.length ≤ cs.size → Upd l b (.cells cs T (0, 0)) (.cells (setFrom cs (off + i) vs) T (0, 0)) l' → sl P (f ()) l' Q → sl P (storeCells ⟨b, off, none⟩ vs i >>= f) l Q
  | [], i, cs, l, l', _, _, hu, h => by
    have := hu.same
    subst this
    exact h
  | v :: r, i, cs, l, l', hv, hle, hu, h => by
    unfold storeCells
    rw [sl_bind, sl_bind]
    show sl P (store ((⟨b, off, none⟩ : Addr).add i) v) l _
    rw [addr_add]
    obtain ⟨l1, h1, h2⟩ := hu.mid (.cells (cs.setIfInBounds (off + i) v) T (0, 0))
    simp only [List.length_cons] at hle
    refine ⟨hv v List.mem_cons_self, cs, T, (0, 0), l1, h1, rfl, by simp only; omega, by simp, ?_⟩
    show sl P (storeCells ⟨b, off, none⟩ r (i + 1)) l1 _
    rw [← sl_bind]
    exact sl_storeCells r (i + 1) _ l1 l' (fun u hu => hv u (List.mem_cons_of_mem _ hu)) (by simp; omega) h2 h
theorem LSetA.spec {l r vs : List Value} {k : Nat} (h : LSetA l k vs r) : setFrom (List.toArray l) k vs = List.toArray r ∧ k + vs.length ≤ l.length := by
  have key : ∀ (vs : List Value) (pre l : List Value) (k : Nat), setFrom (List.toArray (pre ++ l)) (pre.length + k) vs = List.toArray (pre ++ (setFrom (List.toArray l) k vs).toList) := by
    intro vs
    induction vs with
    | nil => intro pre l k; simp [setFrom]
    | cons v vs ih =>
      intro pre l k
      simp only [setFrom, List.setIfInBounds_toArray]
      rw [List.set_append_right _ _ (by omega), show pre.length + k - pre.length = k by omega, show pre.length + k + 1 = pre.length + (k + 1) by omega]
      exact ih pre _ _
  induction h with
  | done => exact ⟨rfl, Nat.zero_le _⟩
  | put h ih =>
    rename_i x v l r vs
    refine ⟨?_, by have := ih.2; simp only [List.length_cons]; omega⟩
    simp only [setFrom, List.setIfInBounds_toArray, List.set_cons_zero]
    have := key vs [v] l 0
    simp only [List.length_singleton, List.singleton_append, Nat.zero_add, Nat.add_zero] at this ⊢
    rw [this, ih.1]
  | skip h ih =>
    rename_i x l r vs k
    refine ⟨?_, by have := ih.2; simp only [List.length_cons]; omega⟩
    have := key vs [x] l k
    simp only [List.length_singleton, List.singleton_append] at this
    rw [Nat.add_comm k 1, this, ih.1]
theorem e_storeA {cs ws : Array Value} {T : TypeId} {n : Nat} {l' : List Chunk} (hx : ev fr x = some (.pointer (some ⟨b, off, none⟩))) (hy : ev fr y = some (.agg ws)) [c : AG P t n] (hn : ws.size = n) (h1 : ∀ v, v ∈ ws.toList → v.oneCell' = true) (hu : Upd l b (.cells cs T (0, 0)) (.cells (setFrom cs off ws.toList) T (0, 0)) l') (hlt : off + n ≤ cs.size) : OpE P ro N fr l ⟨d, .store t x y, ty, pos, aft, g⟩ (fun v' l2 => v' = undef ∧ l2 = l') := opE_of_sl rfl fun ρ hρ => by
  obtain ⟨u, i, _, _, h3, h4⟩ := agV_spec c.out
  simp only [execOp, hρ x _ hx, hρ y _ hy, Instr.storeAt, sl_bind, Instr.sureAddr, sl_pure]
  unfold storeVar
  rw [sl_sizeOf h3, h4]
  have e : (Value.agg ws).cells = ws := rfl
  rw [e, hn]
  simp only [ne_eq, not_true, if_false]
  have := sl_storeCells (P := P) (f := fun v => (pure v : Sem Unit)) (Q := fun a l2 => NextK P (fun v' l2 => v' = undef ∧ l2 = l') Next.skip l2) ws.toList 0 cs l l' h1 (by simp; omega) hu ⟨rfl, rfl⟩
  rw [sl_bind] at this
  exact this
theorem e_storeLA {cs cs' ws : List Value} {T : TypeId} {n : Nat} {l' : List Chunk} (hx : ev fr x = some (.pointer (some ⟨b, off, none⟩))) (hy : ev fr y = some (.agg (List.toArray ws))) [c : AG P t n] (hn : ws.length = n) (h1 : ∀ v, v ∈ ws → v.oneCell' = true) (hm : (b, Obj.cells (List.toArray cs) T (0, 0)) ∈ l) (hs : LSetA cs off ws cs') (hu : Upd l b (.cells (List.toArray cs) T (0, 0)) (.cells (List.toArray cs') T (0, 0)) l') : OpE P ro N fr l ⟨d, .store t x y, ty, pos, aft, g⟩ (fun v' l2 => v' = undef ∧ l2 = l') := by
  refine e_storeA hx hy (cs := List.toArray cs) (T := T) (by simpa using hn) (by simpa using h1) ?_ (by have := hs.spec.2; simp; omega)
  have e := hs.spec.1
  simp only at e ⊢
  rw [e]
  exact hu
end
end Go.Proofs.Ytmmohklaiffkmaa
