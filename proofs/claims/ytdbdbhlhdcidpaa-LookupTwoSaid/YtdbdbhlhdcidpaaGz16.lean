/- LookupAll, LookupTwo: the plain laws. LookupAll, LookupTwo: the walks. Laws that the statement's proof leans on. -/
import Derived.Test.YtdbdbhlhdcidpaaGz15
import Derived.Test.YtdbdbhlhdcidpaaGz4
/- LookupAll, LookupTwo: the plain laws. -/
set_option linter.unusedVariables false
set_option linter.unusedSimpArgs false
namespace Go.Proofs.Ytdbdbhlhdcidpaa
open Go.RowKit
set_option maxRecDepth 20000

def idK : Nat → Int | 0 => 1 | 1 => 2 | 2 => 3 | _ => 5
abbrev rootK (k : Nat) (g : Nat) : CapT := ⟨2, idK k, 0, 0, (g : Nat), ((11 - k : Nat) : Int), 0, 0⟩
theorem node_may (id : Int) (g n : Nat) (hid : inObj id = true) (hn : n ≤ 12) (hg : g < 2 ^ n) : mayC ⟨2, id, 0, 0, (g : Nat), (n : Nat), 0, 0⟩ = true := by
  have hp : 2 ^ n ≤ 2 ^ 12 := Nat.pow_le_pow_right (by omega) hn
  have hu : u64V ((g : Nat) : Int) = g := by have := u64V_nn (x := ((g : Nat) : Int)) (by omega) (by omega); omega
  unfold mayC
  rw [if_neg (by simp), if_neg (by simp), if_pos rfl]
  unfold nodeB
  simp only
  rw [hu, fits_pow (by omega) (by omega), decide_eq_true hg, decide_eq_true (show (0 : Int) ≤ ((g : Nat) : Int) by omega), decide_eq_true (show (0 : Int) ≤ ((n : Nat) : Int) by omega), decide_eq_true (show ((n : Nat) : Int) ≤ 12 by omega), hid]
  rw [show eqC ⟨2, id, 0, 0, (g : Nat), (n : Nat), 0, 0⟩ (only2 ⟨2, id, 0, 0, (g : Nat), (n : Nat), 0, 0⟩) = true from eqC_iff.2 rfl]
  rfl
theorem nodes : ∀ {k : Nat}, k < 4 → (Ar.getD' A5 (idK k)).2 = true ∧ (Ar.getD' A5 (idK k)).1.kd = 2 ∧ (Ar.getD' A5 (idK k)).1.sz = ((k + 1 : Nat) : Int) ∧ (Ar.getD' A5 (idK k)).1.id = idK k ∧ inObj (idK k) = true
  | 0, _ => by decide +kernel | 1, _ => by decide +kernel | 2, _ => by decide +kernel | 3, _ => by decide +kernel | n + 4, h => absurd h (by omega)
theorem slot_ok {k ix : Nat} (hk : k < 4) (hi : ix < 2 ^ (k + 1)) : (getD' D5 (idK k, ((ix : Nat) : Int))).2 = 0 := by
  have h : ∀ k : Fin 4, ∀ ix : Fin (2 ^ (k.1 + 1)), (getD' D5 (idK k.1, ((ix.1 : Nat) : Int))).2 = 0 := by decide +kernel
  exact h ⟨k, hk⟩ ⟨ix, hi⟩
theorem last_one (x : stT) (d : Int) : lastD [x] d = x := rfl
theorem bad_not {addr : Nat} (h : addr < 4096) : ¬ badD addr 12 := by
  rintro (h | h | h)
  · omega
  · omega
  · rw [show (12 : Int) = ((12 : Nat) : Int) from rfl] at h
    rw [fits_pow (by omega) (by omega), decide_eq_true (show addr < 2 ^ 12 by omega)] at h; cases h
theorem addr_lt {k g ix : Nat} (hk : k < 4) (hg : g < 2 ^ (11 - k)) (hi : ix < 2 ^ (k + 1)) : g * 2 ^ (k + 1) + ix < 4096 := by
  have h1 : (g + 1) * 2 ^ (k + 1) ≤ 2 ^ (11 - k) * 2 ^ (k + 1) := Nat.mul_le_mul_right _ hg
  rw [← Nat.pow_add, show 11 - k + (k + 1) = 12 by omega, Nat.add_mul] at h1
  omega
theorem all_step {k g g' ix : Nat} (hk : k < 4) (hg : g < 2 ^ (11 - k)) (hg' : g' < 2 ^ (11 - k)) (hi : ix < 2 ^ (k + 1)) :
    goes A5 (rootK k g) 12 ∧ leftN A5 (rootK k g) 12 = 0 ∧ slotN A5 (g' * 2 ^ (k + 1) + ix) (rootK k g) 12 = (idK k, ((ix : Nat) : Int)) ∧ guF (g' * 2 ^ (k + 1) + ix) (rootK k g) 12 = g' ∧ u64V (rootK k g).guard = g := by
  obtain ⟨n1, n2, n3, n4, n5⟩ := nodes hk
  have hp : 2 ^ (11 - k) ≤ 2 ^ 12 := Nat.pow_le_pow_right (by omega) (by omega)
  have hl : leftN A5 (rootK k g) 12 = 0 := by unfold leftN obA; simp only; rw [n3]; omega
  refine ⟨⟨node_may _ _ _ n5 (by omega) hg, rfl, n1, n2, ?_⟩, hl, ?_, ?_, ?_⟩
  · unfold obA; simp only; rw [n3]; omega
  · unfold slotN
    rw [hl]
    unfold obA; simp only
    rw [n4, n3]
    unfold fieldN
    rw [show (0 : Int).toNat = 0 from rfl, Nat.pow_zero, Nat.div_one, Int.toNat_natCast, Nat.mul_comm g', Nat.mul_add_mod, Nat.mod_eq_of_lt hi]
  · unfold guF
    simp only
    rw [if_pos (by omega)]
    unfold fieldN
    rw [show ((12 : Int) - ((11 - k : Nat) : Int)).toNat = k + 1 by omega, Int.toNat_natCast, Nat.mul_comm g', Nat.mul_add_div (Nat.two_pow_pos _), Nat.div_eq_of_lt hi, Nat.add_zero, Nat.mod_eq_of_lt hg']
  · have := u64V_nn (x := ((g : Nat) : Int)) (by omega) (by omega); show u64V ((g : Nat) : Int) = g; omega
theorem all_1 {k g ix : Nat} (hk : k < 4) (hg : g < 2 ^ (11 - k)) (hi : ix < 2 ^ (k + 1)) : resD D5 A5 (rootK k g) (g * 2 ^ (k + 1) + ix) 12 = ((idK k, ((ix : Nat) : Int)), 0) := by
  obtain ⟨h1, h2, h3, h4, h5⟩ := all_step hk hg hg hi
  have hs : stepD D5 A5 (g * 2 ^ (k + 1) + ix) (rootK k g) 12 = some _ := step_some h1 ⟨by rw [h4, h5], by rw [h3]; exact slot_ok hk hi⟩
  rw [h2, h3] at hs
  unfold resD
  rw [if_neg (bad_not (addr_lt hk hg hi)), walk_on (by decide) hs, walk_end (by simp only; omega), last_one, if_neg (by simp only; omega)]
theorem all_2 {k g g' ix : Nat} (hk : k < 4) (hg : g < 2 ^ (11 - k)) (hg' : g' < 2 ^ (11 - k)) (hi : ix < 2 ^ (k + 1)) (hne : g' ≠ g) : resD D5 A5 (rootK k g) (g' * 2 ^ (k + 1) + ix) 12 = ((0, 0), 12) := by
  obtain ⟨h1, h2, h3, h4, h5⟩ := all_step hk hg hg' hi
  unfold resD
  rw [if_neg (bad_not (addr_lt hk hg' hi)), walk_stop (step_none2 fun h => hne (by rw [← h4, h.1, h5])), if_pos (by show (12 : Int) > 0; decide)]
abbrev capJ (g : Nat) : CapT := ⟨2, 3, 0, 0, (g : Nat), 5, 0, 0⟩
theorem two_1 {i j g : Nat} (hi : i < 16) (hj : j < 8) (hg : g < 32) : resD (setD D5 (5, ((i : Nat) : Int)) (capJ g)).2 A5 ⟨2, 5, 0, 0, 0, 0, 0, 0⟩ (i * 256 + g * 8 + j) 12 = ((3, ((j : Nat) : Int)), 0) := by
  have hok : okD D5 (5, ((i : Nat) : Int)) = true := by
    have h : ∀ i : Fin 16, okD D5 (5, ((i.1 : Nat) : Int)) = true := by decide +kernel
    exact h ⟨i, hi⟩
  have hok3 : okD D5 (3, ((j : Nat) : Int)) = true := by
    have h : ∀ i : Fin 8, okD D5 (3, ((i.1 : Nat) : Int)) = true := by decide +kernel
    exact h ⟨j, hj⟩
  have hmay : mayC (capJ g) = true := node_may 3 g 5 rfl (by omega) hg
  have hD : (setD D5 (5, ((i : Nat) : Int)) (capJ g)).2 = putD D5 (5, ((i : Nat) : Int)) (capJ g) := by unfold setD; rw [if_pos hok, if_pos hmay]
  rw [hD]
  obtain ⟨D, hDD⟩ : ∃ D, putD D5 (5, ((i : Nat) : Int)) (capJ g) = D := ⟨_, rfl⟩
  have g1 : getD' D (5, ((i : Nat) : Int)) = (capJ g, 0) := by
    unfold getD'; rw [← hDD, ok_put, if_pos hok, at_put hok]
  have g2 : (getD' D (3, ((j : Nat) : Int))).2 = 0 := by
    unfold getD'; rw [← hDD, ok_put, if_pos hok3]
  rw [hDD]
  have b1 : ¬ badD (i * 256 + g * 8 + j) 12 := bad_not (by omega)
  have o5 : (Ar.getD' A5 5).2 = true ∧ (Ar.getD' A5 5).1.kd = 2 ∧ (Ar.getD' A5 5).1.sz = 4 ∧ (Ar.getD' A5 5).1.id = 5 := by decide +kernel
  have o3 : (Ar.getD' A5 3).2 = true ∧ (Ar.getD' A5 3).1.kd = 2 ∧ (Ar.getD' A5 3).1.sz = 3 ∧ (Ar.getD' A5 3).1.id = 3 := by decide +kernel
  obtain ⟨p1, p2, p3, p4⟩ := o5
  obtain ⟨q1, q2, q3, q4⟩ := o3
  obtain ⟨w, hw⟩ : ∃ w, i * 256 + g * 8 + j = w := ⟨_, rfl⟩
  have l1 : leftN A5 ⟨2, 5, 0, 0, 0, 0, 0, 0⟩ 12 = 8 := by unfold leftN obA; simp only; rw [p3]; rfl
  have l2 : leftN A5 (capJ g) 8 = 0 := by unfold leftN obA; simp only; rw [q3]; rfl
  have x1 : slotN A5 w ⟨2, 5, 0, 0, 0, 0, 0, 0⟩ 12 = (5, ((i : Nat) : Int)) := by
    unfold slotN; rw [l1]; unfold obA; simp only; rw [p4, p3]; unfold fieldN
    rw [show (8 : Int).toNat = 8 from rfl, show (4 : Int).toNat = 4 from rfl, show w / 2 ^ 8 % 2 ^ 4 = i by omega]
  have x2 : slotN A5 w (capJ g) 8 = (3, ((j : Nat) : Int)) := by
    unfold slotN; rw [l2]; unfold obA; simp only; rw [q4, q3]; unfold fieldN
    rw [show (0 : Int).toNat = 0 from rfl, show (3 : Int).toNat = 3 from rfl, show w / 2 ^ 0 % 2 ^ 3 = j by omega]
  have e1 : guF w (capJ g) 8 = g := by
    unfold guF; simp only; rw [if_pos (by decide)]; unfold fieldN
    rw [show ((8 : Int) - 5).toNat = 3 from rfl, show (5 : Int).toNat = 5 from rfl]; omega
  have e2 : u64V ((g : Nat) : Int) = g := by have := u64V_nn (x := ((g : Nat) : Int)) (by omega) (by omega); omega
  have s1 : stepD D A5 w ⟨2, 5, 0, 0, 0, 0, 0, 0⟩ 12 = some _ := step_some ⟨by decide, rfl, p1, p2, by unfold obA; simp only; rw [p3]; decide⟩ ⟨rfl, by rw [x1, g1]⟩
  have s2 : stepD D A5 w (capJ g) 8 = some _ := step_some ⟨hmay, rfl, q1, q2, by unfold obA; simp only; rw [q3]; decide⟩ ⟨by rw [e1]; exact e2.symm, by rw [x2, g2]⟩
  rw [l1, x1, g1] at s1
  rw [l2, x2] at s2
  rw [hw] at b1 ⊢
  unfold resD
  rw [if_neg b1, walk_on (by decide) s1]
  simp only
  rw [walk_on (by decide) s2, walk_end (by simp only; omega)]
  rfl
end Go.Proofs.Ytdbdbhlhdcidpaa

/- LookupAll, LookupTwo: the walks. -/
-- GU
set_option linter.unusedVariables false
set_option linter.unusedSimpArgs false
namespace Go.Proofs.Ytdbdbhlhdcidpaa
open Go.RowKit
set_option maxRecDepth 20000

theorem wrapI {a : Nat} (h : a < 9223372036854775808) : IntKind.i64.wrap ((a : Nat) : Int) = ((a : Nat) : Int) := by
  simp [IntKind.wrap, IntKind.signed, IntKind.bits]; omega
theorem wrap_shl {a n : Nat} (h : a * 2 ^ n < 9223372036854775808) : IntKind.i64.wrap (((a : Nat) : Int) * 2 ^ n) = ((a * 2 ^ n : Nat) : Int) := by
  rw [show ((a : Nat) : Int) * 2 ^ n = ((a * 2 ^ n : Nat) : Int) by norm_cast]; exact wrapI h
section
variable {P : Program} {ro : Option Nat} {N : Nat} {fr : Fr} {R l : List Chunk} {d : Option Nat} {ty t t2 : TypeId} {pos : String} {aft : Array Edge} {g : Option (Nat × Bool)} {x y : Operand} {a b : Nat}
theorem q_xorI (hx : ev fr x = some (.int .i64 (a : Nat))) (hy : ev fr y = some (.int .i64 (b : Nat))) (ha : a < 2 ^ 63) (hb : b < 2 ^ 63) : OpQ P ro N fr R ⟨d, .binOp .xor t x y t2, ty, pos, aft, g⟩ (.int .i64 ((a ^^^ b : Nat) : Int)) :=
  q_bin hx hy (fun _ _ => eqGuard_int _ _ _ _ _) (by
    have e1 : (BitVec.ofInt IntKind.i64.bits ((a : Nat) : Int)).toNat = a := by
      show (BitVec.ofInt 64 ((a : Nat) : Int)).toNat = a
      rw [BitVec.ofInt_natCast, BitVec.toNat_ofNat, Nat.mod_eq_of_lt (by omega)]
    have e2 : (BitVec.ofInt IntKind.i64.bits ((b : Nat) : Int)).toNat = b := by
      show (BitVec.ofInt 64 ((b : Nat) : Int)).toNat = b
      rw [BitVec.ofInt_natCast, BitVec.toNat_ofNat, Nat.mod_eq_of_lt (by omega)]
    simp only [binOp, Op.intBits, BitVec.toNat_xor, e1, e2]
    rw [wrapI (Nat.xor_lt_two_pow (n := 63) ha hb)]
    rfl)
end
theorem xor1 {g n : Nat} (h : g < 2 ^ n) (hn : 1 ≤ n) : g ^^^ 1 < 2 ^ n ∧ g ^^^ 1 ≠ g := by
  refine ⟨Nat.xor_lt_two_pow h ?_, fun e => ?_⟩
  · have : 2 ^ 1 ≤ 2 ^ n := Nat.pow_le_pow_right (by omega) hn
    omega
  · have := congrArg (fun x => g ^^^ x) e
    simp only [← Nat.xor_assoc, Nat.xor_self, Nat.zero_xor] at this
    omega
theorem cells4 : ∀ {k : Nat}, k < 4 → (List.toArray [Value.int .i64 1, .int .i64 2, .int .i64 3, .int .i64 5])[0 + k * 1]? = some (.int .i64 (idK k)) ∧ 1 ≤ idK k ∧ idK k ≤ 5
  | 0, _ => ⟨rfl, by decide, by decide⟩ | 1, _ => ⟨rfl, by decide, by decide⟩ | 2, _ => ⟨rfl, by decide, by decide⟩ | 3, _ => ⟨rfl, by decide, by decide⟩ | n + 4, h => absurd h (by omega)
set_option pp.deepTerms false
set_option pp.deepTerms.threshold 4
set_option maxHeartbeats 400000
theorem lookupAll_any (a0 a1 a2 : Int) (l : List Chunk) : Fn Try.prog 3 [.int .i64 a0, .int .i64 a1, .int .i64 a2] l fun v l' => v = .bool true ∧ ∃ X, l' = X ++ l := by
  refine fn_of_body Try.func3 rfl rfl fun E => ?_
  simp only [argF, Try.ntmps3]
  repeat (first | (show OpsS _ _ _ _ _ _ (_ :: _) _ _ _; first | refine ozq ?_ | refine ozs ?_ | refine ozs0 ?_ | refine ozt ?_ | refine ozf ?_ | refine t_hu rfl rfl rfl rfl rfl rfl ?_ | refine ozn ?_) | refine c_seq ?_ | refine p_then ?_ | refine c_region ?_ | refine s_nil ?_ | refine c_cond_t rfl ?_ | refine c_cond_f rfl ?_ | refine c_skip ?_ | refine c_ret ?_ | refine p_then_ret ?_ | refine p_end ?_ | refine c_if_t rfl (by omega) ?_ | refine c_if_f rfl (by omega) ?_)
  refine t_e (e_call0 rfl rfl (room_nil _)) rfl rfl rfl ?_
  rintro _ _ ⟨bs, ba, bv, bw, lq, la, lv, lw, rfl, hq, hA, hv, hw, rfl⟩
  obtain ⟨Y, hY⟩ : ∃ Y, Y = lq ++ (la ++ (lv ++ (lw ++ l))) := ⟨_, rfl⟩
  have s1 : ∀ c, c ∈ lq → c ∈ Y := fun c hc => by rw [hY]; exact List.mem_append_left _ hc
  have s2 : ∀ c, c ∈ la → c ∈ Y := fun c hc => by rw [hY]; exact sub2 c hc
  have HR := fun (c : CapT) (addr : Nat) (h : addr < 18446744073709551616) (l2 : List Chunk) (hs : ∀ c, c ∈ Y → c ∈ l2) => resolve_any bs ba D5 A5 lq la hq hA rad5 addr h c 12 l2 (fun c hc => hs c (s1 c hc)) (fun c hc => hs c (s2 c hc))
  rw [← hY]
  repeat (first | (show OpsS _ _ _ _ _ _ (_ :: _) _ _ _; first | refine ozq ?_ | refine ozs ?_ | refine ozs0 ?_ | refine ozt ?_ | refine ozf ?_ | refine t_hu rfl rfl rfl rfl rfl rfl ?_ | refine ozn ?_) | refine c_seq ?_ | refine p_then ?_ | refine c_region ?_ | refine s_nil ?_ | refine c_cond_t rfl ?_ | refine c_cond_f rfl ?_ | refine c_skip ?_ | refine c_ret ?_ | refine p_then_ret ?_ | refine p_end ?_ | refine c_if_t rfl (by omega) ?_ | refine c_if_f rfl (by omega) ?_)
  refine t_q (q_call rfl rfl fun l2 _ => low_any a0 4 (by decide) (by decide) l2) rfl rfl rfl ?_
  have hk := lowV_lt a0 4 (by decide)
  obtain ⟨k, hk0⟩ : ∃ k, lowV a0 ((4 : Nat) : Int) = k := ⟨_, rfl⟩
  rw [hk0] at hk ⊢
  obtain ⟨t1, t2, t3⟩ := cells4 hk
  repeat (first | (show OpsS _ _ _ _ _ _ (_ :: _) _ _ _; first | refine ozq ?_ | refine ozs ?_ | refine ozs0 ?_ | refine ozt ?_ | refine ozf ?_ | refine t_hu rfl rfl rfl rfl rfl rfl ?_ | refine ozn ?_) | refine c_seq ?_ | refine p_then ?_ | refine c_region ?_ | refine s_nil ?_ | refine c_cond_t rfl ?_ | refine c_cond_f rfl ?_ | refine c_skip ?_ | refine c_ret ?_ | refine p_then_ret ?_ | refine p_end ?_ | refine c_if_t rfl (by omega) ?_ | refine c_if_f rfl (by omega) ?_)
  refine t_e (e_litN (z0 := .int .i64 0) (cs := [.int .i64 1, .int .i64 2, .int .i64 3, .int .i64 5]) rfl (by decide) (by decide) rfl) rfl rfl rfl ?_
  rintro _ _ ⟨bl, _, rfl, rfl⟩
  repeat (first | (show OpsS _ _ _ _ _ _ (_ :: _) _ _ _; first | refine ozq ?_ | refine ozs ?_ | refine ozs0 ?_ | refine ozt ?_ | refine ozf ?_ | refine t_hu rfl rfl rfl rfl rfl rfl ?_ | refine ozn ?_) | refine c_seq ?_ | refine p_then ?_ | refine c_region ?_ | refine s_nil ?_ | refine c_cond_t rfl ?_ | refine c_cond_f rfl ?_ | refine c_skip ?_ | refine c_ret ?_ | refine p_then_ret ?_ | refine p_end ?_ | refine c_if_t rfl (by omega) ?_ | refine c_if_f rfl (by omega) ?_)
  refine t_q (q_load rfl (.head _) (by rw [Nat.zero_add] at t1; exact t1)) rfl rfl rfl ?_
  refine s_keep (.drop .refl) ?_
  repeat (first | (show OpsS _ _ _ _ _ _ (_ :: _) _ _ _; first | refine ozq ?_ | refine ozs ?_ | refine ozs0 ?_ | refine ozt ?_ | refine ozf ?_ | refine t_hu rfl rfl rfl rfl rfl rfl ?_ | refine ozn ?_) | refine c_seq ?_ | refine p_then ?_ | refine c_region ?_ | refine s_nil ?_ | refine c_cond_t rfl ?_ | refine c_cond_f rfl ?_ | refine c_skip ?_ | refine c_ret ?_ | refine p_then_ret ?_ | refine p_end ?_ | refine c_if_t rfl (by omega) ?_ | refine c_if_f rfl (by omega) ?_)
  rw [show ((k : Nat) : Int) + 1 = ((k + 1 : Nat) : Int) by omega]
  have e12 : (12 : Int) - ((k + 1 : Nat) : Int) = ((11 - k : Nat) : Int) := by omega
  have p1 : 2 ^ (11 - k) ≤ 2 ^ 11 := Nat.pow_le_pow_right (by omega) (by omega)
  have p2 : 2 ^ (k + 1) ≤ 2 ^ 4 := Nat.pow_le_pow_right (by omega) (by omega)
  have p3 := Nat.two_pow_pos (11 - k)
  have p4 := Nat.two_pow_pos (k + 1)
  have w1 := wrap_shl (a := 1) (n := 11 - k) (by omega)
  have w2 := wrap_shl (a := 1) (n := k + 1) (by omega)
  rw [Nat.one_mul] at w1 w2
  refine c_draw [(0, true), (1, true), (2, true), (3, true), (4, true), (5, true), (6, true), (7, true), (8, true), (9, true), (10, true)] [[], [], [1], [1, 2], [0, 1, 2, 3], [], [], [6], [0, 1, 2, 3, 4, 5, 6, 7], [0, 1, 2, 3, 4, 5, 6, 7, 8], [0, 1, 2, 3, 4, 5, 6, 7, 8, 9]] _ (by kernel_rfl) (by kernel_rfl) (by (repeat (first | apply Attach.nil | (apply Attach.cons; · rfl)))) (fun _ h => h) ?_
  repeat (first | refine pl_nil ?_ | (show PlanS _ _ _ _ _ _ _ _ _ _ ((_, true, _) :: _) _ _ _; first | refine pzq ?_) | (show PlanS _ _ _ _ _ _ _ _ none [] ((_, false, _) :: _) _ _ _; first | refine pzn ?_ | refine pze ?_))
  rw [e12]
  refine pl_h (q_shl (n := 11 - k) (i := ((1 : Nat) : Int)) rfl rfl (by show _ ≤ 64; omega)) rfl rfl rfl ?_
  rw [w1]
  refine pl_h (q_call rfl rfl fun l2 _ => low_any a1 (2 ^ (11 - k)) p3 (by omega) l2) rfl rfl rfl ?_
  repeat (first | refine pl_nil ?_ | (show PlanS _ _ _ _ _ _ _ _ _ _ ((_, true, _) :: _) _ _ _; first | refine pzq ?_) | (show PlanS _ _ _ _ _ _ _ _ none [] ((_, false, _) :: _) _ _ _; first | refine pzn ?_ | refine pze ?_))
  refine pl_h (q_shl (n := k + 1) (i := ((1 : Nat) : Int)) rfl rfl (by show _ ≤ 64; omega)) rfl rfl rfl ?_
  rw [w2]
  refine pl_h (q_call rfl rfl fun l2 _ => low_any a2 (2 ^ (k + 1)) p4 (by omega) l2) rfl rfl rfl ?_
  have hg := lowV_lt a1 (2 ^ (11 - k)) p3
  have hi := lowV_lt a2 (2 ^ (k + 1)) p4
  obtain ⟨g, hg0⟩ : ∃ g, lowV a1 ((2 ^ (11 - k) : Nat) : Int) = g := ⟨_, rfl⟩
  obtain ⟨i, hi0⟩ : ∃ i, lowV a2 ((2 ^ (k + 1) : Nat) : Int) = i := ⟨_, rfl⟩
  rw [hg0] at hg ⊢
  rw [hi0] at hi ⊢
  obtain ⟨x1, x2⟩ := xor1 hg (by omega)
  have a1 := addr_lt hk hg hi
  have a2 := addr_lt hk x1 hi
  have r1 := all_1 hk hg hi
  have r2 := all_2 hk hg x1 hi x2
  have v1 := wrap_shl (a := g) (n := k + 1) (by omega)
  have v2 := wrap_shl (a := g ^^^ 1) (n := k + 1) (by omega)
  obtain ⟨A, hA1⟩ : ∃ A, g * 2 ^ (k + 1) = A := ⟨_, rfl⟩
  obtain ⟨B, hB1⟩ : ∃ B, (g ^^^ 1) * 2 ^ (k + 1) = B := ⟨_, rfl⟩
  rw [hA1] at a1 v1 r1
  rw [hB1] at a2 v2 r2
  repeat (first | refine pl_nil ?_ | (show PlanS _ _ _ _ _ _ _ _ _ _ ((_, true, _) :: _) _ _ _; first | refine pzq ?_) | (show PlanS _ _ _ _ _ _ _ _ none [] ((_, false, _) :: _) _ _ _; first | refine pzn ?_ | refine pze ?_))
  repeat (first | (show OpsS _ _ _ _ _ _ (_ :: _) _ _ _; first | refine ozq ?_ | refine ozs ?_ | refine ozs0 ?_ | refine ozt ?_ | refine ozf ?_ | refine t_hu rfl rfl rfl rfl rfl rfl ?_ | refine ozn ?_) | refine c_seq ?_ | refine p_then ?_ | refine c_region ?_ | refine s_nil ?_ | refine c_cond_t rfl ?_ | refine c_cond_f rfl ?_ | refine c_skip ?_ | refine c_ret ?_ | refine p_then_ret ?_ | refine p_end ?_ | refine c_if_t rfl (by omega) ?_ | refine c_if_f rfl (by omega) ?_)
  rw [e12]
  repeat (first | (show OpsS _ _ _ _ _ _ (_ :: _) _ _ _; first | refine ozq ?_ | refine ozs ?_ | refine ozs0 ?_ | refine ozt ?_ | refine ozf ?_ | refine t_hu rfl rfl rfl rfl rfl rfl ?_ | refine ozn ?_) | refine c_seq ?_ | refine p_then ?_ | refine c_region ?_ | refine s_nil ?_ | refine c_cond_t rfl ?_ | refine c_cond_f rfl ?_ | refine c_skip ?_ | refine c_ret ?_ | refine p_then_ret ?_ | refine p_end ?_ | refine c_if_t rfl (by omega) ?_ | refine c_if_f rfl (by omega) ?_)
  refine t_e e_alloc rfl rfl rfl ?_; rintro _ _ ⟨b14, _, rfl, rfl⟩
  repeat (first | (show OpsS _ _ _ _ _ _ (_ :: _) _ _ _; first | refine ozq ?_ | refine ozs ?_ | refine ozs0 ?_ | refine ozt ?_ | refine ozf ?_ | refine t_hu rfl rfl rfl rfl rfl rfl ?_ | refine ozn ?_) | refine c_seq ?_ | refine p_then ?_ | refine c_region ?_ | refine s_nil ?_ | refine c_cond_t rfl ?_ | refine c_cond_f rfl ?_ | refine c_skip ?_ | refine c_ret ?_ | refine p_then_ret ?_ | refine p_end ?_ | refine c_if_t rfl (by omega) ?_ | refine c_if_f rfl (by omega) ?_)
  obtain ⟨F, hF⟩ : ∃ F, F = capC b14 (rootK k g) :: Y := ⟨_, rfl⟩
  have m14 : capC b14 (rootK k g) ∈ F := by rw [hF]; exact .head _
  have mY : ∀ c, c ∈ Y → c ∈ F := fun c hc => by rw [hF]; exact .tail _ hc
  refine c_keep (l' := F) (by rw [hF]; exact .refl) ?_
  refine c_draw [(0, true), (1, true), (2, true), (3, true), (4, true), (5, true), (6, true), (7, true), (8, true), (9, true), (10, true), (11, true), (12, true), (13, false), (14, false), (15, true)] [[], [], [], [], [], [3, 4], [], [3, 4, 5, 6], [3, 4, 5, 6, 7], [0, 1, 2, 3, 4, 5, 6, 7, 8], [0, 1, 2, 3, 4, 5, 6, 7, 8, 9], [0, 1, 2, 3, 4, 5, 6, 7, 8, 9, 10], [0, 1, 2, 3, 4, 5, 6, 7, 8, 9, 10], [], [0, 1, 2, 3, 4, 5, 6, 7, 8, 9, 10, 11, 13], [0, 1, 2, 3, 4, 5, 6, 7, 8, 9, 10, 11, 12, 13, 14]] _ (by kernel_rfl) (by kernel_rfl) (by (repeat (first | apply Attach.nil | (apply Attach.cons; · rfl)))) (fun _ h => h) ?_
  repeat (first | refine pl_nil ?_ | (show PlanS _ _ _ _ _ _ _ _ _ _ ((_, true, _) :: _) _ _ _; first | refine pzq ?_) | (show PlanS _ _ _ _ _ _ _ _ none [] ((_, false, _) :: _) _ _ _; first | refine pzn ?_ | refine pze ?_))
  refine pl_h (q_shl (n := k + 1) rfl rfl (by show _ ≤ 64; omega)) rfl rfl rfl ?_
  rw [v1]
  repeat (first | refine pl_nil ?_ | (show PlanS _ _ _ _ _ _ _ _ _ _ ((_, true, _) :: _) _ _ _; first | refine pzq ?_) | (show PlanS _ _ _ _ _ _ _ _ none [] ((_, false, _) :: _) _ _ _; first | refine pzn ?_ | refine pze ?_))
  rw [show ((A : Nat) : Int) + ((i : Nat) : Int) = ((A + i : Nat) : Int) by omega]
  refine pl_h (q_call rfl rfl fun l2 hs => HR (rootK k g) (A + i) (by omega) l2 (fun c hc => hs c (mY c hc))) rfl rfl rfl ?_
  rw [r1]
  repeat (first | refine pl_nil ?_ | (show PlanS _ _ _ _ _ _ _ _ _ _ ((_, true, _) :: _) _ _ _; first | refine pzq ?_) | (show PlanS _ _ _ _ _ _ _ _ none [] ((_, false, _) :: _) _ _ _; first | refine pzn ?_ | refine pze ?_))
  apply pl_e
  · exact e_alloc
  · rfl
  · rfl
  · rfl
  · rintro _ _ ⟨b15, _, _, rfl⟩ z hz
    exact .tail _ hz
  rintro _ _ ⟨b15, _, rfl, rfl⟩
  repeat (first | refine pl_nil ?_ | (show PlanS _ _ _ _ _ _ _ _ _ _ ((_, true, _) :: _) _ _ _; first | refine pzq ?_) | (show PlanS _ _ _ _ _ _ _ _ none [] ((_, false, _) :: _) _ _ _; first | refine pzn ?_ | refine pze ?_))
  repeat (first | (show OpsS _ _ _ _ _ _ (_ :: _) _ _ _; first | refine ozq ?_ | refine ozs ?_ | refine ozs0 ?_ | refine ozt ?_ | refine ozf ?_ | refine t_hu rfl rfl rfl rfl rfl rfl ?_ | refine ozn ?_) | refine c_seq ?_ | refine p_then ?_ | refine c_region ?_ | refine s_nil ?_ | refine c_cond_t rfl ?_ | refine c_cond_f rfl ?_ | refine c_skip ?_ | refine c_ret ?_ | refine p_then_ret ?_ | refine p_end ?_ | refine c_if_t rfl (by omega) ?_ | refine c_if_f rfl (by omega) ?_)
  have m14' : capC b14 (rootK k g) ∈ slC b15 (idK k, ((i : Nat) : Int)) :: F := .tail _ m14
  refine c_draw [(0, true), (1, true), (2, true), (3, true), (4, true), (5, true), (6, true), (7, true), (8, true), (9, true), (10, true), (11, true), (12, true), (13, true), (14, false), (15, false), (16, true)] [[], [], [], [], [3], [], [3, 4, 5], [], [3, 4, 5, 6, 7], [3, 4, 5, 6, 7, 8], [0, 1, 2, 3, 4, 5, 6, 7, 8, 9], [0, 1, 2, 3, 4, 5, 6, 7, 8, 9, 10], [0, 1, 2, 3, 4, 5, 6, 7, 8, 9, 10, 11], [0, 1, 2, 3, 4, 5, 6, 7, 8, 9, 10, 11], [], [0, 1, 2, 3, 4, 5, 6, 7, 8, 9, 10, 11, 12, 14], [0, 1, 2, 3, 4, 5, 6, 7, 8, 9, 10, 11, 12, 13, 14, 15]] _ (by kernel_rfl) (by kernel_rfl) (by (repeat (first | apply Attach.nil | (apply Attach.cons; · rfl)))) (fun _ h => h) ?_
  repeat (first | refine pl_nil ?_ | (show PlanS _ _ _ _ _ _ _ _ _ _ ((_, true, _) :: _) _ _ _; first | refine pzq ?_) | (show PlanS _ _ _ _ _ _ _ _ none [] ((_, false, _) :: _) _ _ _; first | refine pzn ?_ | refine pze ?_))
  refine pl_h (q_xorI (a := g) (b := 1) rfl rfl (by omega) (by decide)) rfl rfl rfl ?_
  repeat (first | refine pl_nil ?_ | (show PlanS _ _ _ _ _ _ _ _ _ _ ((_, true, _) :: _) _ _ _; first | refine pzq ?_) | (show PlanS _ _ _ _ _ _ _ _ none [] ((_, false, _) :: _) _ _ _; first | refine pzn ?_ | refine pze ?_))
  refine pl_h (q_shl (n := k + 1) rfl rfl (by show _ ≤ 64; omega)) rfl rfl rfl ?_
  rw [v2]
  repeat (first | refine pl_nil ?_ | (show PlanS _ _ _ _ _ _ _ _ _ _ ((_, true, _) :: _) _ _ _; first | refine pzq ?_) | (show PlanS _ _ _ _ _ _ _ _ none [] ((_, false, _) :: _) _ _ _; first | refine pzn ?_ | refine pze ?_))
  rw [show ((B : Nat) : Int) + ((i : Nat) : Int) = ((B + i : Nat) : Int) by omega]
  refine pl_h (q_call rfl rfl fun l2 hs => HR (rootK k g) (B + i) (by omega) l2 (fun c hc => hs c (.tail _ (mY c hc)))) rfl rfl rfl ?_
  rw [r2]
  repeat (first | refine pl_nil ?_ | (show PlanS _ _ _ _ _ _ _ _ _ _ ((_, true, _) :: _) _ _ _; first | refine pzq ?_) | (show PlanS _ _ _ _ _ _ _ _ none [] ((_, false, _) :: _) _ _ _; first | refine pzn ?_ | refine pze ?_))
  apply pl_e
  · exact e_alloc
  · rfl
  · rfl
  · rfl
  · rintro _ _ ⟨b17, _, _, rfl⟩ z hz
    exact .tail _ hz
  rintro _ _ ⟨b17, _, rfl, rfl⟩
  repeat (first | refine pl_nil ?_ | (show PlanS _ _ _ _ _ _ _ _ _ _ ((_, true, _) :: _) _ _ _; first | refine pzq ?_) | (show PlanS _ _ _ _ _ _ _ _ none [] ((_, false, _) :: _) _ _ _; first | refine pzn ?_ | refine pze ?_))
  repeat (first | (show OpsS _ _ _ _ _ _ (_ :: _) _ _ _; first | refine ozq ?_ | refine ozs ?_ | refine ozs0 ?_ | refine ozt ?_ | refine ozf ?_ | refine t_hu rfl rfl rfl rfl rfl rfl ?_ | refine ozn ?_) | refine c_seq ?_ | refine p_then ?_ | refine c_region ?_ | refine s_nil ?_ | refine c_cond_t rfl ?_ | refine c_cond_f rfl ?_ | refine c_skip ?_ | refine c_ret ?_ | refine p_then_ret ?_ | refine p_end ?_ | refine c_if_t rfl (by omega) ?_ | refine c_if_f rfl (by omega) ?_)
  refine t_h (q_eqagg rfl rfl (encT_k (idK k, ((i : Nat) : Int))) (encT_k (idK k, ((i : Nat) : Int)))) rfl rfl rfl ?_
  rw [eqCells_self (encT_k (idK k, ((i : Nat) : Int)))]
  repeat (first | (show OpsS _ _ _ _ _ _ (_ :: _) _ _ _; first | refine ozq ?_ | refine ozs ?_ | refine ozs0 ?_ | refine ozt ?_ | refine ozf ?_ | refine t_hu rfl rfl rfl rfl rfl rfl ?_ | refine ozn ?_) | refine c_seq ?_ | refine p_then ?_ | refine c_region ?_ | refine s_nil ?_ | refine c_cond_t rfl ?_ | refine c_cond_f rfl ?_ | refine c_skip ?_ | refine c_ret ?_ | refine p_then_ret ?_ | refine p_end ?_ | refine c_if_t rfl (by omega) ?_ | refine c_if_f rfl (by omega) ?_)
  refine t_eh (e_call0 rfl rfl (awake_any _)) rfl rfl rfl ?_
  rintro _ _ ⟨rfl, X, rfl⟩
  repeat (first | (show OpsS _ _ _ _ _ _ (_ :: _) _ _ _; first | refine ozq ?_ | refine ozs ?_ | refine ozs0 ?_ | refine ozt ?_ | refine ozf ?_ | refine t_hu rfl rfl rfl rfl rfl rfl ?_ | refine ozn ?_) | refine c_seq ?_ | refine p_then ?_ | refine c_region ?_ | refine s_nil ?_ | refine c_cond_t rfl ?_ | refine c_cond_f rfl ?_ | refine c_skip ?_ | refine c_ret ?_ | refine p_then_ret ?_ | refine p_end ?_ | refine c_if_t rfl (by omega) ?_ | refine c_if_f rfl (by omega) ?_)
  exact k_ret [] rfl (l' := (X ++ (lq ++ (la ++ (lv ++ lw)))) ++ l) (by rw [hF, hY]; exact keep_ac (A := X ++ (slC b17 (0, 0) :: slC b15 (idK k, ((i : Nat) : Int)) :: capC b14 (rootK k g) :: (lq ++ (la ++ (lv ++ (lw ++ l)))))) [slC b17 (0, 0), slC b15 (idK k, ((i : Nat) : Int)), capC b14 (rootK k g)]) (by (repeat (first | apply ResS.nil | (apply rs_tmp; (· rfl)) | (apply rs_cell1; (· rfl); (· ((repeat (first | with_reducible apply List.mem_cons_self | with_reducible apply List.mem_cons_of_mem)); try with_reducible assumption)); (· rfl)) | (apply rs_cellA; (· rfl); (· ((repeat (first | with_reducible apply List.mem_cons_self | with_reducible apply List.mem_cons_of_mem)); try with_reducible assumption)); (· (repeat (first | with_reducible apply LSub.done | with_reducible apply LSub.take | with_reducible apply LSub.drop))))))) ⟨rfl, _, rfl⟩
theorem lookupTwo_any (a0 a1 a2 : Int) (l : List Chunk) : Fn Try.prog 4 [.int .i64 a0, .int .i64 a1, .int .i64 a2] l fun v l' => v = .bool true ∧ ∃ X, l' = X ++ l := by
  refine fn_of_body Try.func4 rfl rfl fun E => ?_
  simp only [argF, Try.ntmps4]
  repeat (first | (show OpsS _ _ _ _ _ _ (_ :: _) _ _ _; first | refine ozq ?_ | refine ozs ?_ | refine ozs0 ?_ | refine ozt ?_ | refine ozf ?_ | refine t_hu rfl rfl rfl rfl rfl rfl ?_ | refine ozn ?_) | refine c_seq ?_ | refine p_then ?_ | refine c_region ?_ | refine s_nil ?_ | refine c_cond_t rfl ?_ | refine c_cond_f rfl ?_ | refine c_skip ?_ | refine c_ret ?_ | refine p_then_ret ?_ | refine p_end ?_ | refine c_if_t rfl (by omega) ?_ | refine c_if_f rfl (by omega) ?_)
  refine t_q (q_call rfl rfl fun l2 _ => low_any a0 16 (by decide) (by decide) l2) rfl rfl rfl ?_
  repeat (first | (show OpsS _ _ _ _ _ _ (_ :: _) _ _ _; first | refine ozq ?_ | refine ozs ?_ | refine ozs0 ?_ | refine ozt ?_ | refine ozf ?_ | refine t_hu rfl rfl rfl rfl rfl rfl ?_ | refine ozn ?_) | refine c_seq ?_ | refine p_then ?_ | refine c_region ?_ | refine s_nil ?_ | refine c_cond_t rfl ?_ | refine c_cond_f rfl ?_ | refine c_skip ?_ | refine c_ret ?_ | refine p_then_ret ?_ | refine p_end ?_ | refine c_if_t rfl (by omega) ?_ | refine c_if_f rfl (by omega) ?_)
  refine t_q (q_call rfl rfl fun l2 _ => low_any a1 8 (by decide) (by decide) l2) rfl rfl rfl ?_
  repeat (first | (show OpsS _ _ _ _ _ _ (_ :: _) _ _ _; first | refine ozq ?_ | refine ozs ?_ | refine ozs0 ?_ | refine ozt ?_ | refine ozf ?_ | refine t_hu rfl rfl rfl rfl rfl rfl ?_ | refine ozn ?_) | refine c_seq ?_ | refine p_then ?_ | refine c_region ?_ | refine s_nil ?_ | refine c_cond_t rfl ?_ | refine c_cond_f rfl ?_ | refine c_skip ?_ | refine c_ret ?_ | refine p_then_ret ?_ | refine p_end ?_ | refine c_if_t rfl (by omega) ?_ | refine c_if_f rfl (by omega) ?_)
  refine t_q (q_call rfl rfl fun l2 _ => low_any a2 32 (by decide) (by decide) l2) rfl rfl rfl ?_
  have hi := lowV_lt a0 16 (by decide)
  have hj := lowV_lt a1 8 (by decide)
  have hg := lowV_lt a2 32 (by decide)
  obtain ⟨i, hi0⟩ : ∃ i, lowV a0 ((16 : Nat) : Int) = i := ⟨_, rfl⟩
  obtain ⟨j, hj0⟩ : ∃ j, lowV a1 ((8 : Nat) : Int) = j := ⟨_, rfl⟩
  obtain ⟨g, hg0⟩ : ∃ g, lowV a2 ((32 : Nat) : Int) = g := ⟨_, rfl⟩
  rw [hi0] at hi ⊢
  rw [hj0] at hj ⊢
  rw [hg0] at hg ⊢
  repeat (first | (show OpsS _ _ _ _ _ _ (_ :: _) _ _ _; first | refine ozq ?_ | refine ozs ?_ | refine ozs0 ?_ | refine ozt ?_ | refine ozf ?_ | refine t_hu rfl rfl rfl rfl rfl rfl ?_ | refine ozn ?_) | refine c_seq ?_ | refine p_then ?_ | refine c_region ?_ | refine s_nil ?_ | refine c_cond_t rfl ?_ | refine c_cond_f rfl ?_ | refine c_skip ?_ | refine c_ret ?_ | refine p_then_ret ?_ | refine p_end ?_ | refine c_if_t rfl (by omega) ?_ | refine c_if_f rfl (by omega) ?_)
  obtain ⟨P, hP⟩ : ∃ P : PutT, P = ((5, ((i : Nat) : Int)), capJ g) := ⟨_, rfl⟩
  refine t_e (e_litA (ws := encP P) (k := 10) (by rw [hP]; rfl) rfl rfl (by decide) (by decide)) rfl rfl rfl ?_
  rintro _ _ ⟨bl, _, rfl, rfl⟩
  refine t_e (e_call0 rfl rfl (room_any (some ⟨bl, 0, none⟩) 1 1 [P] _ (fun _ => ⟨bl, 0, _, _, _, rfl, .head _, fun q row hq => ?_⟩) rfl (by decide) (fun p hp => by rw [List.mem_singleton.1 hp, hP]; show ((g : Nat) : Int) ≤ _; omega))) rfl rfl rfl ?_
  · cases q with
    | succ q => simp at hq
    | zero =>
      simp at hq
      subst hq
      rw [hP]
      refine ⟨by simp, by simp, fun j v hv => by simpa using hv⟩
  rintro _ _ ⟨bs, ba, bv, bw, lq, la, lv, lw, rfl, hq, hA, hv, hw, rfl⟩
  have hD : putsD D5 [P] = (setD D5 (5, ((i : Nat) : Int)) (capJ g)).2 := by rw [hP]; rfl
  have hT := two_1 hi hj hg
  rw [← hD] at hT
  obtain ⟨Y, hY⟩ : ∃ Y, Y = lq ++ (la ++ (lv ++ (lw ++ (bl, Obj.cells (List.toArray (encP P)) 41 (0, 0)) :: l))) := ⟨_, rfl⟩
  have s1 : ∀ c, c ∈ lq → c ∈ Y := fun c hc => by rw [hY]; exact List.mem_append_left _ hc
  have s2 : ∀ c, c ∈ la → c ∈ Y := fun c hc => by rw [hY]; exact sub2 c hc
  have HR := fun (c : CapT) (addr : Nat) (h : addr < 18446744073709551616) (l2 : List Chunk) (hs : ∀ c, c ∈ Y → c ∈ l2) => resolve_any bs ba _ A5 lq la hq hA rad5 addr h c 12 l2 (fun c hc => hs c (s1 c hc)) (fun c hc => hs c (s2 c hc))
  rw [← hY]
  repeat (first | (show OpsS _ _ _ _ _ _ (_ :: _) _ _ _; first | refine ozq ?_ | refine ozs ?_ | refine ozs0 ?_ | refine ozt ?_ | refine ozf ?_ | refine t_hu rfl rfl rfl rfl rfl rfl ?_ | refine ozn ?_) | refine c_seq ?_ | refine p_then ?_ | refine c_region ?_ | refine s_nil ?_ | refine c_cond_t rfl ?_ | refine c_cond_f rfl ?_ | refine c_skip ?_ | refine c_ret ?_ | refine p_then_ret ?_ | refine p_end ?_ | refine c_if_t rfl (by omega) ?_ | refine c_if_f rfl (by omega) ?_)
  have v1 := wrap_shl (a := i) (n := 8) (by omega)
  have v2 := wrap_shl (a := g) (n := 3) (by omega)
  refine t_q (q_shl (n := 8) rfl rfl (by decide)) rfl rfl rfl ?_
  rw [v1]
  repeat (first | (show OpsS _ _ _ _ _ _ (_ :: _) _ _ _; first | refine ozq ?_ | refine ozs ?_ | refine ozs0 ?_ | refine ozt ?_ | refine ozf ?_ | refine t_hu rfl rfl rfl rfl rfl rfl ?_ | refine ozn ?_) | refine c_seq ?_ | refine p_then ?_ | refine c_region ?_ | refine s_nil ?_ | refine c_cond_t rfl ?_ | refine c_cond_f rfl ?_ | refine c_skip ?_ | refine c_ret ?_ | refine p_then_ret ?_ | refine p_end ?_ | refine c_if_t rfl (by omega) ?_ | refine c_if_f rfl (by omega) ?_)
  refine t_q (q_shl (n := 3) rfl rfl (by decide)) rfl rfl rfl ?_
  rw [v2]
  repeat (first | (show OpsS _ _ _ _ _ _ (_ :: _) _ _ _; first | refine ozq ?_ | refine ozs ?_ | refine ozs0 ?_ | refine ozt ?_ | refine ozf ?_ | refine t_hu rfl rfl rfl rfl rfl rfl ?_ | refine ozn ?_) | refine c_seq ?_ | refine p_then ?_ | refine c_region ?_ | refine s_nil ?_ | refine c_cond_t rfl ?_ | refine c_cond_f rfl ?_ | refine c_skip ?_ | refine c_ret ?_ | refine p_then_ret ?_ | refine p_end ?_ | refine c_if_t rfl (by omega) ?_ | refine c_if_f rfl (by omega) ?_)
  rw [show ((i * 2 ^ 8 : Nat) : Int) + ((g * 2 ^ 3 : Nat) : Int) + ((j : Nat) : Int) = ((i * 256 + g * 8 + j : Nat) : Int) by omega]
  repeat (first | (show OpsS _ _ _ _ _ _ (_ :: _) _ _ _; first | refine ozq ?_ | refine ozs ?_ | refine ozs0 ?_ | refine ozt ?_ | refine ozf ?_ | refine t_hu rfl rfl rfl rfl rfl rfl ?_ | refine ozn ?_) | refine c_seq ?_ | refine p_then ?_ | refine c_region ?_ | refine s_nil ?_ | refine c_cond_t rfl ?_ | refine c_cond_f rfl ?_ | refine c_skip ?_ | refine c_ret ?_ | refine p_then_ret ?_ | refine p_end ?_ | refine c_if_t rfl (by omega) ?_ | refine c_if_f rfl (by omega) ?_)
  refine t_q (q_call rfl rfl fun l2 hs => HR ⟨2, 5, 0, 0, 0, 0, 0, 0⟩ (i * 256 + g * 8 + j) (by omega) l2 (fun c hc => hs c hc)) rfl rfl rfl ?_
  rw [hT]
  repeat (first | (show OpsS _ _ _ _ _ _ (_ :: _) _ _ _; first | refine ozq ?_ | refine ozs ?_ | refine ozs0 ?_ | refine ozt ?_ | refine ozf ?_ | refine t_hu rfl rfl rfl rfl rfl rfl ?_ | refine ozn ?_) | refine c_seq ?_ | refine p_then ?_ | refine c_region ?_ | refine s_nil ?_ | refine c_cond_t rfl ?_ | refine c_cond_f rfl ?_ | refine c_skip ?_ | refine c_ret ?_ | refine p_then_ret ?_ | refine p_end ?_ | refine c_if_t rfl (by omega) ?_ | refine c_if_f rfl (by omega) ?_)
  refine t_e e_alloc rfl rfl rfl ?_; rintro _ _ ⟨b12, _, rfl, rfl⟩
  repeat (first | (show OpsS _ _ _ _ _ _ (_ :: _) _ _ _; first | refine ozq ?_ | refine ozs ?_ | refine ozs0 ?_ | refine ozt ?_ | refine ozf ?_ | refine t_hu rfl rfl rfl rfl rfl rfl ?_ | refine ozn ?_) | refine c_seq ?_ | refine p_then ?_ | refine c_region ?_ | refine s_nil ?_ | refine c_cond_t rfl ?_ | refine c_cond_f rfl ?_ | refine c_skip ?_ | refine c_ret ?_ | refine p_then_ret ?_ | refine p_end ?_ | refine c_if_t rfl (by omega) ?_ | refine c_if_f rfl (by omega) ?_)
  refine t_h (q_eqagg rfl rfl (encT_k (3, ((j : Nat) : Int))) (encT_k (3, ((j : Nat) : Int)))) rfl rfl rfl ?_
  rw [eqCells_self (encT_k (3, ((j : Nat) : Int)))]
  repeat (first | (show OpsS _ _ _ _ _ _ (_ :: _) _ _ _; first | refine ozq ?_ | refine ozs ?_ | refine ozs0 ?_ | refine ozt ?_ | refine ozf ?_ | refine t_hu rfl rfl rfl rfl rfl rfl ?_ | refine ozn ?_) | refine c_seq ?_ | refine p_then ?_ | refine c_region ?_ | refine s_nil ?_ | refine c_cond_t rfl ?_ | refine c_cond_f rfl ?_ | refine c_skip ?_ | refine c_ret ?_ | refine p_then_ret ?_ | refine p_end ?_ | refine c_if_t rfl (by omega) ?_ | refine c_if_f rfl (by omega) ?_)
  refine t_eh (e_call0 rfl rfl (awake_any _)) rfl rfl rfl ?_
  rintro _ _ ⟨rfl, X, rfl⟩
  repeat (first | (show OpsS _ _ _ _ _ _ (_ :: _) _ _ _; first | refine ozq ?_ | refine ozs ?_ | refine ozs0 ?_ | refine ozt ?_ | refine ozf ?_ | refine t_hu rfl rfl rfl rfl rfl rfl ?_ | refine ozn ?_) | refine c_seq ?_ | refine p_then ?_ | refine c_region ?_ | refine s_nil ?_ | refine c_cond_t rfl ?_ | refine c_cond_f rfl ?_ | refine c_skip ?_ | refine c_ret ?_ | refine p_then_ret ?_ | refine p_end ?_ | refine c_if_t rfl (by omega) ?_ | refine c_if_f rfl (by omega) ?_)
  exact k_ret [] rfl (l' := (X ++ (lq ++ (la ++ (lv ++ lw)))) ++ l) (by rw [hY]; exact keep_ac (A := X ++ (slC b12 (3, ((j : Nat) : Int)) :: (lq ++ (la ++ (lv ++ (lw ++ (bl, Obj.cells (List.toArray (encP P)) 41 (0, 0)) :: l)))))) [slC b12 (3, ((j : Nat) : Int)), (bl, Obj.cells (List.toArray (encP P)) 41 (0, 0))]) (by (repeat (first | apply ResS.nil | (apply rs_tmp; (· rfl)) | (apply rs_cell1; (· rfl); (· ((repeat (first | with_reducible apply List.mem_cons_self | with_reducible apply List.mem_cons_of_mem)); try with_reducible assumption)); (· rfl)) | (apply rs_cellA; (· rfl); (· ((repeat (first | with_reducible apply List.mem_cons_self | with_reducible apply List.mem_cons_of_mem)); try with_reducible assumption)); (· (repeat (first | with_reducible apply LSub.done | with_reducible apply LSub.take | with_reducible apply LSub.drop))))))) ⟨rfl, _, rfl⟩
theorem lookupAll_walk' (a0 : Int) (w0 : (Lit.int .i64 a0).wf = true) (a1 : Int) (w1 : (Lit.int .i64 a1).wf = true) (a2 : Int) (w2 : (Lit.int .i64 a2).wf = true) (W : World) :
    Calls Try.prog 3 #[.int .i64 a0, .int .i64 a1, .int .i64 a2] W fun e W' => e = .returned (.bool true) ∧ Below W.heap.size W W' :=
  law_walk (lookupAll_any a0 a1 a2 (allOf W))
theorem lookupTwo_walk' (a0 : Int) (w0 : (Lit.int .i64 a0).wf = true) (a1 : Int) (w1 : (Lit.int .i64 a1).wf = true) (a2 : Int) (w2 : (Lit.int .i64 a2).wf = true) (W : World) :
    Calls Try.prog 4 #[.int .i64 a0, .int .i64 a1, .int .i64 a2] W fun e W' => e = .returned (.bool true) ∧ Below W.heap.size W W' :=
  law_walk (lookupTwo_any a0 a1 a2 (allOf W))
end Go.Proofs.Ytdbdbhlhdcidpaa
