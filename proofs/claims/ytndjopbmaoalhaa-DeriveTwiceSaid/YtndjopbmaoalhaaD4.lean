import Derived.Test.YtndjopbmaoalhaaD1
import Derived.Test.YtndjopbmaoalhaaK1
set_option linter.unusedVariables false
set_option linter.unusedSimpArgs false
namespace Go.Proofs.Ytndjopbmaoalhaa
open Go.RowKit Go.Shelf

theorem copy_fit (c : Cap) (m : Int) (hc : c.Fit) : (copyC c m).Fit := by
  unfold copyC
  split
  · exact ⟨by decide, by decide⟩
  · split
    · exact ⟨hc.guard, hc.badge⟩
    · split
      · exact ⟨hc.guard, hc.badge⟩
      · exact hc

def mD (d : Cap) (x : Nat) : Cap :=
  if d.kind = 8 then { d with badge := x } else if d.kind = 2 then { d with guard := (x % 4096 : Nat), bits := (x / 4096 % 16 : Nat) } else d
def mE (E : Int) (d : Cap) (x : Nat) : Int :=
  if E ≠ 0 then E
  else if d.kind = 8 then (if (16777215 : Int) < x then 3 else if d.badge ≠ 0 then 9 else 0)
  else if d.kind = 2 then (if decide (x < 65536) && (mD d x).okB then 0 else 3)
  else if x ≠ 0 then 2 else 0
def mC (E : Int) (d : Cap) (x : Nat) : Cap := if mE E d x ≠ 0 then Cap.no else mD d x

set_option maxRecDepth 100000 in
set_option maxHeartbeats 1000000 in
theorem mint_err (c : Cap) (m : Int) (x : Nat) (hc : c.Fit) (hx : x < 18446744073709551616) (w : World) (hk : copyE c m ≠ 0) :
   Calls Try.prog 28 #[c.v, .int .i64 m, .int .u64 x] w fun e w' => e = .returned (.tuple #[(mC (copyE c m) (copyC c m) x).v, .int .i64 (mE (copyE c m) (copyC c m) x)]) ∧ Below w.heap.size w w' := by
  have hm := fun w => copy_any c m hc w
  have hfit := copy_fit c m hc
  generalize copyE c m = E0 at *
  generalize copyC c m = C0 at *
  generalize hE : mE E0 C0 x = E
  generalize hC : mC E0 C0 x = C
  obtain ⟨k', o', r', d', g', b', s', p'⟩ := C0
  simp only [mC, hE, mD] at hC
  simp only [mE, mD] at hE
  try dsimp only at hk
  
  have HE := Lib.hid hE
  have HC := Lib.hid hC
  have Hm := Lib.hid hm
  have HF := Lib.hid hfit.badge
  clear hE hC hm hfit
  obtain ⟨k, o, r, d, g, b, s, p⟩ := c
  clear hc
  go_enter Try.func28, Try.ntmps28
  go_wp2_with fail
  go_step3
  go_wp2_with fail
  refine (Hm.out _).mono ?_
  clear Hm
  rintro e W1 ⟨rfl, hb⟩
  have c1 := blk_below (blk_alloc (blk_new w (.cells #[.int .i64 k, .int .i64 o, .int .i64 r, .int .u64 d, .int .i64 g, .int .i64 b, .int .i64 s, .int .i64 p] 24)) _) hb (by simp; omega)
  have c2 := blk_below (blk_new (w.alloc (.cells #[.int .i64 k, .int .i64 o, .int .i64 r, .int .u64 d, .int .i64 g, .int .i64 b, .int .i64 s, .int .i64 p] 24)) _) hb (by simp)
  rw [World.size_alloc] at c2
  have e2 := blk_cell c2
  have f2 := blk_frozen c2
  have hB : Below w.heap.size w W1 := (((Below.refl _ w).alloc (Nat.le_refl _) _).alloc (by simp) _).trans (hb.mono (by simp; omega))
  have lt1 : w.heap.size + 1 < W1.heap.size := by have := hb.size; simp at this; omega
  clear hb c1 c2
  have HB := Lib.hid hB
  clear hB
  have t0 : (E0 == 0) = false := by simpa using hk
  go_wp2
  all_goals have hB := HB.out
  all_goals have hE := HE.out
  all_goals have hC := HC.out
  all_goals clear HB HE HC
  all_goals (try simp only [Bool.not_eq_true', Bool.not_eq_false', beq_iff_eq, beq_eq_false_iff_ne, bne_iff_ne, bne_eq_false_iff_eq, ne_eq, ← Int.not_lt, Int.natCast_eq_zero] at *)
  all_goals (simp [*] at hE; subst hE; simp [*] at hC; subst hC)
  all_goals (try rw [Exit.noGoto_ret])
  all_goals exact body_ret_eq (Q := fun w' => Below w.heap.size w w') rfl (by simp [results, Try.results28, go_sem, e2, lt1, Cap.v, Cap.no, *]) (by go_grown)

set_option maxRecDepth 100000 in
set_option maxHeartbeats 1000000 in
theorem mint_8 (c : Cap) (m : Int) (x : Nat) (hc : c.Fit) (hx : x < 18446744073709551616) (w : World) (hk : copyE c m = 0 ∧ (copyC c m).kind = 8) :
   Calls Try.prog 28 #[c.v, .int .i64 m, .int .u64 x] w fun e w' => e = .returned (.tuple #[(mC (copyE c m) (copyC c m) x).v, .int .i64 (mE (copyE c m) (copyC c m) x)]) ∧ Below w.heap.size w w' := by
  have hm := fun w => copy_any c m hc w
  have hfit := copy_fit c m hc
  generalize copyE c m = E0 at *
  generalize copyC c m = C0 at *
  generalize hE : mE E0 C0 x = E
  generalize hC : mC E0 C0 x = C
  obtain ⟨k', o', r', d', g', b', s', p'⟩ := C0
  simp only [mC, hE, mD] at hC
  simp only [mE, mD] at hE
  try dsimp only at hk
  obtain ⟨rfl, rfl⟩ := hk
  have HE := Lib.hid hE
  have HC := Lib.hid hC
  have Hm := Lib.hid hm
  have HF := Lib.hid hfit.badge
  clear hE hC hm hfit
  obtain ⟨k, o, r, d, g, b, s, p⟩ := c
  clear hc
  go_enter Try.func28, Try.ntmps28
  go_wp2_with fail
  go_step3
  go_wp2_with fail
  refine (Hm.out _).mono ?_
  clear Hm
  rintro e W1 ⟨rfl, hb⟩
  have c1 := blk_below (blk_alloc (blk_new w (.cells #[.int .i64 k, .int .i64 o, .int .i64 r, .int .u64 d, .int .i64 g, .int .i64 b, .int .i64 s, .int .i64 p] 24)) _) hb (by simp; omega)
  have c2 := blk_below (blk_new (w.alloc (.cells #[.int .i64 k, .int .i64 o, .int .i64 r, .int .u64 d, .int .i64 g, .int .i64 b, .int .i64 s, .int .i64 p] 24)) _) hb (by simp)
  rw [World.size_alloc] at c2
  have e2 := blk_cell c2
  have f2 := blk_frozen c2
  have hB : Below w.heap.size w W1 := (((Below.refl _ w).alloc (Nat.le_refl _) _).alloc (by simp) _).trans (hb.mono (by simp; omega))
  have lt1 : w.heap.size + 1 < W1.heap.size := by have := hb.size; simp at this; omega
  clear hb c1 c2
  have HB := Lib.hid hB
  clear hB
  go_wp2_with fail
  go_step3
  go_wp2_with fail
  refine wp_loop_once ?_
  go_wp2
  all_goals have hB := HB.out
  all_goals have hE := HE.out
  all_goals have hC := HC.out
  all_goals clear HB HE HC
  all_goals (try simp only [Bool.not_eq_true', Bool.not_eq_false', beq_iff_eq, beq_eq_false_iff_ne, bne_iff_ne, bne_eq_false_iff_eq, ne_eq, ← Int.not_lt, Int.natCast_eq_zero] at *)
  all_goals (simp [*] at hE; subst hE; simp [*] at hC; subst hC)
  all_goals (try rw [Exit.noGoto_ret])
  all_goals exact body_ret_eq (Q := fun w' => Below w.heap.size w w') rfl (by simp [results, Try.results28, go_sem, e2, lt1, Cap.v, Cap.no, *]) (by go_grown)

set_option maxRecDepth 100000 in
set_option maxHeartbeats 1000000 in
theorem mint_no (c : Cap) (m : Int) (x : Nat) (hc : c.Fit) (hx : x < 18446744073709551616) (w : World) (hk : copyE c m = 0 ∧ (copyC c m).kind ≠ 8 ∧ (copyC c m).kind ≠ 2) :
   Calls Try.prog 28 #[c.v, .int .i64 m, .int .u64 x] w fun e w' => e = .returned (.tuple #[(mC (copyE c m) (copyC c m) x).v, .int .i64 (mE (copyE c m) (copyC c m) x)]) ∧ Below w.heap.size w w' := by
  have hm := fun w => copy_any c m hc w
  have hfit := copy_fit c m hc
  generalize copyE c m = E0 at *
  generalize copyC c m = C0 at *
  generalize hE : mE E0 C0 x = E
  generalize hC : mC E0 C0 x = C
  obtain ⟨k', o', r', d', g', b', s', p'⟩ := C0
  simp only [mC, hE, mD] at hC
  simp only [mE, mD] at hE
  try dsimp only at hk
  obtain ⟨rfl, hk8, hk2⟩ := hk
  have HE := Lib.hid hE
  have HC := Lib.hid hC
  have Hm := Lib.hid hm
  have HF := Lib.hid hfit.badge
  clear hE hC hm hfit
  obtain ⟨k, o, r, d, g, b, s, p⟩ := c
  clear hc
  go_enter Try.func28, Try.ntmps28
  go_wp2_with fail
  go_step3
  go_wp2_with fail
  refine (Hm.out _).mono ?_
  clear Hm
  rintro e W1 ⟨rfl, hb⟩
  have c1 := blk_below (blk_alloc (blk_new w (.cells #[.int .i64 k, .int .i64 o, .int .i64 r, .int .u64 d, .int .i64 g, .int .i64 b, .int .i64 s, .int .i64 p] 24)) _) hb (by simp; omega)
  have c2 := blk_below (blk_new (w.alloc (.cells #[.int .i64 k, .int .i64 o, .int .i64 r, .int .u64 d, .int .i64 g, .int .i64 b, .int .i64 s, .int .i64 p] 24)) _) hb (by simp)
  rw [World.size_alloc] at c2
  have e2 := blk_cell c2
  have f2 := blk_frozen c2
  have hB : Below w.heap.size w W1 := (((Below.refl _ w).alloc (Nat.le_refl _) _).alloc (by simp) _).trans (hb.mono (by simp; omega))
  have lt1 : w.heap.size + 1 < W1.heap.size := by have := hb.size; simp at this; omega
  clear hb c1 c2
  have HB := Lib.hid hB
  clear hB
  have t8 : (k' == 8) = false := by simpa using hk8
  have t2 : (k' == 2) = false := by simpa using hk2
  go_wp2_with fail
  go_step3
  go_wp2_with fail
  refine wp_loop_once ?_
  go_wp2
  all_goals have hB := HB.out
  all_goals have hE := HE.out
  all_goals have hC := HC.out
  all_goals clear HB HE HC
  all_goals (try simp only [Bool.not_eq_true', Bool.not_eq_false', beq_iff_eq, beq_eq_false_iff_ne, bne_iff_ne, bne_eq_false_iff_eq, ne_eq, ← Int.not_lt, Int.natCast_eq_zero] at *)
  all_goals (simp [*] at hE; subst hE; simp [*] at hC; subst hC)
  all_goals (try rw [Exit.noGoto_ret])
  all_goals exact body_ret_eq (Q := fun w' => Below w.heap.size w w') rfl (by simp [results, Try.results28, go_sem, e2, lt1, Cap.v, Cap.no, *]) (by go_grown)
end Go.Proofs.Ytndjopbmaoalhaa
