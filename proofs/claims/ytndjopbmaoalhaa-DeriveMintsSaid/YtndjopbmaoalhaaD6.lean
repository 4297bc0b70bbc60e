import Derived.Test.YtndjopbmaoalhaaD4
import Derived.Test.YtndjopbmaoalhaaD2
import Derived.Test.YtndjopbmaoalhaaK1
set_option linter.unusedVariables false
set_option linter.unusedSimpArgs false
namespace Go.Proofs.Ytndjopbmaoalhaa
open Go.RowKit Go.Shelf

set_option maxRecDepth 100000 in
set_option maxHeartbeats 1000000 in
theorem rmint_err (c : Cap) (m : Int) (x : Nat) (hc : c.Fit) (hx : x < 18446744073709551616) (w : World) (hk : copyE c m ≠ 0) :
   Calls Try.prog 29 #[c.v, .int .i64 m, .int .u64 x] w fun e w' => e = .returned (.tuple #[(mC (copyE c m) (copyC c m) x).v, .int .i64 (mE (copyE c m) (copyC c m) x)]) ∧ Below w.heap.size w w' := by
  have hm := fun w => rcopy_any c m w
  have hfit := copy_fit c m hc
  have hno : copyC c m = Cap.no := by unfold copyC; rw [if_pos hk]
  generalize copyE c m = E0 at *
  generalize copyC c m = C0 at *
  generalize hE : mE E0 C0 x = E
  generalize hC : mC E0 C0 x = C
  obtain ⟨k', o', r', d', g', b', s', p'⟩ := C0
  simp only [mC, hE, mD] at hC
  simp only [mE, mD] at hE
  try dsimp only at hk
  
  have HNO := Lib.hid hno
  clear hno
  have HE := Lib.hid hE
  have HC := Lib.hid hC
  have Hm := Lib.hid hm
  have HF := Lib.hid hfit.badge
  clear hE hC hm hfit
  obtain ⟨k, o, r, d, g, b, s, p⟩ := c
  clear hc
  go_enter Try.func29, Try.ntmps29
  go_wp2_with fail
  refine (Hm.out _).mono ?_
  clear Hm
  rintro e W1 ⟨rfl, hb⟩
  have c1 := blk_below (blk_alloc (blk_new w (.cells #[.int .i64 k, .int .i64 o, .int .i64 r, .int .u64 d, .int .i64 g, .int .i64 b, .int .i64 s, .int .i64 p] 24)) _) hb (by simp; omega)
  have c2 := blk_below (blk_new (w.alloc (.cells #[.int .i64 k, .int .i64 o, .int .i64 r, .int .u64 d, .int .i64 g, .int .i64 b, .int .i64 s, .int .i64 p] 24)) _) hb (by simp)
  rw [World.size_alloc] at c2
  have e2 := blk_cell c2
  have f2 := blk_frozen c2
  have hB : Below w.heap.size w W1 := (((Below.refl _ w).alloc (Nat.le_refl _) _).alloc (by simp) _).trans (hb.mono (by simp; omega))
  have lt1 : w.heap.size + 1 < W1.heap.size := by have := hb.size; simp at this; omega
  clear hb c1 c2
  have HB := Lib.hid hB
  clear hB
  have t0 : (E0 == 0) = false := by simpa using hk
  simp only []
  go_wp
  all_goals (have hno := HNO.out; simp only [Cap.no, Cap.mk.injEq] at hno; obtain ⟨rfl, rfl, rfl, rfl, rfl, rfl, rfl, rfl⟩ := hno)
  all_goals have hB := HB.out
  all_goals have hE := HE.out
  all_goals have hC := HC.out
  all_goals clear HB HE HC
  all_goals (try simp only [Bool.not_eq_true', Bool.not_eq_false', beq_iff_eq, beq_eq_false_iff_ne, bne_iff_ne, bne_eq_false_iff_eq, ne_eq, ← Int.not_lt, Int.natCast_eq_zero] at *)
  all_goals (simp [*] at hE; subst hE; simp [*] at hC; subst hC)
  all_goals (try rw [Exit.noGoto_ret])
  all_goals exact body_ret_eq (Q := fun w' => Below w.heap.size w w') rfl (by simp [results, Try.results29, go_sem, e2, lt1, Cap.v, Cap.no, *]) (by go_grown)

set_option maxRecDepth 100000 in
set_option maxHeartbeats 1000000 in
theorem rmint_8 (c : Cap) (m : Int) (x : Nat) (hc : c.Fit) (hx : x < 18446744073709551616) (w : World) (hk : copyE c m = 0 ∧ (copyC c m).kind = 8) :
   Calls Try.prog 29 #[c.v, .int .i64 m, .int .u64 x] w fun e w' => e = .returned (.tuple #[(mC (copyE c m) (copyC c m) x).v, .int .i64 (mE (copyE c m) (copyC c m) x)]) ∧ Below w.heap.size w w' := by
  have hm := fun w => rcopy_any c m w
  have hfit := copy_fit c m hc
  generalize copyE c m = E0 at *
  generalize copyC c m = C0 at *
  generalize hE : mE E0 C0 x = E
  generalize hC : mC E0 C0 x = C
  obtain ⟨k', o', r', d', g', b', s', p'⟩ := C0
  simp only [mC, hE, mD] at hC
  simp only [mE, mD] at hE
  try dsimp only at hk
  obtain ⟨rfl, rfl⟩ := hk
  have HE := Lib.hid hE
  have HC := Lib.hid hC
  have Hm := Lib.hid hm
  have HF := Lib.hid hfit.badge
  clear hE hC hm hfit
  obtain ⟨k, o, r, d, g, b, s, p⟩ := c
  clear hc
  go_enter Try.func29, Try.ntmps29
  go_wp2_with fail
  refine (Hm.out _).mono ?_
  clear Hm
  rintro e W1 ⟨rfl, hb⟩
  have c1 := blk_below (blk_alloc (blk_new w (.cells #[.int .i64 k, .int .i64 o, .int .i64 r, .int .u64 d, .int .i64 g, .int .i64 b, .int .i64 s, .int .i64 p] 24)) _) hb (by simp; omega)
  have c2 := blk_below (blk_new (w.alloc (.cells #[.int .i64 k, .int .i64 o, .int .i64 r, .int .u64 d, .int .i64 g, .int .i64 b, .int .i64 s, .int .i64 p] 24)) _) hb (by simp)
  rw [World.size_alloc] at c2
  have e2 := blk_cell c2
  have f2 := blk_frozen c2
  have hB : Below w.heap.size w W1 := (((Below.refl _ w).alloc (Nat.le_refl _) _).alloc (by simp) _).trans (hb.mono (by simp; omega))
  have lt1 : w.heap.size + 1 < W1.heap.size := by have := hb.size; simp at this; omega
  clear hb c1 c2
  have HB := Lib.hid hB
  clear hB
  simp only []
  go_wp
  all_goals have hB := HB.out
  all_goals have hE := HE.out
  all_goals have hC := HC.out
  all_goals clear HB HE HC
  all_goals (try simp only [Bool.not_eq_true', Bool.not_eq_false', beq_iff_eq, beq_eq_false_iff_ne, bne_iff_ne, bne_eq_false_iff_eq, ne_eq, ← Int.not_lt, Int.natCast_eq_zero] at *)
  all_goals (simp [*] at hE; subst hE; simp [*] at hC; subst hC)
  all_goals (try rw [Exit.noGoto_ret])
  all_goals exact body_ret_eq (Q := fun w' => Below w.heap.size w w') rfl (by simp [results, Try.results29, go_sem, e2, lt1, Cap.v, Cap.no, *]) (by go_grown)

set_option maxRecDepth 100000 in
set_option maxHeartbeats 1000000 in
theorem rmint_no (c : Cap) (m : Int) (x : Nat) (hc : c.Fit) (hx : x < 18446744073709551616) (w : World) (hk : copyE c m = 0 ∧ (copyC c m).kind ≠ 8 ∧ (copyC c m).kind ≠ 2) :
   Calls Try.prog 29 #[c.v, .int .i64 m, .int .u64 x] w fun e w' => e = .returned (.tuple #[(mC (copyE c m) (copyC c m) x).v, .int .i64 (mE (copyE c m) (copyC c m) x)]) ∧ Below w.heap.size w w' := by
  have hm := fun w => rcopy_any c m w
  have hfit := copy_fit c m hc
  generalize copyE c m = E0 at *
  generalize copyC c m = C0 at *
  generalize hE : mE E0 C0 x = E
  generalize hC : mC E0 C0 x = C
  obtain ⟨k', o', r', d', g', b', s', p'⟩ := C0
  simp only [mC, hE, mD] at hC
  simp only [mE, mD] at hE
  try dsimp only at hk
  obtain ⟨rfl, hk8, hk2⟩ := hk
  have HE := Lib.hid hE
  have HC := Lib.hid hC
  have Hm := Lib.hid hm
  have HF := Lib.hid hfit.badge
  clear hE hC hm hfit
  obtain ⟨k, o, r, d, g, b, s, p⟩ := c
  clear hc
  go_enter Try.func29, Try.ntmps29
  go_wp2_with fail
  refine (Hm.out _).mono ?_
  clear Hm
  rintro e W1 ⟨rfl, hb⟩
  have c1 := blk_below (blk_alloc (blk_new w (.cells #[.int .i64 k, .int .i64 o, .int .i64 r, .int .u64 d, .int .i64 g, .int .i64 b, .int .i64 s, .int .i64 p] 24)) _) hb (by simp; omega)
  have c2 := blk_below (blk_new (w.alloc (.cells #[.int .i64 k, .int .i64 o, .int .i64 r, .int .u64 d, .int .i64 g, .int .i64 b, .int .i64 s, .int .i64 p] 24)) _) hb (by simp)
  rw [World.size_alloc] at c2
  have e2 := blk_cell c2
  have f2 := blk_frozen c2
  have hB : Below w.heap.size w W1 := (((Below.refl _ w).alloc (Nat.le_refl _) _).alloc (by simp) _).trans (hb.mono (by simp; omega))
  have lt1 : w.heap.size + 1 < W1.heap.size := by have := hb.size; simp at this; omega
  clear hb c1 c2
  have HB := Lib.hid hB
  clear hB
  have t8 : (k' == 8) = false := by simpa using hk8
  have t2 : (k' == 2) = false := by simpa using hk2
  simp only []
  go_wp
  all_goals have hB := HB.out
  all_goals have hE := HE.out
  all_goals have hC := HC.out
  all_goals clear HB HE HC
  all_goals (try simp only [Bool.not_eq_true', Bool.not_eq_false', beq_iff_eq, beq_eq_false_iff_ne, bne_iff_ne, bne_eq_false_iff_eq, ne_eq, ← Int.not_lt, Int.natCast_eq_zero] at *)
  all_goals (simp [*] at hE; subst hE; simp [*] at hC; subst hC)
  all_goals (try rw [Exit.noGoto_ret])
  all_goals exact body_ret_eq (Q := fun w' => Below w.heap.size w w') rfl (by simp [results, Try.results29, go_sem, e2, lt1, Cap.v, Cap.no, *]) (by go_grown)

set_option maxRecDepth 100000 in
set_option maxHeartbeats 1000000 in
theorem rmint_2 (c : Cap) (m : Int) (x : Nat) (hc : c.Fit) (hx : x < 18446744073709551616) (w : World) (hk : copyE c m = 0 ∧ (copyC c m).kind = 2) :
   Calls Try.prog 29 #[c.v, .int .i64 m, .int .u64 x] w fun e w' => e = .returned (.tuple #[(mC (copyE c m) (copyC c m) x).v, .int .i64 (mE (copyE c m) (copyC c m) x)]) ∧ Below w.heap.size w w' := by
  have hm := fun w => rcopy_any c m w
  have hfit := copy_fit c m hc
  generalize copyE c m = E0 at *
  generalize copyC c m = C0 at *
  generalize hE : mE E0 C0 x = E
  generalize hC : mC E0 C0 x = C
  obtain ⟨k', o', r', d', g', b', s', p'⟩ := C0
  simp only [mC, hE, mD] at hC
  simp only [mE, mD] at hE
  try dsimp only at hk
  obtain ⟨rfl, rfl⟩ := hk
  have HE := Lib.hid hE
  have HC := Lib.hid hC
  have Hm := Lib.hid hm
  have HF := Lib.hid hfit.badge
  clear hE hC hm hfit
  obtain ⟨k, o, r, d, g, b, s, p⟩ := c
  clear hc
  go_enter Try.func29, Try.ntmps29
  go_wp2_with fail
  refine (Hm.out _).mono ?_
  clear Hm
  rintro e W1 ⟨rfl, hb⟩
  have c1 := blk_below (blk_alloc (blk_new w (.cells #[.int .i64 k, .int .i64 o, .int .i64 r, .int .u64 d, .int .i64 g, .int .i64 b, .int .i64 s, .int .i64 p] 24)) _) hb (by simp; omega)
  have c2 := blk_below (blk_new (w.alloc (.cells #[.int .i64 k, .int .i64 o, .int .i64 r, .int .u64 d, .int .i64 g, .int .i64 b, .int .i64 s, .int .i64 p] 24)) _) hb (by simp)
  rw [World.size_alloc] at c2
  have e2 := blk_cell c2
  have f2 := blk_frozen c2
  have hB : Below w.heap.size w W1 := (((Below.refl _ w).alloc (Nat.le_refl _) _).alloc (by simp) _).trans (hb.mono (by simp; omega))
  have lt1 : w.heap.size + 1 < W1.heap.size := by have := hb.size; simp at this; omega
  have HC2 := Lib.hid c2
  clear hb c1 c2
  have HB := Lib.hid hB
  clear hB
  have hfb := HF.out
  by_cases hx16 : x < 65536
  · obtain ⟨G, hG⟩ : ∃ G : Nat, G = x % 4096 := ⟨_, rfl⟩
    obtain ⟨B, hBt⟩ : ∃ B : Nat, B = x / 4096 % 16 := ⟨_, rfl⟩
    have hG9 : (G : Int) ≤ 9223372036854775807 := by omega
    have hB9 : (B : Int) ≤ 9223372036854775807 := by omega
    have HMay := Lib.hid (fun w => rfm_any ⟨2, o', r', d', G, B, s', p'⟩ w)
    clear hfb
    have w1 : (x : Int) % 4096 = G := by omega
    have w2 : (x : Int) / 4096 = B := by omega
    rw [← hG, ← hBt] at HE HC
    have x16 : decide ((65536 : Int) ≤ (x : Int)) = false := by simp; omega
    have Hx := Lib.hid hx16
    clear hx16
    clear hG hBt
    go_wp2_with fail
    refine (HMay.out _).mono ?_
    rintro e W3 ⟨rfl, hb3⟩
    have c5 := blk_below (blk_alloc HC2.out _) hb3 (by simp; omega)
    have c6 := blk_below (blk_new W1 _) hb3 (by simp)
    have hB3 := HB.out.trans ((((Below.refl _ W1).alloc (Nat.le_refl _) _).trans (hb3.mono (by simp))).mono HB.out.size)
    have lt4 : w.heap.size + 1 < W3.heap.size := by have := hb3.size; simp at this; omega
    have lt5 : W1.heap.size < W3.heap.size := by have := hb3.size; simp at this; omega
    clear hb3 HB e2 f2 HC2 w1 w2
    have HB := Lib.hid hB3
    clear hB3
    have e3 := blk_cell c5
    have f3 := blk_frozen c5
    have e4 := blk_cell c6
    clear c5 c6
    generalize hok : Cap.okB ⟨2, o', r', d', G, B, s', p'⟩ = ok
    have hfx := Hx.out
    cases ok
    · simp only []
      go_wp
      all_goals have hB := HB.out
      all_goals have hE := HE.out
      all_goals have hC := HC.out
      all_goals clear HB HE HC
      all_goals (try simp only [Bool.not_eq_true', Bool.not_eq_false', beq_iff_eq, beq_eq_false_iff_ne, bne_iff_ne, bne_eq_false_iff_eq, ne_eq, ← Int.not_lt, Int.natCast_eq_zero] at *)
      all_goals (simp [*] at hE; subst hE; simp [*] at hC; subst hC)
      all_goals (try rw [Exit.noGoto_ret])
      all_goals exact body_ret_eq (Q := fun w' => Below w.heap.size w w') rfl (by simp [results, Try.results29, go_sem, e3, lt1, Cap.v, Cap.no, *]) (by go_grown)

    · simp only []
      go_wp
      all_goals have hB := HB.out
      all_goals have hE := HE.out
      all_goals have hC := HC.out
      all_goals clear HB HE HC
      all_goals (try simp only [Bool.not_eq_true', Bool.not_eq_false', beq_iff_eq, beq_eq_false_iff_ne, bne_iff_ne, bne_eq_false_iff_eq, ne_eq, ← Int.not_lt, Int.natCast_eq_zero] at *)
      all_goals (simp [*] at hE; subst hE; simp [*] at hC; subst hC)
      all_goals (try rw [Exit.noGoto_ret])
      all_goals exact body_ret_eq (Q := fun w' => Below w.heap.size w w') rfl (by simp [results, Try.results29, go_sem, e3, lt1, Cap.v, Cap.no, *]) (by go_grown)

  · have x16 : decide ((65536 : Int) ≤ (x : Int)) = true := by simp; omega
    clear hfb
    have Hx := Lib.hid hx16
    clear hx16
    simp only []
    go_wp
    all_goals have hfx := Hx.out
    all_goals have hB := HB.out
    all_goals have hE := HE.out
    all_goals have hC := HC.out
    all_goals clear HB HE HC
    all_goals (try simp only [Bool.not_eq_true', Bool.not_eq_false', beq_iff_eq, beq_eq_false_iff_ne, bne_iff_ne, bne_eq_false_iff_eq, ne_eq, ← Int.not_lt, Int.natCast_eq_zero] at *)
    all_goals (simp [*] at hE; subst hE; simp [*] at hC; subst hC)
    all_goals (try rw [Exit.noGoto_ret])
    all_goals exact body_ret_eq (Q := fun w' => Below w.heap.size w w') rfl (by simp [results, Try.results29, go_sem, e2, lt1, Cap.v, Cap.no, *]) (by go_grown)


theorem rmint_any (c : Cap) (m : Int) (x : Nat) (hc : c.Fit) (hx : x < 18446744073709551616) (w : World) :
   Calls Try.prog 29 #[c.v, .int .i64 m, .int .u64 x] w fun e w' => e = .returned (.tuple #[(mC (copyE c m) (copyC c m) x).v, .int .i64 (mE (copyE c m) (copyC c m) x)]) ∧ Below w.heap.size w w' := by
  by_cases h0 : copyE c m = 0
  · by_cases h8 : (copyC c m).kind = 8
    · exact rmint_8 c m x hc hx w ⟨h0, h8⟩
    · by_cases h2 : (copyC c m).kind = 2
      · exact rmint_2 c m x hc hx w ⟨h0, h2⟩
      · exact rmint_no c m x hc hx w ⟨h0, h8, h2⟩
  · exact rmint_err c m x hc hx w h0
end Go.Proofs.Ytndjopbmaoalhaa
