import Derived.Test.YtndjopbmaoalhaaD4
import Derived.Test.YtndjopbmaoalhaaK1
set_option linter.unusedVariables false
set_option linter.unusedSimpArgs false
namespace Go.Proofs.Ytndjopbmaoalhaa
open Go.RowKit Go.Shelf

set_option maxRecDepth 100000 in
set_option maxHeartbeats 1000000 in
theorem mint_2 (c : Cap) (m : Int) (x : Nat) (hc : c.Fit) (hx : x < 18446744073709551616) (w : World) (hk : copyE c m = 0 ∧ (copyC c m).kind = 2) :
   Calls Try.prog 28 #[c.v, .int .i64 m, .int .u64 x] w fun e w' => e = .returned (.tuple #[(mC (copyE c m) (copyC c m) x).v, .int .i64 (mE (copyE c m) (copyC c m) x)]) ∧ Below w.heap.size w w' := by
  have hm := fun w => copy_any c m hc w
  have hfit := copy_fit c m hc
  generalize copyE c m = E0 at *
  generalize copyC c m = C0 at *
  generalize hE : mE E0 C0 x = E
  generalize hC : mC E0 C0 x = C
  obtain ⟨k', o', r', d', g', b', s', p'⟩ := C0
  simp only [mC, hE, mD] at hC
  simp only [mE, mD] at hE
  try dsimp only at hk
  obtain ⟨rfl, rfl⟩ := hk
  have HE := Lib.hid hE
  have HC := Lib.hid hC
  have Hm := Lib.hid hm
  have HF := Lib.hid hfit.badge
  clear hE hC hm hfit
  obtain ⟨k, o, r, d, g, b, s, p⟩ := c
  clear hc
  go_enter Try.func28, Try.ntmps28
  go_wp2_with fail
  go_step3
  go_wp2_with fail
  refine (Hm.out _).mono ?_
  clear Hm
  rintro e W1 ⟨rfl, hb⟩
  have c1 := blk_below (blk_alloc (blk_new w (.cells #[.int .i64 k, .int .i64 o, .int .i64 r, .int .u64 d, .int .i64 g, .int .i64 b, .int .i64 s, .int .i64 p] 24)) _) hb (by simp; omega)
  have c2 := blk_below (blk_new (w.alloc (.cells #[.int .i64 k, .int .i64 o, .int .i64 r, .int .u64 d, .int .i64 g, .int .i64 b, .int .i64 s, .int .i64 p] 24)) _) hb (by simp)
  rw [World.size_alloc] at c2
  have e2 := blk_cell c2
  have f2 := blk_frozen c2
  have hB : Below w.heap.size w W1 := (((Below.refl _ w).alloc (Nat.le_refl _) _).alloc (by simp) _).trans (hb.mono (by simp; omega))
  have lt1 : w.heap.size + 1 < W1.heap.size := by have := hb.size; simp at this; omega
  have HC2 := Lib.hid c2
  clear hb c1 c2
  have HB := Lib.hid hB
  clear hB
  have hfb := HF.out
  obtain ⟨G, hG⟩ : ∃ G : Nat, G = x % 4096 := ⟨_, rfl⟩
  obtain ⟨B, hBt⟩ : ∃ B : Nat, B = x / 4096 % 16 := ⟨_, rfl⟩
  have hG9 : (G : Int) ≤ 9223372036854775807 := by omega
  have hB9 : (B : Int) ≤ 9223372036854775807 := by omega
  have HMay := Lib.hid (fun w => may_any ⟨2, o', r', d', G, B, s', p'⟩ ⟨hG9, hfb⟩ w)
  clear hfb
  have HFld := Lib.hid (fun w => field_any x 0 12 w hx (by decide) (by decide) (by decide))
  have HFld2 := Lib.hid (fun w => field_any x 12 4 w hx (by decide) (by decide) (by decide))
  have hft := fun w => fits_any x ((16 : Nat) : Int) w hx
  rw [fitsB_iff x 16 hx] at hft
  have HFits := Lib.hid hft
  clear hft
  rw [show x / 2 ^ 0 % 2 ^ 12 = G by rw [hG]; simp] at HFld
  rw [show x / 2 ^ 12 % 2 ^ 4 = B by rw [hBt]] at HFld2
  rw [← hG, ← hBt] at HE HC
  clear hG hBt
  have ok8 : ∀ q : Bool, Cap.okB ⟨2, o', r', d', G, B, s', p'⟩ = q → (mE 0 ⟨2, o', r', d', g', b', s', p'⟩ x = mE 0 ⟨2, o', r', d', g', b', s', p'⟩ x) := fun _ _ => rfl
  clear ok8
  go_wp2_with fail
  go_step3
  go_wp2_with fail
  refine wp_loop_once ?_
  go_wp2_with fail
  refine (HFld.out _).mono ?_
  rintro e w' ⟨rfl, rfl⟩
  go_wp2_with fail
  refine (HFld2.out _).mono ?_
  rintro e w' ⟨rfl, rfl⟩
  go_wp2_with fail
  refine (HFits.out _).mono ?_
  rintro e W2 ⟨rfl, hb2⟩
  have c3 := blk_below (blk_alloc HC2.out _) hb2 (by simp; omega)
  have c4 := blk_below (blk_new W1 _) hb2 (by simp)
  have hB2 := HB.out.trans ((((Below.refl _ W1).alloc (Nat.le_refl _) _).trans (hb2.mono (by simp))).mono HB.out.size)
  have lt2 : w.heap.size + 1 < W2.heap.size := by have := hb2.size; simp at this; omega
  have lt3 : W1.heap.size < W2.heap.size := by have := hb2.size; simp at this; omega
  clear hb2 HB e2 f2 HC2
  have HB := Lib.hid hB2
  clear hB2

  have e3 := blk_cell c3
  have f3 := blk_frozen c3
  have e4 := blk_cell c4
  have HC3 := Lib.hid c3
  have HC4 := Lib.hid c4
  clear c3 c4
  cases hfx : decide (x < 2 ^ 16)
  · go_wp2
    all_goals have hB := HB.out
    all_goals (replace hfx : ¬ x < 65536 := by simpa using hfx)
    all_goals have hE := HE.out
    all_goals have hC := HC.out
    all_goals clear HB HE HC
    all_goals (try simp only [Bool.not_eq_true', Bool.not_eq_false', beq_iff_eq, beq_eq_false_iff_ne, bne_iff_ne, bne_eq_false_iff_eq, ne_eq, ← Int.not_lt, Int.natCast_eq_zero] at *)
    all_goals (simp [*] at hE; subst hE; simp [*] at hC; subst hC)
    all_goals (try rw [Exit.noGoto_ret])
    all_goals exact body_ret_eq (Q := fun w' => Below w.heap.size w w') rfl (by simp [results, Try.results28, go_sem, e3, lt1, Cap.v, Cap.no, *]) (by go_grown)

  · go_wp2_with fail
    refine (HMay.out _).mono ?_
    rintro e W3 ⟨rfl, hb3⟩
    have c5 := blk_below HC3.out hb3 (by omega)
    have c6 := blk_below HC4.out hb3 (by omega)
    have hB3 := HB.out.trans (hb3.mono HB.out.size)
    have lt4 : w.heap.size + 1 < W3.heap.size := by have := hb3.size; omega
    have lt5 : W1.heap.size < W3.heap.size := by have := hb3.size; omega
    clear hb3 HB e3 f3 e4 HC3 HC4
    have HB := Lib.hid hB3
    clear hB3
    have e3 := blk_cell c5
    have f3 := blk_frozen c5
    have e4 := blk_cell c6
    clear c5 c6
    generalize hok : Cap.okB ⟨2, o', r', d', G, B, s', p'⟩ = ok
    cases ok
    · go_wp2
      all_goals have hB := HB.out
      all_goals (replace hfx : x < 65536 := by simpa using hfx)
      all_goals have hE := HE.out
      all_goals have hC := HC.out
      all_goals clear HB HE HC
      all_goals (try simp only [Bool.not_eq_true', Bool.not_eq_false', beq_iff_eq, beq_eq_false_iff_ne, bne_iff_ne, bne_eq_false_iff_eq, ne_eq, ← Int.not_lt, Int.natCast_eq_zero] at *)
      all_goals (simp [*] at hE; subst hE; simp [*] at hC; subst hC)
      all_goals (try rw [Exit.noGoto_ret])
      all_goals exact body_ret_eq (Q := fun w' => Below w.heap.size w w') rfl (by simp [results, Try.results28, go_sem, e3, lt1, Cap.v, Cap.no, *]) (by go_grown)

    · go_wp2
      all_goals have hB := HB.out
      all_goals (replace hfx : x < 65536 := by simpa using hfx)
      all_goals have hE := HE.out
      all_goals have hC := HC.out
      all_goals clear HB HE HC
      all_goals (try simp only [Bool.not_eq_true', Bool.not_eq_false', beq_iff_eq, beq_eq_false_iff_ne, bne_iff_ne, bne_eq_false_iff_eq, ne_eq, ← Int.not_lt, Int.natCast_eq_zero] at *)
      all_goals (simp [*] at hE; subst hE; simp [*] at hC; subst hC)
      all_goals (try rw [Exit.noGoto_ret])
      all_goals exact body_ret_eq (Q := fun w' => Below w.heap.size w w') rfl (by simp [results, Try.results28, go_sem, e3, lt1, Cap.v, Cap.no, *]) (by go_grown)


theorem mint_any (c : Cap) (m : Int) (x : Nat) (hc : c.Fit) (hx : x < 18446744073709551616) (w : World) :
   Calls Try.prog 28 #[c.v, .int .i64 m, .int .u64 x] w fun e w' => e = .returned (.tuple #[(mC (copyE c m) (copyC c m) x).v, .int .i64 (mE (copyE c m) (copyC c m) x)]) ∧ Below w.heap.size w w' := by
  by_cases h0 : copyE c m = 0
  · by_cases h8 : (copyC c m).kind = 8
    · exact mint_8 c m x hc hx w ⟨h0, h8⟩
    · by_cases h2 : (copyC c m).kind = 2
      · exact mint_2 c m x hc hx w ⟨h0, h2⟩
      · exact mint_no c m x hc hx w ⟨h0, h8, h2⟩
  · exact mint_err c m x hc hx w h0
end Go.Proofs.Ytndjopbmaoalhaa
