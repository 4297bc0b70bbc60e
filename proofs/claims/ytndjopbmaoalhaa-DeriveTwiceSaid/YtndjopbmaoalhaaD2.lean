import Derived.Test.YtndjopbmaoalhaaD1
import Derived.Test.YtndjopbmaoalhaaR6
set_option linter.unusedVariables false
set_option linter.unusedSimpArgs false
namespace Go.Proofs.Ytndjopbmaoalhaa
open Go.RowKit Go.Shelf

set_option maxRecDepth 100000 in
set_option maxHeartbeats 2000000 in
theorem rcopy_any (c : Cap) (m : Int) (w : World) :
   Calls Try.prog 12 #[c.v, .int .i64 m] w fun e w' => e = .returned (.tuple #[(copyC c m).v, .int .i64 (copyE c m)]) ∧ Below w.heap.size w w' := by
  have hm := fun w => rfm_any c w
  have Hm := Lib.hid hm
  clear hm
  generalize hE : copyE c m = E
  generalize hC : copyC c m = C
  simp only [copyC, hE] at hC
  simp only [copyE] at hE
  have HE := Lib.hid hE
  have HC := Lib.hid hC
  clear hE hC
  obtain ⟨k, o, r, d, g, b, s, p⟩ := c
  generalize hq : (Cap.okB _) = q at *
  clear hq
  go_enter Try.func12, Try.ntmps12
  go_wp2_with fail
  refine (Hm.out _).mono ?_
  clear Hm
  rintro e W1 ⟨rfl, hb⟩
  have c1 := blk_below (blk_alloc (blk_new w (.cells #[.int .i64 k, .int .i64 o, .int .i64 r, .int .u64 d, .int .i64 g, .int .i64 b, .int .i64 s, .int .i64 p] 24)) _) hb (by simp; omega)
  have c2 := blk_below (blk_new (w.alloc (.cells #[.int .i64 k, .int .i64 o, .int .i64 r, .int .u64 d, .int .i64 g, .int .i64 b, .int .i64 s, .int .i64 p] 24)) _) hb (by simp)
  have hB : Below w.heap.size w W1 := (((Below.refl _ w).alloc (Nat.le_refl _) _).alloc (by simp) _).trans (hb.mono (by simp; omega))
  rw [World.size_alloc] at c2
  clear hb
  have e1 := blk_cell c1
  have e2 := blk_cell c2
  have f1 := blk_frozen c1
  have f2 := blk_frozen c2
  clear c1 c2
  have HB := Lib.hid hB
  clear hB
  go_wp2_with (first | (go_at_call 33; refine (rfmay_any _ _).mono ?_; rintro e w' ⟨rfl, rfl⟩) | (go_at_call 34; refine (rmask_any _ _ _).mono ?_; rintro e w' ⟨rfl, rfl⟩))
  all_goals have hB := HB.out
  all_goals have hE := HE.out
  all_goals have hC := HC.out
  all_goals clear HB HE HC
  all_goals (try simp only [Bool.not_eq_true', Bool.not_eq_false', beq_iff_eq, beq_eq_false_iff_ne, ne_eq] at *)
  all_goals (simp [*] at hE; subst hE; simp [*] at hC; subst hC)
  all_goals exact body_ret_eq (Q := fun w' => Below w.heap.size w w') rfl (by simp [results, Try.results12, go_sem, e1, e2, Cap.v, Cap.no, *]) (by go_grown)
end Go.Proofs.Ytndjopbmaoalhaa
