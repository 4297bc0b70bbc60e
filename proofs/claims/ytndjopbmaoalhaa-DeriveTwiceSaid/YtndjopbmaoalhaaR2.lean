import Derived.Test.YtndjopbmaoalhaaR1
import Derived.Test.YtndjopbmaoalhaaC7
set_option linter.unusedVariables false
set_option linter.unusedSimpArgs false
namespace Go.Proofs.Ytndjopbmaoalhaa
open Go.RowKit Go.Shelf
attribute [local go_sem ↓] run_eql_cap

set_option maxRecDepth 100000 in
set_option maxHeartbeats 1000000 in
theorem rfm07 (k o r d g b s p : Int) (w : World) (hk : k = 0 ∨ k = 7) :
    Calls Try.prog 19 #[.agg #[.int .i64 k, .int .i64 o, .int .i64 r, .int .u64 d, .int .i64 g, .int .i64 b, .int .i64 s, .int .i64 p]] w fun e w' => e = .returned (.bool (eq8 k o r d g b s p k 0 0 0 0 0 0 0)) ∧ Below w.heap.size w w' := by
  rcases hk with rfl | rfl
  all_goals
    go_enter Try.func19, Try.ntmps19
    go_wp2
    go_ret
    exact ⟨rfl, by go_grown⟩

theorem wp_name {P : Program} {c : Code} {Q : Exit → Act → World → Prop} {a : Act} {w : World} (h : ∀ W0, Hid (W0 = w) → c.wp P Q a W0) : c.wp P Q a w := h w rfl

set_option maxRecDepth 100000 in
set_option maxHeartbeats 4000000 in
theorem rfm2 (o r d g : Int) (b : Int) (s p : Int) (w : World) :
    Calls Try.prog 19 #[.agg #[.int .i64 2, .int .i64 o, .int .i64 r, .int .u64 d, .int .i64 g, .int .i64 b, .int .i64 s, .int .i64 p]] w fun e w' => e = .returned (.bool (inB 1 o 65535 && eq8 2 o r d g b s p 2 o 0 0 g b 0 0 && inB 0 b 12 && decide (0 ≤ g) && decide (g.toNat < 2 ^ b.toNat))) ∧ Below w.heap.size w w' := by
  generalize hm : (inB 1 o 65535 && eq8 2 o r d g b s p 2 o 0 0 g b 0 0 && inB 0 b 12 && decide (0 ≤ g) && decide (g.toNat < 2 ^ b.toNat)) = m
  go_enter Try.func19, Try.ntmps19
  go_wp2_with fail
  go_region
  go_wp2_with fail
  refine wp_name fun W0 hW => ?_
  have c1 : ∀ i, W0.cell? ⟨w.heap.size, i, none⟩ = #[Value.int .i64 2, .int .i64 o, .int .i64 r, .int .u64 d, .int .i64 g, .int .i64 b, .int .i64 s, .int .i64 p][i]? := by
    rw [hW.out]; exact blk_cell (blk_drew (blk_alloc (blk_new w _) _))
  have c2 : ∀ i, W0.cell? ⟨w.heap.size + 1, i, none⟩ = #[Value.int .i64 2, .int .i64 o, .int .i64 0, .int .u64 0, .int .i64 g, .int .i64 b, .int .i64 0, .int .i64 0][i]? := by
    rw [hW.out, ← World.size_alloc w (.cells #[Value.int .i64 2, .int .i64 o, .int .i64 r, .int .u64 d, .int .i64 g, .int .i64 b, .int .i64 s, .int .i64 p] 24)]; exact blk_cell (blk_drew (blk_new _ _))
  have hB : Below w.heap.size w W0 := by rw [hW.out]; exact (((Below.refl _ w).alloc (Nat.le_refl _) _).alloc (by simp) _).drew
  clear hW
  have fin : ∀ n (x : Bool) , Hid (x = m) → (Ending.returned (.bool x) = Ending.returned (.bool m) ∧ Below w.heap.size w (W0.drewN n)) := fun n x hx => ⟨by rw [hx.out], hB.trans ⟨rfl, rfl, rfl, Nat.le_refl _, fun _ _ => rfl⟩⟩
  have Fin := Lib.hid fin
  clear fin hB
  have ho := obj_any o
  cases h1 : inB 1 o 65535
  · have Hm := Lib.hid (show false = m by rw [← hm, h1]; rfl)
    clear hm
    rw [h1] at ho
    have Ho := Lib.hid ho
    clear ho
    go_quiet ((go_at_call 40; exact Calls.quiet_of_same (Ho.out _)))
    go_wp2
    go_ret
    exact Fin.out _ _ Hm
  rw [h1] at ho
  have Ho := Lib.hid ho
  clear ho
  cases h2 : eq8 2 o r d g b s p 2 o 0 0 g b 0 0
  · have Hm := Lib.hid (show false = m by rw [← hm, h1, h2]; rfl)
    clear hm
    go_quiet ((go_at_call 40; exact Calls.quiet_of_same (Ho.out _)))
    go_wp2
    go_ret
    exact Fin.out _ _ Hm
  by_cases h3 : 0 ≤ b
  · by_cases h4 : b ≤ 12
    · obtain ⟨n, rfl⟩ := Int.eq_ofNat_of_zero_le h3
      have hp := fun w => pow_any n w (by omega)
      by_cases h5 : 0 ≤ g
      · obtain ⟨v, rfl⟩ := Int.eq_ofNat_of_zero_le h5
        have Hm := Lib.hid (show decide (v < 2 ^ n) = m by rw [← hm, h1, h2]; simp [inB, h4])
        clear hm
        have Hp := Lib.hid hp
        clear hp
        generalize 2 ^ n = q at *
        go_quiet (first | (go_at_call 40; exact Calls.quiet_of_same (Ho.out _)) | (go_at_call 41; exact Calls.quiet_of_same (Hp.out _)))
        go_wp2
        go_ret
        exact Fin.out _ _ Hm
      · have Hm := Lib.hid (show false = m by rw [← hm]; simp [h5])
        have h5' : decide (0 ≤ g) = false := by simpa using h5
        clear hm h5
        go_quiet ((go_at_call 40; exact Calls.quiet_of_same (Ho.out _)))
        go_wp2
        go_ret
        exact Fin.out _ _ Hm
    · have Hm := Lib.hid (show false = m by rw [← hm]; simp [inB, h4])
      have h4' : decide (b ≤ 12) = false := by simpa using h4
      clear hm h4
      go_quiet ((go_at_call 40; exact Calls.quiet_of_same (Ho.out _)))
      go_wp2
      go_ret
      exact Fin.out _ _ Hm
  · have Hm := Lib.hid (show false = m by rw [← hm]; simp [inB, h3])
    have h3' : decide (0 ≤ b) = false := by simpa using h3
    clear hm h3
    go_quiet ((go_at_call 40; exact Calls.quiet_of_same (Ho.out _)))
    go_wp2
    go_ret
    exact Fin.out _ _ Hm
end Go.Proofs.Ytndjopbmaoalhaa
