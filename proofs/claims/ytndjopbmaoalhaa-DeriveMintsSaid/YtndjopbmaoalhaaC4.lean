import Derived.Test.YtndjopbmaoalhaaC3
set_option linter.unusedVariables false
set_option linter.unusedSimpArgs false
namespace Go.Proofs.Ytndjopbmaoalhaa
open Go.RowKit Go.Shelf
attribute [local go_sem ↓] run_eql_cap

theorem blk_drew {w : World} {b : Nat} {x : Obj} (h : w.heap[b]? = some x) : w.drew.heap[b]? = some x := h

def may2B (k o r d g b s p : Int) : Bool := if inB 0 b 12 && decide (0 ≤ g) && fitsB g.toNat b then eq8 k o r d g b s p k o 0 0 g b 0 0 && inB 1 o 65535 else false
theorem wrap_u64_nn (g : Int) (h0 : 0 ≤ g) (h1 : g ≤ 9223372036854775807) : IntKind.u64.wrap g = g := IntWalk.u64_in _ (by omega)

set_option maxRecDepth 100000 in
set_option maxHeartbeats 1000000 in
theorem may2 (o r d g b s p : Int) (w : World) (hg : g ≤ 9223372036854775807) :
    Calls Try.prog 18 #[.agg #[.int .i64 2, .int .i64 o, .int .i64 r, .int .u64 d, .int .i64 g, .int .i64 b, .int .i64 s, .int .i64 p]] w fun e w' => e = .returned (.bool (may2B 2 o r d g b s p)) ∧ Below w.heap.size w w' := by
  cases h1 : inB 0 b 12
  · have hm : may2B 2 o r d g b s p = false := by simp [may2B, h1]
    have HM := Lib.hid hm
    clear hm
    go_enter Try.func18, Try.ntmps18
    go_wp2_with fail
    go_region
    go_wp2_with (go_at_call 38; refine (within_any' _ _ _ _).mono ?_; rintro e w' ⟨rfl, rfl⟩)
    go_ret
    exact ⟨HM.out ▸ rfl, by go_grown⟩
  by_cases h2 : 0 ≤ g
  · have hw := wrap_u64_nn g h2 hg
    go_enter Try.func18, Try.ntmps18
    go_wp2_with fail
    go_region
    go_wp2_with (go_at_call 38; refine (within_any' _ _ _ _).mono ?_; rintro e w' ⟨rfl, rfl⟩)
    refine (fits_any' _ _ _ h2 (by omega)).mono ?_
    rintro e W1 ⟨rfl, hb⟩
    have c1 := blk_cell (blk_below (blk_drew (blk_alloc (blk_new w (.cells #[.int .i64 2, .int .i64 o, .int .i64 r, .int .u64 d, .int .i64 g, .int .i64 b, .int .i64 s, .int .i64 p] 24)) _)) hb (by simp; omega))
    have c2 := blk_cell (blk_below (blk_drew (blk_new (w.alloc (.cells #[.int .i64 2, .int .i64 o, .int .i64 r, .int .u64 d, .int .i64 g, .int .i64 b, .int .i64 s, .int .i64 p] 24)) _)) hb (by simp))
    rw [World.size_alloc] at c2
    have hB : Below w.heap.size w W1 := ((((Below.refl _ w).alloc (Nat.le_refl _) _).alloc (by simp) _).drew).trans (hb.mono (by simp; omega))
    clear hb
    cases h3 : fitsB g.toNat b
    · have HM := Lib.hid (show may2B 2 o r d g b s p = false by simp [may2B, h3])
      go_wp2
      go_ret
      exact ⟨HM.out ▸ rfl, hB⟩
    · cases h4 : eq8 2 o r d g b s p 2 o 0 0 g b 0 0
      · have HM := Lib.hid (show may2B 2 o r d g b s p = false by simp [may2B, h4])
        go_wp2
        go_ret
        exact ⟨HM.out ▸ rfl, hB⟩
      · have HM := Lib.hid (show may2B 2 o r d g b s p = inB 1 o 65535 by simp [may2B, h4, h1, h2, h3])
        go_wp2_with (go_at_call 38; refine (within_any' _ _ _ _).mono ?_; rintro e w' ⟨rfl, rfl⟩)
        go_ret
        exact ⟨HM.out ▸ rfl, hB⟩
  · have hm : may2B 2 o r d g b s p = false := by simp [may2B, h2]
    have HM := Lib.hid hm
    clear hm
    go_enter Try.func18, Try.ntmps18
    go_wp2_with fail
    go_region
    go_wp2_with (go_at_call 38; refine (within_any' _ _ _ _).mono ?_; rintro e w' ⟨rfl, rfl⟩)
    go_ret
    exact ⟨HM.out ▸ rfl, by go_grown⟩
end Go.Proofs.Ytndjopbmaoalhaa
