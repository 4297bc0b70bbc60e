import Derived.Test.YtndjopbmaoalhaaL2
import Derived.Test.YtndjopbmaoalhaaD5
import Derived.Test.YtndjopbmaoalhaaK2
set_option linter.unusedVariables false
set_option linter.unusedSimpArgs false
namespace Go.Proofs.Ytndjopbmaoalhaa
open Go.RowKit Go.Shelf
attribute [local go_sem ↓] run_eql_cap

theorem blk_set {W : World} {b i : Nat} {c : Array Value} {t : TypeId} {fr : Nat × Nat} (h : W.heap[b]? = some (.cells c t fr)) (v : Value) : (W.setCell ⟨b, i, none⟩ v).heap[b]? = some (.cells (c.setIfInBounds i v) t fr) := by
  obtain ⟨hlt, hk⟩ := Array.getElem?_eq_some_iff.1 h
  show (W.heap.modify b _)[b]? = _
  rw [Array.getElem?_eq_getElem (by rw [Array.size_modify]; exact hlt), Array.getElem_modify_self, hk]
  rfl
theorem blk_oth {W : World} {b b' i : Nat} {x : Obj} (h : W.heap[b']? = some x) (hne : ¬ b' = b) (v : Value) : (W.setCell ⟨b, i, none⟩ v).heap[b']? = some x := by
  rw [Below.heap_setCell _ _ _ _ hne]; exact h
theorem blk_set8 {W : World} {b : Nat} {a0 a1 a2 a3 a4 a5 a6 a7 v0 v1 v2 v3 v4 v5 v6 v7 : Value} {t : TypeId} (h : W.heap[b]? = some (.cells #[a0, a1, a2, a3, a4, a5, a6, a7] t (0, 0))) :
    (((((((((W.setCell ⟨b, 0, none⟩ v0).setCell ⟨b, 1, none⟩ v1).setCell ⟨b, 2, none⟩ v2).setCell ⟨b, 3, none⟩ v3).setCell ⟨b, 4, none⟩ v4).setCell ⟨b, 5, none⟩ v5).setCell ⟨b, 6, none⟩ v6).setCell ⟨b, 7, none⟩ v7)).heap[b]? = some (.cells #[v0, v1, v2, v3, v4, v5, v6, v7] t (0, 0)) := by
  have h8 := blk_set (i := 7) (blk_set (i := 6) (blk_set (i := 5) (blk_set (i := 4) (blk_set (i := 3) (blk_set (i := 2) (blk_set (i := 1) (blk_set (i := 0) h v0) v1) v2) v3) v4) v5) v6) v7
  simp only [List.setIfInBounds_toArray, List.set_cons_zero, List.set_cons_succ] at h8
  exact h8
theorem blk_oth8 {W : World} {b b' : Nat} {v0 v1 v2 v3 v4 v5 v6 v7 : Value} {x : Obj} (h : W.heap[b']? = some x) (hne : ¬ b' = b) :
    (((((((((W.setCell ⟨b, 0, none⟩ v0).setCell ⟨b, 1, none⟩ v1).setCell ⟨b, 2, none⟩ v2).setCell ⟨b, 3, none⟩ v3).setCell ⟨b, 4, none⟩ v4).setCell ⟨b, 5, none⟩ v5).setCell ⟨b, 6, none⟩ v6).setCell ⟨b, 7, none⟩ v7)).heap[b']? = some x :=
  blk_oth (blk_oth (blk_oth (blk_oth (blk_oth (blk_oth (blk_oth (blk_oth h hne v0) hne v1) hne v2) hne v3) hne v4) hne v5) hne v6) hne v7
theorem below_set8 {w W : World} {b n : Nat} {v0 v1 v2 v3 v4 v5 v6 v7 : Value} (h : Below n w W) (hb : n ≤ b) :
    Below n w (((((((((W.setCell ⟨b, 0, none⟩ v0).setCell ⟨b, 1, none⟩ v1).setCell ⟨b, 2, none⟩ v2).setCell ⟨b, 3, none⟩ v3).setCell ⟨b, 4, none⟩ v4).setCell ⟨b, 5, none⟩ v5).setCell ⟨b, 6, none⟩ v6).setCell ⟨b, 7, none⟩ v7)) :=
  (((((((h.setCell (p := ⟨b, 0, none⟩) hb v0).setCell (p := ⟨b, 1, none⟩) hb v1).setCell (p := ⟨b, 2, none⟩) hb v2).setCell (p := ⟨b, 3, none⟩) hb v3).setCell (p := ⟨b, 4, none⟩) hb v4).setCell (p := ⟨b, 5, none⟩) hb v5).setCell (p := ⟨b, 6, none⟩) hb v6).setCell (p := ⟨b, 7, none⟩) hb v7

set_option maxRecDepth 100000 in
set_option maxHeartbeats 1000000 in
theorem falls_no (c : Cap) (m : Int) (x : Nat) (hc : c.Fit) (w : World) : Calls Try.prog 10 #[c.v, .int .i64 m, .int .u64 x, .bool false] w fun e w' => e = .returned (.bool true) ∧ Below w.heap.size w w' := by
  have h1 := fun w => copy_any c m hc w
  have HFit := Lib.hid (copy_fit c m hc)
  have HF := Lib.hid (copy_falls c m)
  have HNO := Lib.hid (show copyE c m ≠ 0 → copyC c m = Cap.no from fun h => by unfold copyC; rw [if_pos h])
  generalize copyE c m = E at *
  generalize copyC c m = C at *
  have HC0 := Lib.hid hc
  clear hc
  obtain ⟨k, o, r, d, g, b, s, p⟩ := c
  obtain ⟨k1, o1, r1, d1, g1, b1, s1, p1⟩ := C
  have H1 := Lib.hid h1
  clear h1
  go_enter Try.func10, Try.ntmps10
  go_wp2_with fail
  refine (H1.out _).mono ?_
  rintro e W1 ⟨rfl, hb1⟩
  have x1 := blk_below (blk_new w _) hb1 (by simp)
  have B1 := Lib.hid (below_call (Below.refl _ w) _ hb1)
  clear hb1
  have lt1 : w.heap.size < W1.heap.size := (Array.getElem?_eq_some_iff.1 x1).1
  have X1 := Lib.hid x1
  clear x1 H1
  by_cases hE : E = 0
  · subst hE
    have hf := HF.out rfl
    have hfit := HFit.out
    simp only [fallsB, Bool.and_eq_true] at hf
    have hok := hf.1.1.1.1.1
    have hal := hf.1.1.1.1.2
    have hha := hf.1.1.1.2
    have hs0 := hf.1.1.2
    have hp0 := hf.1.2
    have hb0 := hf.2
    simp only [decide_eq_true_eq] at hs0 hp0
    subst hs0 hp0
    have M := fun w => may_any ⟨k1, o1, r1, d1, g1, b1, 0, 0⟩ hfit w
    rw [hok] at M
    have L := fun w => alike_any ⟨k, o, r, d, g, b, s, p⟩ ⟨k1, o1, r1, d1, g1, b1, 0, 0⟩ HC0.out hfit w
    rw [hal] at L
    have S := fun w => has_any r r1 w
    rw [hha] at S
    have HM := Lib.hid M
    have HL := Lib.hid L
    have HS := Lib.hid S
    have HB0 := Lib.hid hb0
    clear M L S hf hok hal hha hfit HF HFit HNO HC0 hb0
    go_wp2_with fail
    refine (HM.out _).mono ?_
    rintro e U1 ⟨rfl, hu1⟩
    have x3 := blk_below (blk_alloc X1.out _) hu1 (by simp; omega)
    have y3 := blk_below (blk_new W1 _) hu1 (by simp)
    have B3 := Lib.hid (below_call B1.out _ hu1)
    clear hu1 X1 B1
    have e3 := blk_cell x3
    have e4 := blk_cell y3
    have X3 := Lib.hid x3
    have Y3 := Lib.hid y3
    clear x3 y3
    go_wp2_with fail
    refine (HL.out _).mono ?_
    rintro e U2 ⟨rfl, hu2⟩
    have x4 := blk_below X3.out hu2 (Array.getElem?_eq_some_iff.1 X3.out).1
    have y4 := blk_below Y3.out hu2 (Array.getElem?_eq_some_iff.1 Y3.out).1
    have B4 := Lib.hid (below_call0 B3.out hu2)
    clear hu2 B3 X3 Y3 e3 e4
    have e3 := blk_cell x4
    have e4 := blk_cell y4
    clear x4 y4
    have hb0 := HB0.out
    simp only [Bool.or_eq_true, decide_eq_true_eq] at hb0
    rcases hb0 with rfl | rfl
    · go_wp2_with (first | (go_at_call 30; refine (HS.out _).mono ?_; rintro e w' ⟨rfl, rfl⟩) | (go_at_call 14; refine (awake14_any _).mono ?_; rintro e U3 ⟨rfl, hu3⟩))
      go_ret
      exact ⟨rfl, below_call0 B4.out hu3⟩
    · go_wp2_with (first | (go_at_call 30; refine (HS.out _).mono ?_; rintro e w' ⟨rfl, rfl⟩) | (go_at_call 14; refine (awake14_any _).mono ?_; rintro e U3 ⟨rfl, hu3⟩))
      all_goals go_ret
      all_goals exact ⟨rfl, below_call0 B4.out hu3⟩
  · have t1 : (E == 0) = false := by simpa using hE
    have hn := HNO.out hE
    simp only [Cap.no, Cap.mk.injEq] at hn
    obtain ⟨rfl, rfl, rfl, rfl, rfl, rfl, rfl, rfl⟩ := hn
    have he : eq8 0 0 0 0 0 0 0 0 0 0 0 0 0 0 0 0 = true := by simp [eq8]
    go_wp2_with (go_at_call 14; refine (awake14_any _).mono ?_; rintro e U3 ⟨rfl, hu3⟩)
    go_ret
    exact ⟨rfl, below_call B1.out _ hu3⟩

set_option maxRecDepth 100000 in
set_option maxHeartbeats 1000000 in
theorem falls_yes (c : Cap) (m : Int) (x : Nat) (hc : c.Fit) (hx : x < 18446744073709551616) (w : World) : Calls Try.prog 10 #[c.v, .int .i64 m, .int .u64 x, .bool true] w fun e w' => e = .returned (.bool true) ∧ Below w.heap.size w w' := by
  have h0 := fun w => copy_any c m hc w
  have h1 := fun w => mint_any c m x hc hx w
  have HFit := Lib.hid (mint_fit c m x hc hx)
  have HF := Lib.hid (mint_falls c m x)
  have HNO := Lib.hid (show mE (copyE c m) (copyC c m) x ≠ 0 → mC (copyE c m) (copyC c m) x = Cap.no from fun h => by unfold mC; rw [if_pos h])
  generalize mE (copyE c m) (copyC c m) x = E at *
  generalize mC (copyE c m) (copyC c m) x = C at *
  generalize copyE c m = E0 at *
  generalize copyC c m = C0 at *
  have HC0 := Lib.hid hc
  clear hc hx
  obtain ⟨k, o, r, d, g, b, s, p⟩ := c
  obtain ⟨k0, o0, r0, d0, g0, b0, s0, p0⟩ := C0
  obtain ⟨k1, o1, r1, d1, g1, b1, s1, p1⟩ := C
  have H0 := Lib.hid h0
  have H1 := Lib.hid h1
  clear h0 h1
  go_enter Try.func10, Try.ntmps10
  go_wp2_with fail
  refine (H0.out _).mono ?_
  rintro e W1 ⟨rfl, hb1⟩
  have x1 := blk_below (blk_new w _) hb1 (by simp)
  have B1 := Lib.hid (below_call (Below.refl _ w) _ hb1)
  clear hb1
  have lt1 : w.heap.size < W1.heap.size := (Array.getElem?_eq_some_iff.1 x1).1
  have e1 := blk_cell' x1
  have X1 := Lib.hid x1
  clear x1 H0
  go_wp2_with fail
  refine (H1.out _).mono ?_
  rintro e W2 ⟨rfl, hb2⟩
  have x2 := blk_below (blk_alloc X1.out _) hb2 (by simp; omega)
  have y2 := blk_below (blk_new W1 _) hb2 (by simp)
  have B2 := Lib.hid (below_call B1.out _ hb2)
  clear hb2 e1 X1 B1
  have lt2 : w.heap.size < W2.heap.size := (Array.getElem?_eq_some_iff.1 x2).1
  have lt3 : W1.heap.size < W2.heap.size := (Array.getElem?_eq_some_iff.1 y2).1
  have ne1 : ¬ (w.heap.size = W1.heap.size) := by omega
  have e1 := blk_cell x2
  have e2 := blk_cell y2
  have f2 := blk_frozen y2
  have X2 := Lib.hid x2
  have Y2 := Lib.hid y2
  clear x2 y2 H1
  by_cases hE : E = 0
  · subst hE
    have hf := HF.out rfl
    have hfit := HFit.out
    simp only [fallsB, Bool.and_eq_true] at hf
    have hok := hf.1.1.1.1.1
    have hal := hf.1.1.1.1.2
    have hha := hf.1.1.1.2
    have hs0 := hf.1.1.2
    have hp0 := hf.1.2
    have hb0 := hf.2
    simp only [decide_eq_true_eq] at hs0 hp0
    subst hs0 hp0
    have M := fun w => may_any ⟨k1, o1, r1, d1, g1, b1, 0, 0⟩ hfit w
    rw [hok] at M
    have L := fun w => alike_any ⟨k, o, r, d, g, b, s, p⟩ ⟨k1, o1, r1, d1, g1, b1, 0, 0⟩ HC0.out hfit w
    rw [hal] at L
    have S := fun w => has_any r r1 w
    rw [hha] at S
    have HM := Lib.hid M
    have HL := Lib.hid L
    have HS := Lib.hid S
    have HB0 := Lib.hid hb0
    clear M L S hf hok hal hha hfit HF HFit HNO HC0 hb0
    go_wp2_with fail
    refine (HM.out _).mono ?_
    rintro e U1 ⟨rfl, hu1⟩
    have x3 := blk_below (blk_oth8 X2.out ne1) hu1 (by simp [World.setCell]; omega)
    have y3 := blk_below (blk_set8 Y2.out) hu1 (by simp [World.setCell]; omega)
    have B3 := Lib.hid (below_call0 (below_set8 B2.out (Nat.le_of_lt lt1)) hu1)
    clear hu1 X2 Y2 B2 e1 e2 f2
    have e3 := blk_cell x3
    have e4 := blk_cell y3
    have X3 := Lib.hid x3
    have Y3 := Lib.hid y3
    clear x3 y3
    go_wp2_with fail
    refine (HL.out _).mono ?_
    rintro e U2 ⟨rfl, hu2⟩
    have x4 := blk_below X3.out hu2 (Array.getElem?_eq_some_iff.1 X3.out).1
    have y4 := blk_below Y3.out hu2 (Array.getElem?_eq_some_iff.1 Y3.out).1
    have B4 := Lib.hid (below_call0 B3.out hu2)
    clear hu2 B3 X3 Y3 e3 e4
    have e3 := blk_cell x4
    have e4 := blk_cell y4
    clear x4 y4
    have hb0 := HB0.out
    simp only [Bool.or_eq_true, decide_eq_true_eq] at hb0
    rcases hb0 with rfl | rfl
    · go_wp2_with (first | (go_at_call 30; refine (HS.out _).mono ?_; rintro e w' ⟨rfl, rfl⟩) | (go_at_call 14; refine (awake14_any _).mono ?_; rintro e U3 ⟨rfl, hu3⟩))
      go_ret
      exact ⟨rfl, below_call0 B4.out hu3⟩
    · go_wp2_with (first | (go_at_call 30; refine (HS.out _).mono ?_; rintro e w' ⟨rfl, rfl⟩) | (go_at_call 14; refine (awake14_any _).mono ?_; rintro e U3 ⟨rfl, hu3⟩))
      all_goals go_ret
      all_goals exact ⟨rfl, below_call0 B4.out hu3⟩
  · have t1 : (E == 0) = false := by simpa using hE
    have hn := HNO.out hE
    simp only [Cap.no, Cap.mk.injEq] at hn
    obtain ⟨rfl, rfl, rfl, rfl, rfl, rfl, rfl, rfl⟩ := hn
    have he : eq8 0 0 0 0 0 0 0 0 0 0 0 0 0 0 0 0 = true := by simp [eq8]
    go_wp2_with (go_at_call 14; refine (awake14_any _).mono ?_; rintro e U3 ⟨rfl, hu3⟩)
    go_ret
    exact ⟨rfl, below_call0 (below_set8 B2.out (Nat.le_of_lt lt1)) hu3⟩

theorem falls_walk' (cs : List Value) (h : AllIs [some .i64, some .i64, some .i64, some .u64, some .i64, some .i64, some .i64, some .i64] cs) (a : Int) (wa : (Lit.int .i64 a).wf = true) (x : Int) (wx : (Lit.int .u64 x).wf = true) (q : Bool) (w : World) :
    Calls Try.prog 10 #[.agg cs.toArray, .int .i64 a, .int .u64 x, .bool q] w fun e w' => e = .returned (.bool true) ∧ Below w.heap.size w w' := by
  obtain ⟨c, hc, e⟩ := cap_of_cells h
  rw [e]
  have : 0 ≤ x ∧ x ≤ 18446744073709551615 := by simpa [Lit.wf, IntKind.min, IntKind.max, IntKind.signed, IntKind.bits] using wx
  obtain ⟨n, rfl⟩ := Int.eq_ofNat_of_zero_le this.1
  cases q
  · exact falls_no c a n hc w
  · exact falls_yes c a n hc (by omega) w
end Go.Proofs.Ytndjopbmaoalhaa
