import Derived.Test.YtndjopbmaoalhaaC1
set_option linter.unusedVariables false
set_option linter.unusedSimpArgs false
namespace Go.Proofs.Ytndjopbmaoalhaa
open Go.RowKit Go.Shelf
attribute [local go_sem] Oper.semAt_some

theorem bits_any (v : Nat) (w : World) :
    Calls Try.prog 46 #[.int .u64 v] w fun e w' => e = .returned (.func (.func 47) #[] #[.pointer (some ⟨w.heap.size, 0, none⟩)]) ∧ w' = w.alloc (.cells #[.int .u64 v] 22) := by
  go_enter Try.func46, Try.ntmps46
  go_wp2
  go_ret
  exact ⟨rfl, rfl⟩

def fitsB (v : Nat) (n : Int) : Bool := (ones v).all fun i => decide ((i : Int) < n)
def fitsIn (xs : List Nat) (n : Int) : Bool := xs.all fun i => decide ((i : Int) < n)

set_option maxRecDepth 100000 in
set_option maxHeartbeats 1000000 in
theorem fits_any (v : Nat) (n : Int) (w : World) (hv : v < 18446744073709551616) :
    Calls Try.prog 39 #[.int .u64 v, .int .i64 n] w fun e w' => e = .returned (.bool (fitsB v n)) ∧ Below w.heap.size w w' := by
  refine (callsIn_wide (n := 10)).1 ?_
  refine callsIn_of_wp_marks Try.func39 rfl trivial ?_ rfl
  simp only [Try.ntmps39, List.size_toArray, List.length_cons, List.length_nil, Nat.reduceAdd, Nat.reduceSub, Array.replicate_succ, Array.replicate_zero, List.push_toArray, List.append_toArray, List.nil_append, List.cons_append]
  gi_wp2
  refine wide_call (bits_any v _) ?_
  rintro e w' ⟨rfl, rfl⟩
  gi_wp2
  obtain ⟨W0, hW0⟩ : ∃ W0, ((w.alloc (Obj.cells #[Value.int IntKind.i64 n] 3)).alloc (Obj.cells #[Value.bool false] 4)).alloc (Obj.cells #[Value.int IntKind.u64 ↑v] 22) = W0 := ⟨_, rfl⟩
  have b1 : Boxed W0 w.heap.size 3 (.int .i64 n) := by rw [← hW0]; exact ((Boxed.new w 3 _).alloc _).alloc _
  have b2 : Boxed W0 (w.heap.size + 1) 4 (.bool false) := by rw [← hW0]; have := (Boxed.new (w.alloc (Obj.cells #[Value.int IntKind.i64 n] 3)) 4 (.bool false)).alloc (.cells #[.int .u64 v] 22); rwa [World.size_alloc] at this
  have b3 : Boxed W0 (w.heap.size + 1 + 1) 22 (.int .u64 v) := by rw [← hW0]; have := Boxed.new ((w.alloc (Obj.cells #[Value.int IntKind.i64 n] 3)).alloc (.cells #[.bool false] 4)) 22 (.int .u64 v); rwa [World.size_alloc, World.size_alloc] at this
  have hz : W0.heap.size = w.heap.size + 3 := by rw [← hW0]; simp
  have hB : Below w.heap.size w W0 := by rw [← hW0]; exact (((Below.refl _ w).alloc (Nat.le_refl _) _).alloc (by simp) _).alloc (by simp; omega) _
  rw [hW0]
  clear hW0
  refine wpIn_rangeFunc_ownG (w := W0) (n := 10) rfl (by omega) (gf := 47) (lb := #[.pointer (some ⟨w.heap.size + 1 + 1, 0, none⟩)]) rfl trivial (enters_of Try.func47 (by kernel_rfl) rfl)
    (bits1_stops Fence.wide 9 trivial rfl (by omega) (w.heap.size + 1 + 1) W0.heap.size v W0 (by omega) (by omega) hv b3.cell) belowK_t (belowK_b (by omega)) (Below.refl _ _) (fun _ => rfl)
    (fun pre W => fitsIn pre n = true ∧ Boxed W w.heap.size 3 (.int .i64 n) ∧ Boxed W (w.heap.size + 1) 4 (.bool false) ∧ Below w.heap.size w W)
    (fun c pre W => c = .ret ∧ fitsIn pre n = false ∧ Boxed W (w.heap.size + 1) 4 (.bool false) ∧ Below w.heap.size w W)
    (ownFrom_of_stay fun s A C ⟨h1, h2, h3, h4⟩ st => ⟨h1, st.boxed h2, st.boxed h3, st.below h4 (by omega) (by omega)⟩)
    (fun c => ownFrom_of_stay fun s A C ⟨h0, h1, h3, h4⟩ st => ⟨h0, h1, st.boxed h3, st.below h4 (by omega) (by omega)⟩)
    ⟨rfl, b1, b2, hB⟩
    (fun x => { tmps := #[Value.int IntKind.u64 ↑v, Value.int IntKind.i64 n, undef, Value.pointer (some { block := w.heap.size, off := 0 }), Value.pointer (some { block := w.heap.size + 1, off := 0 }), .int .i64 x, Value.int IntKind.u64 ↑v,
          Value.func (Fn.func 47) #[] #[Value.pointer (some { block := w.heap.size + 1 + 1, off := 0 })], .int .i64 x, undef, undef, undef], defers := [] }) ?assign ?body ?done ?stop
  case assign =>
    intro l x W K hK
    gi_wp2
    exact hK
  case body =>
    rintro l pre x W ⟨hp, c1, c2, hb⟩ _
    have := c1.cell
    have := c2.cell
    have := c2.frozen
    gi_wp2
    · have hx : n ≤ (x : Int) := by assumption
      exact ⟨(KeepsOthers.setCell _ _ _).from _, rfl, by simp [fitsIn]; intro _; omega, c2.set _, hb.setCell (p := ⟨w.heap.size + 1, 0, none⟩) (by simp) _⟩
    · have hx : (x : Int) < n := by assumption
      exact ⟨KeepsFrom.refl _ _, Below.refl _ _, by simp [fitsIn] at hp ⊢; exact ⟨hp, hx⟩, c1, c2, hb⟩
  case done =>
    rintro D xs W hD rfl ⟨hp, c1, c2, hb⟩ hK
    have := c1.cell
    have := c2.cell
    have := c2.frozen
    gi_wp2
    have hK' := (KeepsOthers.setCell W ⟨w.heap.size + 1, 0, none⟩ (.bool true)).same D _ hK rfl
    refine ret_marks hK' (v := .bool true) fun W' _ st => ⟨?_, ?_, ?_⟩
    · have := (st.boxed (c2.set (.bool true))).cell
      simp [results, Try.results39, go_sem, this]
    · rw [show fitsB v n = true from hp]
    · exact st.below (hb.setCell (p := ⟨w.heap.size + 1, 0, none⟩) (by simp) _) (by omega) (by omega)
  case stop =>
    rintro D c pre W hD hSp ⟨rfl, hp, c2, hb⟩ hK
    have hf : fitsB v n = false := by
      rw [Bool.eq_false_iff] at hp ⊢
      intro h
      apply hp
      simp only [fitsB, fitsIn, List.all_eq_true] at h ⊢
      exact fun i hi => h i (hSp.subset hi)
    gi_wp2
    refine ret_marks hK (v := .bool false) fun W' _ st => ⟨?_, ?_, ?_⟩
    · have := (st.boxed c2).cell
      simp [results, Try.results39, go_sem, this]
    · rw [hf]
    · exact st.below hb (by omega) (by omega)
end Go.Proofs.Ytndjopbmaoalhaa
