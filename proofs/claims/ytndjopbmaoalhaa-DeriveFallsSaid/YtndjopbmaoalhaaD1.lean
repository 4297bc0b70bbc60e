import Derived.Test.YtndjopbmaoalhaaR5
set_option linter.unusedVariables false
set_option linter.unusedSimpArgs false
namespace Go.Proofs.Ytndjopbmaoalhaa
open Go.RowKit Go.Shelf

theorem body_ret_eq {P : Program} {fn : Func} {Q : World → Prop} {a : Act} {w : World} {v : Value} (hd : a.defers = []) (hr : (results fn a.tmps).run P w = .ok v w) (hQ : Q w) :
    bodyPost P fn (fun e w' => e = .returned v ∧ Q w') .ret a w := bodyPost_ret hr hd ⟨rfl, hQ⟩

def Cap.no : Cap := ⟨0, 0, 0, 0, 0, 0, 0, 0⟩
def copyE (c : Cap) (m : Int) : Int :=
  if c.okB = false ∨ inB 0 m 7 = false then 2 else if c.kind = 0 then 10 else if c.kind = 1 ∨ c.kind = 7 then 8
  else if c.kind = 3 ∧ maskI c.rights m = 0 then 9 else 0
def copyC (c : Cap) (m : Int) : Cap :=
  if copyE c m ≠ 0 then Cap.no else if c.kind = 3 then { c with rights := maskI c.rights m, serial := 0, page := 0 }
  else if c.kind = 8 then { c with rights := maskI c.rights m } else c

set_option maxRecDepth 100000 in
set_option maxHeartbeats 2000000 in
theorem copy_any (c : Cap) (m : Int) (hc : c.Fit) (w : World) :
   Calls Try.prog 11 #[c.v, .int .i64 m] w fun e w' => e = .returned (.tuple #[(copyC c m).v, .int .i64 (copyE c m)]) ∧ Below w.heap.size w w' := by
  have hm := fun w => may_any c hc w
  have Hm := Lib.hid hm
  clear hm
  generalize hE : copyE c m = E
  generalize hC : copyC c m = C
  simp only [copyC, hE] at hC
  simp only [copyE] at hE
  have HE := Lib.hid hE
  have HC := Lib.hid hC
  clear hE hC
  obtain ⟨k, o, r, d, g, b, s, p⟩ := c
  generalize hq : (Cap.okB _) = q at *
  clear hq hc
  go_enter Try.func11, Try.ntmps11
  go_wp2_with fail
  refine (Hm.out _).mono ?_
  clear Hm
  rintro e W1 ⟨rfl, hb⟩
  have c1 := blk_below (blk_alloc (blk_new w (.cells #[.int .i64 k, .int .i64 o, .int .i64 r, .int .u64 d, .int .i64 g, .int .i64 b, .int .i64 s, .int .i64 p] 24)) _) hb (by simp; omega)
  have c2 := blk_below (blk_new (w.alloc (.cells #[.int .i64 k, .int .i64 o, .int .i64 r, .int .u64 d, .int .i64 g, .int .i64 b, .int .i64 s, .int .i64 p] 24)) _) hb (by simp)
  have hB : Below w.heap.size w W1 := (((Below.refl _ w).alloc (Nat.le_refl _) _).alloc (by simp) _).trans (hb.mono (by simp; omega))
  rw [World.size_alloc] at c2
  clear hb
  have e1 := blk_cell c1
  have e2 := blk_cell c2
  have f1 := blk_frozen c1
  have f2 := blk_frozen c2
  clear c1 c2
  have HB := Lib.hid hB
  clear hB
  go_wp2_with (first | (go_at_call 31; refine (rmay_any' _ _).mono ?_; rintro e w' ⟨rfl, rfl⟩) | (go_at_call 32; refine (mask_any _ _ _).mono ?_; rintro e w' ⟨rfl, rfl⟩))
  all_goals have hB := HB.out
  all_goals have hE := HE.out
  all_goals have hC := HC.out
  all_goals clear HB HE HC
  all_goals (try simp only [Bool.not_eq_true', Bool.not_eq_false', beq_iff_eq, beq_eq_false_iff_ne, ne_eq] at *)
  all_goals (simp [*] at hE; subst hE; simp [*] at hC; subst hC)
  all_goals exact body_ret_eq (Q := fun w' => Below w.heap.size w w') rfl (by simp [results, Try.results11, go_sem, e1, e2, Cap.v, Cap.no, *]) (by go_grown)
end Go.Proofs.Ytndjopbmaoalhaa
