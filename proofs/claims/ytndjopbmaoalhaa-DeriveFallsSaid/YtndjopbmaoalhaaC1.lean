import Derived.Test.YtndjopbmaoalhaaC0
set_option linter.unusedVariables false
set_option linter.unusedSimpArgs false
namespace Go.Proofs.Ytndjopbmaoalhaa
open Go.RowKit Go.Shelf
attribute [local go_sem] Oper.semAt_some

/-- the places of a word's ones -/
def onesTo (v k : Nat) : List Nat := (List.range k).filter fun i => v.testBit i
def ones (v : Nat) : List Nat := onesTo v 64
theorem onesTo_succ (v k : Nat) : onesTo v (k + 1) = onesTo v k ++ if v.testBit k then [k] else [] := by
  unfold onesTo; rw [List.range_succ, List.filter_append]; simp [List.filter_cons]
theorem onesTo_len (v k : Nat) : (onesTo v k).length ≤ k := by
  unfold onesTo; exact Nat.le_trans (List.length_filter_le _ _) (by simp)
theorem onesTo_pre (v k m : Nat) (h : k ≤ m) : onesTo v k <+: onesTo v m := by
  induction m with
  | zero => obtain rfl : k = 0 := by omega
            exact List.prefix_rfl
  | succ m ih =>
    by_cases hk : k = m + 1
    · subst hk; exact List.prefix_rfl
    · rw [onesTo_succ]; exact (ih (by omega)).trans (List.prefix_append _ _)
theorem and_bit (v k : Nat) (hv : v < 18446744073709551616) : (bits BinOp.and IntKind.u64 ((v : Int) / 2 ^ k) 1 == 1) = v.testBit k := by
  have h1 : ((v : Int) / 2 ^ k) = ((v / 2 ^ k : Nat) : Int) := by simp
  have h2 : v / 2 ^ k ≤ v := Nat.div_le_self _ _
  rw [h1, and_one_u64 _ (Int.natCast_nonneg _) (by omega)]
  rw [Nat.testBit_eq_decide_div_mod_eq]
  rw [Bool.eq_iff_iff]; simp; omega

set_option maxHeartbeats 1000000 in
theorem bits1_stops (F : Fence) (n : Nat) (hf : F.fn 47) (hro : F.round = none) (hn : 1 ≤ n) (B n₀ v : Nat) (w : World) (hB : B < n₀) (hn₀ : n₀ ≤ w.heap.size)
    (hv : v < 18446744073709551616) (hc : w.cell? ⟨B, 0, none⟩ = some (.int .u64 v)) :
    SeqStopsK F n Try.prog 47 #[.pointer (some ⟨B, 0, none⟩)] (fun i : Nat => #[.int .i64 i]) (Below n₀) (fun xs => xs = ones v) (fun pre => pre <+: ones v) 64 w := fun l J Jx W hW _ _ hY h0 => by
  have hcW : W.cell? ⟨B, 0, none⟩ = some (.int .u64 v) := (hW.cell (p := ⟨B, 0, none⟩) (by show B < w.heap.size; omega)).trans hc
  refine callsIn_of_wp Try.func47 rfl hf ?_ hro
  simp only [Try.ntmps47, List.size_toArray, List.length_cons, List.length_nil, Nat.reduceAdd, Nat.reduceSub, Array.replicate_succ, Array.replicate_zero, List.push_toArray, List.append_toArray, List.nil_append, List.cons_append]
  gi_wp2
  gi_loopw [4] (fun p wr => ∃ k : Nat, p = .int .i64 k ∧ k ≤ 64 ∧ wr.cell? ⟨B, 0, none⟩ = some (.int .u64 v) ∧ J (onesTo v k) wr) (fun p _ => 64 - (intOf p).toNat)
  case atStart => exact ⟨0, rfl, by omega, hcW, h0⟩
  case round =>
    obtain ⟨k, rfl, hk, hcr, hJ⟩ := hrel
    by_cases hlt : k < 64
    · have bitf := and_bit v k hv
      by_cases hb : v.testBit k = true
      · obtain ⟨f1, t1, a1, b1, hy1, hR1⟩ := hY (onesTo v k) k wr hJ (Nat.lt_of_le_of_lt (onesTo_len v k) hlt)
        rw [hb] at bitf
        gi_wp2
        refine hR1.mono ?_
        have e1 : onesTo v (k + 1) = onesTo v k ++ [k] := by rw [onesTo_succ, hb]; rfl
        rintro e W3 (⟨rfl, hJ3, hk3⟩ | ⟨rfl, hJx3⟩)
        · have hc3 : W3.cell? ⟨B, 0, none⟩ = some (.int .u64 v) := (hk3.cell (p := ⟨B, 0, none⟩) hB).trans hcr
          have E1 := Lib.hid e1
          clear e1 bitf
          gi_wp2
          go_roundw
          case rel => exact ⟨k + 1, by go_num, by omega, hc3, by rw [E1.out]; exact hJ3⟩
          case measure => simp [intOf]; omega
        · gi_wp2
          refine bodyPost_ret (results_none rfl _ _ _) rfl ?_
          exact ⟨⟨_, rfl⟩, .inr ⟨onesTo v (k + 1), onesTo_pre v _ _ (by omega), by rw [e1]; exact hJx3⟩⟩
      · rw [Bool.not_eq_true] at hb
        have e1 : onesTo v (k + 1) = onesTo v k := by rw [onesTo_succ, hb]; simp
        rw [hb] at bitf
        have E1 := Lib.hid e1
        clear e1
        gi_wp2
        refine ⟨fun _ h => (by cases h), ?_⟩
        gi_wp2
        go_roundw
        case rel => exact ⟨k + 1, by go_num, by omega, hcr, by rw [E1.out]; exact hJ⟩
        case measure => simp [intOf]; omega
    · obtain rfl : k = 64 := by omega
      gi_wp2
      go_end0
      exact ⟨⟨_, rfl⟩, .inl ⟨_, rfl, hJ⟩⟩
end Go.Proofs.Ytndjopbmaoalhaa
