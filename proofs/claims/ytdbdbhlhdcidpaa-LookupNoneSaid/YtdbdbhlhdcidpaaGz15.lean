/- LookupX: the room. LookupX: awake, LookupNone. Laws that the statement's proof leans on. -/
import Derived.Test.YtdbdbhlhdcidpaaGz4
import Derived.Test.YtdbdbhlhdcidpaaGz14
import Derived.Test.YtdbdbhlhdcidpaaGz6
/- LookupX: the room. -/
-- GU
set_option linter.unusedVariables false
set_option linter.unusedSimpArgs false
namespace Go.Proofs.Ytdbdbhlhdcidpaa
open Go.RowKit
set_option maxRecDepth 20000

def sAt : Nat → Int | 0 => 0 | 1 => 1 | 2 => 2 | 3 => 4 | _ => 8
def sA : Nat → Ar.ArT | 0 => Ar.ar0 16 | k + 1 => (Ar.addD (sA k) 2 ((k + 1 : Nat) : Int) (sAt k)).2
def sD : Nat → SD | 0 => [] | k + 1 => (addN (sD k) (sAt k + 1) ((2 ^ (k + 1) : Nat) : Int)).2
theorem sA_step : ∀ {k : Nat}, k < 4 → Ar.addD (sA k) 2 ((k + 1 : Nat) : Int) (sAt k) = ((sAt k + 1, 0), sA (k + 1))
  | 0, _ => rfl | 1, _ => rfl | 2, _ => rfl | 3, _ => rfl | n + 4, h => absurd h (by omega)
theorem sD_step : ∀ {k : Nat}, k < 4 → addN (sD k) (sAt k + 1) ((2 ^ (k + 1) : Nat) : Int) = (0, sD (k + 1)) ∧ (sD k).length = k
  | 0, _ => ⟨rfl, rfl⟩ | 1, _ => ⟨rfl, rfl⟩ | 2, _ => ⟨rfl, rfl⟩ | 3, _ => ⟨rfl, rfl⟩ | n + 4, h => absurd h (by omega)
theorem sAt_step : ∀ {k : Nat}, k < 4 → (List.toArray [Value.int .i64 1, .int .i64 2, .int .i64 4, .int .i64 8])[0 + k * 1]? = some (.int .i64 (sAt (k + 1))) ∧ 0 ≤ sAt k ∧ sAt k ≤ 8 ∧ IntKind.i64.wrap (1 * 2 ^ (k + 1)) = ((2 ^ (k + 1) : Nat) : Int)
  | 0, _ => ⟨rfl, by decide, by decide, by decide⟩ | 1, _ => ⟨rfl, by decide, by decide, by decide⟩ | 2, _ => ⟨rfl, by decide, by decide, by decide⟩ | 3, _ => ⟨rfl, by decide, by decide, by decide⟩ | n + 4, h => absurd h (by omega)
def A5 : Ar.ArT := (Ar.addD (sA 4) 9 0 8).2
def D5 : SD := (addN (sD 4) 9 3).2
theorem aw_a5 : Ar.addD (sA 4) 9 0 8 = ((9, 0), A5) := rfl
theorem aw_d5 : addN (sD 4) 9 3 = (0, D5) := rfl
theorem rad5 : Rad A5 := by
  have h : (A5.os.all fun o => decide (o.kd = 2 → 1 ≤ o.sz ∧ o.sz ≤ 4)) = true := by decide +kernel
  rw [List.all_eq_true] at h
  intro o ho hk
  exact of_decide_eq_true (h o ho) hk
theorem len5 : D5.length = 5 := rfl
abbrev PutT := slT × CapT
abbrev encP (p : PutT) : List Value := .int .i64 p.1.1 :: .int .i64 p.1.2 :: encC p.2
def putsD (D : SD) (ps : List PutT) : SD := ps.foldl (fun D p => (setD D p.1 p.2).2) D
theorem puts_snoc (D : SD) (ps : List PutT) (p : PutT) : putsD D (ps ++ [p]) = (setD (putsD D ps) p.1 p.2).2 := by unfold putsD; rw [List.foldl_append]; rfl
theorem set_len (D : SD) (s : slT) (c : CapT) : (setD D s c).2.length = D.length := by
  unfold setD
  split
  · split
    · simp [putD]
    · rfl
  · rfl
theorem set_gu {D : SD} (h : GuD D) (s : slT) {c : CapT} (hc : c.guard ≤ 9223372036854775807) : GuD (setD D s c).2 := by
  unfold setD
  split
  · split
    · intro x hx y hy
      obtain ⟨z, hz, rfl⟩ := List.mem_map.1 hx
      split at hy
      · rcases List.mem_or_eq_of_mem_set hy with hy | rfl
        · exact h z hz y hy
        · exact hc
      · exact h z hz y hy
    · exact h
  · exact h
def GdP (p : PutT) : Prop := p.2.guard ≤ 9223372036854775807
theorem puts_facts {D : SD} (hD : GuD D) : ∀ (ps : List PutT), (∀ p, p ∈ ps → GdP p) → (putsD D ps).length = D.length ∧ GuD (putsD D ps) := by
  intro ps
  induction ps generalizing D with
  | nil => exact fun _ => ⟨rfl, hD⟩
  | cons p ps ih =>
    intro h
    obtain ⟨h1, h2⟩ := ih (set_gu hD p.1 (h p (.head _))) fun q hq => h q (.tail _ hq)
    exact ⟨by show (putsD (setD D p.1 p.2).2 ps).length = _; rw [h1, set_len], h2⟩
theorem gu5 : GuD D5 := by
  have h : (D5.all fun x => x.2.all fun c => decide (c.guard ≤ 9223372036854775807)) = true := by decide +kernel
  rw [List.all_eq_true] at h
  intro x hx c hc
  have := h x hx
  rw [List.all_eq_true] at this
  exact of_decide_eq_true (this c hc)
set_option pp.deepTerms false
set_option pp.deepTerms.threshold 4
set_option maxHeartbeats 400000
theorem room_any (a0 : Option Addr) (n cap : Nat) (ps : List PutT) (l : List Chunk) (hin : InRows l a0 n 10 (ps.map encP)) (hsz : ps.length = n) (hn40 : n ≤ 40) (hgd : ∀ p, p ∈ ps → GdP p) :
    Fn Try.prog 8 [.slice a0 n cap] l fun v l' => ∃ bs ba bv bw lq la lv lw, v = .tuple #[.pointer (some ⟨bs, 0, none⟩), .pointer (some ⟨ba, 0, none⟩), .pointer (some ⟨bv, 0, none⟩), .pointer (some ⟨bw, 0, none⟩)] ∧
      IsS bs (putsD D5 ps) lq ∧ Ar.IsA ba A5 la ∧ IsR bv (putsD D5 ps) lv ∧ Ar.IsR bw A5 lw ∧ l' = lq ++ (la ++ (lv ++ (lw ++ l))) := by
  refine fn_of_body Try.func8 rfl rfl fun E => ?_
  simp only [argF, Try.ntmps8]
  repeat (first | (show OpsS _ _ _ _ _ _ (_ :: _) _ _ _; first | refine ozq ?_ | refine ozs ?_ | refine ozs0 ?_ | refine ozt ?_ | refine ozf ?_ | refine t_hu rfl rfl rfl rfl rfl rfl ?_) | refine c_seq ?_ | refine p_then ?_ | refine c_region ?_ | refine s_nil ?_ | refine c_cond_t rfl ?_ | refine c_cond_f rfl ?_ | refine c_block ?_ | refine c_skip ?_ | refine c_exit ?_ | refine p_block ?_ | refine p_then_exit ?_ | refine p_block_here ?_ | refine p_block_on rfl ?_ | refine c_ret ?_ | refine p_then_ret ?_ | refine p_block_ret ?_ | refine p_end ?_ | refine c_if_t rfl (by omega) ?_ | refine c_if_f rfl (by omega) ?_)
  refine t_e (e_call0 rfl rfl (new_any _)) rfl rfl rfl ?_
  rintro _ _ ⟨bs, rfl, lq, hq, rfl⟩
  repeat (first | (show OpsS _ _ _ _ _ _ (_ :: _) _ _ _; first | refine ozq ?_ | refine ozs ?_ | refine ozs0 ?_ | refine ozt ?_ | refine ozf ?_ | refine t_hu rfl rfl rfl rfl rfl rfl ?_) | refine c_seq ?_ | refine p_then ?_ | refine c_region ?_ | refine s_nil ?_ | refine c_cond_t rfl ?_ | refine c_cond_f rfl ?_ | refine c_block ?_ | refine c_skip ?_ | refine c_exit ?_ | refine p_block ?_ | refine p_then_exit ?_ | refine p_block_here ?_ | refine p_block_on rfl ?_ | refine c_ret ?_ | refine p_then_ret ?_ | refine p_block_ret ?_ | refine p_end ?_ | refine c_if_t rfl (by omega) ?_ | refine c_if_f rfl (by omega) ?_)
  (first | refine t_e (e_box1 rfl rfl) rfl rfl rfl ?_ | refine t_e (e_boxA rfl) rfl rfl rfl ?_); rintro _ _ ⟨bx, _, rfl, rfl⟩
  refine s_keep (.drop .refl) ?_
  repeat (first | (show OpsS _ _ _ _ _ _ (_ :: _) _ _ _; first | refine ozq ?_ | refine ozs ?_ | refine ozs0 ?_ | refine ozt ?_ | refine ozf ?_ | refine t_hu rfl rfl rfl rfl rfl rfl ?_) | refine c_seq ?_ | refine p_then ?_ | refine c_region ?_ | refine s_nil ?_ | refine c_cond_t rfl ?_ | refine c_cond_f rfl ?_ | refine c_block ?_ | refine c_skip ?_ | refine c_exit ?_ | refine p_block ?_ | refine p_then_exit ?_ | refine p_block_here ?_ | refine p_block_on rfl ?_ | refine c_ret ?_ | refine p_then_ret ?_ | refine p_block_ret ?_ | refine p_end ?_ | refine c_if_t rfl (by omega) ?_ | refine c_if_f rfl (by omega) ?_)
  refine t_e (e_call0 rfl rfl (Ar.new_any 16 _)) rfl rfl rfl ?_
  rintro _ _ (⟨hf, _⟩ | ⟨_, ba, la, rfl, hA, rfl⟩)
  · exact absurd ⟨by decide, by decide⟩ hf
  repeat (first | (show OpsS _ _ _ _ _ _ (_ :: _) _ _ _; first | refine ozq ?_ | refine ozs ?_ | refine ozs0 ?_ | refine ozt ?_ | refine ozf ?_ | refine t_hu rfl rfl rfl rfl rfl rfl ?_) | refine c_seq ?_ | refine p_then ?_ | refine c_region ?_ | refine s_nil ?_ | refine c_cond_t rfl ?_ | refine c_cond_f rfl ?_ | refine c_block ?_ | refine c_skip ?_ | refine c_exit ?_ | refine p_block ?_ | refine p_then_exit ?_ | refine p_block_here ?_ | refine p_block_on rfl ?_ | refine c_ret ?_ | refine p_then_ret ?_ | refine p_block_ret ?_ | refine p_end ?_ | refine c_if_t rfl (by omega) ?_ | refine c_if_f rfl (by omega) ?_)
  (first | refine t_e (e_box1 rfl rfl) rfl rfl rfl ?_ | refine t_e (e_boxA rfl) rfl rfl rfl ?_); rintro _ _ ⟨bv, _, rfl, rfl⟩
  repeat (first | (show OpsS _ _ _ _ _ _ (_ :: _) _ _ _; first | refine ozq ?_ | refine ozs ?_ | refine ozs0 ?_ | refine ozt ?_ | refine ozf ?_ | refine t_hu rfl rfl rfl rfl rfl rfl ?_) | refine c_seq ?_ | refine p_then ?_ | refine c_region ?_ | refine s_nil ?_ | refine c_cond_t rfl ?_ | refine c_cond_f rfl ?_ | refine c_block ?_ | refine c_skip ?_ | refine c_exit ?_ | refine p_block ?_ | refine p_then_exit ?_ | refine p_block_here ?_ | refine p_block_on rfl ?_ | refine c_ret ?_ | refine p_then_ret ?_ | refine p_block_ret ?_ | refine p_end ?_ | refine c_if_t rfl (by omega) ?_ | refine c_if_f rfl (by omega) ?_)
  (first | refine t_e (e_box1 rfl rfl) rfl rfl rfl ?_ | refine t_e (e_boxA rfl) rfl rfl rfl ?_); rintro _ _ ⟨by', _, rfl, rfl⟩
  refine s_keep (.drop .refl) ?_
  repeat (first | (show OpsS _ _ _ _ _ _ (_ :: _) _ _ _; first | refine ozq ?_ | refine ozs ?_ | refine ozs0 ?_ | refine ozt ?_ | refine ozf ?_ | refine t_hu rfl rfl rfl rfl rfl rfl ?_) | refine c_seq ?_ | refine p_then ?_ | refine c_region ?_ | refine s_nil ?_ | refine c_cond_t rfl ?_ | refine c_cond_f rfl ?_ | refine c_block ?_ | refine c_skip ?_ | refine c_exit ?_ | refine p_block ?_ | refine p_then_exit ?_ | refine p_block_here ?_ | refine p_block_on rfl ?_ | refine c_ret ?_ | refine p_then_ret ?_ | refine p_block_ret ?_ | refine p_end ?_ | refine c_if_t rfl (by omega) ?_ | refine c_if_f rfl (by omega) ?_)
  refine t_e (e_call0 rfl rfl (Ar.rnew_any 16 _)) rfl rfl rfl ?_
  rintro _ _ (⟨hf, _⟩ | ⟨_, bw, lw, rfl, hw, rfl⟩)
  · exact absurd ⟨by decide, by decide⟩ hf
  have hv : IsR bv [] [rxC bv (.slice none 0 0)] := ⟨[], _, [], rfl, rfl, OwnSl.nil _ _, List.Pairwise.nil, fun x hx => by cases hx⟩
  repeat (first | (show OpsS _ _ _ _ _ _ (_ :: _) _ _ _; first | refine ozq ?_ | refine ozs ?_ | refine ozs0 ?_ | refine ozt ?_ | refine ozf ?_ | refine t_hu rfl rfl rfl rfl rfl rfl ?_) | refine c_seq ?_ | refine p_then ?_ | refine c_region ?_ | refine s_nil ?_ | refine c_cond_t rfl ?_ | refine c_cond_f rfl ?_ | refine c_block ?_ | refine c_skip ?_ | refine c_exit ?_ | refine p_block ?_ | refine p_then_exit ?_ | refine p_block_here ?_ | refine p_block_on rfl ?_ | refine c_ret ?_ | refine p_then_ret ?_ | refine p_block_ret ?_ | refine p_end ?_ | refine c_if_t rfl (by omega) ?_ | refine c_if_f rfl (by omega) ?_)
  refine k_loop (α := Nat × List Chunk × List Chunk × List Chunk × List Chunk) (fun x => [(0, .slice a0 n cap), (6, .pointer (some ⟨bs, 0, none⟩)), (7, .pointer (some ⟨ba, 0, none⟩)), (8, .pointer (some ⟨bv, 0, none⟩)), (9, .pointer (some ⟨bw, 0, none⟩)), (10, .int .i64 (sAt x.1)), (11, .int .i64 ((x.1 + 1 : Nat) : Int))]) (fun x => x.2.1 ++ (x.2.2.1 ++ (x.2.2.2.1 ++ (x.2.2.2.2 ++ l))))
    (fun x => x.1 ≤ 4 ∧ IsS bs (sD x.1) x.2.1 ∧ Ar.IsA ba (sA x.1) x.2.2.1 ∧ IsR bv (sD x.1) x.2.2.2.1 ∧ Ar.IsR bw (sA x.1) x.2.2.2.2) (fun x => 4 - x.1) (0, lq, la, [rxC bv (.slice none 0 0)], lw) ⟨Nat.zero_le _, hq, hA, hv, hw⟩ ⟨rfl, rfl, rfl, rfl, rfl, rfl, rfl, trivial⟩ (keep_ac (A := lw ++ (rxC bv (.slice none 0 0) :: (la ++ (lq ++ l)))) []) ?_
  clear hq hA hv hw
  rintro ⟨k, lq, la, lv, lw⟩ ⟨hk, hq, hA, hv, hw⟩
  simp only at hk hq hA hv hw ⊢
  by_cases hlt : k < 4
  · obtain ⟨t1, t2, t3, t4⟩ := sAt_step hlt
    obtain ⟨d1, d2⟩ := sD_step hlt
    have H1 := Fn.mvP (fun A => lq ++ (A ++ (lv ++ (lw ++ l)))) (Ar.add_any ba (sA k) la hA 2 ((k + 1 : Nat) : Int) (sAt k) (lq ++ (lv ++ (lw ++ l))))
    have H2 := fun la => Fn.mvP (fun A => lq ++ (la ++ (lv ++ (A ++ l)))) (Ar.radd_any bw (sA k) lw hw 2 ((k + 1 : Nat) : Int) (sAt k) (lq ++ (la ++ (lv ++ l))))
    have H3 := fun la lw => Fn.mvP (fun A => A ++ (la ++ (lv ++ (lw ++ l)))) (add_any bs (sD k) lq hq (sAt k + 1) ((2 ^ (k + 1) : Nat) : Int) (la ++ (lv ++ (lw ++ l))))
    have H4 := fun lq la lw => Fn.mvP (fun A => lq ++ (la ++ (A ++ (lw ++ l)))) (radd_any bv (sD k) lv hv (by omega) (sAt k + 1) ((2 ^ (k + 1) : Nat) : Int) (lq ++ (la ++ (lw ++ l))))
    rw [sA_step hlt] at H1 H2
    rw [d1] at H3 H4
    clear hq hA hv hw
    repeat (first | (show OpsS _ _ _ _ _ _ (_ :: _) _ _ _; first | refine ozq ?_ | refine ozs ?_ | refine ozs0 ?_ | refine ozt ?_ | refine ozf ?_ | refine t_hu rfl rfl rfl rfl rfl rfl ?_) | refine c_seq ?_ | refine p_then ?_ | refine c_region ?_ | refine s_nil ?_ | refine c_cond_t rfl ?_ | refine c_cond_f rfl ?_ | refine c_block ?_ | refine c_skip ?_ | refine c_exit ?_ | refine p_block ?_ | refine p_then_exit ?_ | refine p_block_here ?_ | refine p_block_on rfl ?_ | refine c_ret ?_ | refine p_then_ret ?_ | refine p_block_ret ?_ | refine p_end ?_ | refine c_if_t rfl (by omega) ?_ | refine c_if_f rfl (by omega) ?_)
    refine t_eh (e_call rfl rfl H1) rfl rfl rfl ?_
    rintro _ _ ⟨rfl, la, hA, rfl⟩
    repeat (first | (show OpsS _ _ _ _ _ _ (_ :: _) _ _ _; first | refine ozq ?_ | refine ozs ?_ | refine ozs0 ?_ | refine ozt ?_ | refine ozf ?_ | refine t_hu rfl rfl rfl rfl rfl rfl ?_) | refine c_seq ?_ | refine p_then ?_ | refine c_region ?_ | refine s_nil ?_ | refine c_cond_t rfl ?_ | refine c_cond_f rfl ?_ | refine c_block ?_ | refine c_skip ?_ | refine c_exit ?_ | refine p_block ?_ | refine p_then_exit ?_ | refine p_block_here ?_ | refine p_block_on rfl ?_ | refine c_ret ?_ | refine p_then_ret ?_ | refine p_block_ret ?_ | refine p_end ?_ | refine c_if_t rfl (by omega) ?_ | refine c_if_f rfl (by omega) ?_)
    refine t_eh (e_call rfl rfl (H2 la)) rfl rfl rfl ?_
    rintro _ _ ⟨rfl, lw, hw, rfl⟩
    repeat (first | (show OpsS _ _ _ _ _ _ (_ :: _) _ _ _; first | refine ozq ?_ | refine ozs ?_ | refine ozs0 ?_ | refine ozt ?_ | refine ozf ?_ | refine t_hu rfl rfl rfl rfl rfl rfl ?_) | refine c_seq ?_ | refine p_then ?_ | refine c_region ?_ | refine s_nil ?_ | refine c_cond_t rfl ?_ | refine c_cond_f rfl ?_ | refine c_block ?_ | refine c_skip ?_ | refine c_exit ?_ | refine p_block ?_ | refine p_then_exit ?_ | refine p_block_here ?_ | refine p_block_on rfl ?_ | refine c_ret ?_ | refine p_then_ret ?_ | refine p_block_ret ?_ | refine p_end ?_ | refine c_if_t rfl (by omega) ?_ | refine c_if_f rfl (by omega) ?_)
    refine t_q (q_shl (n := k + 1) (i := 1) rfl rfl (by show k + 1 ≤ 64; omega)) rfl rfl rfl ?_
    rw [t4]
    repeat (first | (show OpsS _ _ _ _ _ _ (_ :: _) _ _ _; first | refine ozq ?_ | refine ozs ?_ | refine ozs0 ?_ | refine ozt ?_ | refine ozf ?_ | refine t_hu rfl rfl rfl rfl rfl rfl ?_) | refine c_seq ?_ | refine p_then ?_ | refine c_region ?_ | refine s_nil ?_ | refine c_cond_t rfl ?_ | refine c_cond_f rfl ?_ | refine c_block ?_ | refine c_skip ?_ | refine c_exit ?_ | refine p_block ?_ | refine p_then_exit ?_ | refine p_block_here ?_ | refine p_block_on rfl ?_ | refine c_ret ?_ | refine p_then_ret ?_ | refine p_block_ret ?_ | refine p_end ?_ | refine c_if_t rfl (by omega) ?_ | refine c_if_f rfl (by omega) ?_)
    refine t_eh (e_call rfl rfl (H3 la lw)) rfl rfl rfl ?_
    rintro _ _ ⟨rfl, lq, hq, rfl⟩
    repeat (first | (show OpsS _ _ _ _ _ _ (_ :: _) _ _ _; first | refine ozq ?_ | refine ozs ?_ | refine ozs0 ?_ | refine ozt ?_ | refine ozf ?_ | refine t_hu rfl rfl rfl rfl rfl rfl ?_) | refine c_seq ?_ | refine p_then ?_ | refine c_region ?_ | refine s_nil ?_ | refine c_cond_t rfl ?_ | refine c_cond_f rfl ?_ | refine c_block ?_ | refine c_skip ?_ | refine c_exit ?_ | refine p_block ?_ | refine p_then_exit ?_ | refine p_block_here ?_ | refine p_block_on rfl ?_ | refine c_ret ?_ | refine p_then_ret ?_ | refine p_block_ret ?_ | refine p_end ?_ | refine c_if_t rfl (by omega) ?_ | refine c_if_f rfl (by omega) ?_)
    refine t_q (q_shl (n := k + 1) (i := 1) rfl rfl (by show k + 1 ≤ 64; omega)) rfl rfl rfl ?_
    rw [t4]
    repeat (first | (show OpsS _ _ _ _ _ _ (_ :: _) _ _ _; first | refine ozq ?_ | refine ozs ?_ | refine ozs0 ?_ | refine ozt ?_ | refine ozf ?_ | refine t_hu rfl rfl rfl rfl rfl rfl ?_) | refine c_seq ?_ | refine p_then ?_ | refine c_region ?_ | refine s_nil ?_ | refine c_cond_t rfl ?_ | refine c_cond_f rfl ?_ | refine c_block ?_ | refine c_skip ?_ | refine c_exit ?_ | refine p_block ?_ | refine p_then_exit ?_ | refine p_block_here ?_ | refine p_block_on rfl ?_ | refine c_ret ?_ | refine p_then_ret ?_ | refine p_block_ret ?_ | refine p_end ?_ | refine c_if_t rfl (by omega) ?_ | refine c_if_f rfl (by omega) ?_)
    refine t_eh (e_call rfl rfl (H4 lq la lw)) rfl rfl rfl ?_
    rintro _ _ ⟨rfl, lv, hv, rfl⟩
    repeat (first | (show OpsS _ _ _ _ _ _ (_ :: _) _ _ _; first | refine ozq ?_ | refine ozs ?_ | refine ozs0 ?_ | refine ozt ?_ | refine ozf ?_ | refine t_hu rfl rfl rfl rfl rfl rfl ?_) | refine c_seq ?_ | refine p_then ?_ | refine c_region ?_ | refine s_nil ?_ | refine c_cond_t rfl ?_ | refine c_cond_f rfl ?_ | refine c_block ?_ | refine c_skip ?_ | refine c_exit ?_ | refine p_block ?_ | refine p_then_exit ?_ | refine p_block_here ?_ | refine p_block_on rfl ?_ | refine c_ret ?_ | refine p_then_ret ?_ | refine p_block_ret ?_ | refine p_end ?_ | refine c_if_t rfl (by omega) ?_ | refine c_if_f rfl (by omega) ?_)
    refine t_e (e_litN (z0 := .int .i64 0) (cs := [.int .i64 1, .int .i64 2, .int .i64 4, .int .i64 8]) rfl (by decide) (by decide) rfl) rfl rfl rfl ?_
    rintro _ _ ⟨bl, _, rfl, rfl⟩
    repeat (first | (show OpsS _ _ _ _ _ _ (_ :: _) _ _ _; first | refine ozq ?_ | refine ozs ?_ | refine ozs0 ?_ | refine ozt ?_ | refine ozf ?_ | refine t_hu rfl rfl rfl rfl rfl rfl ?_) | refine c_seq ?_ | refine p_then ?_ | refine c_region ?_ | refine s_nil ?_ | refine c_cond_t rfl ?_ | refine c_cond_f rfl ?_ | refine c_block ?_ | refine c_skip ?_ | refine c_exit ?_ | refine p_block ?_ | refine p_then_exit ?_ | refine p_block_here ?_ | refine p_block_on rfl ?_ | refine c_ret ?_ | refine p_then_ret ?_ | refine p_block_ret ?_ | refine p_end ?_ | refine c_if_t rfl (by omega) ?_ | refine c_if_f rfl (by omega) ?_)
    rw [show ((k + 1 : Nat) : Int) - 1 = (k : Nat) by omega]
    repeat (first | (show OpsS _ _ _ _ _ _ (_ :: _) _ _ _; first | refine ozq ?_ | refine ozs ?_ | refine ozs0 ?_ | refine ozt ?_ | refine ozf ?_ | refine t_hu rfl rfl rfl rfl rfl rfl ?_) | refine c_seq ?_ | refine p_then ?_ | refine c_region ?_ | refine s_nil ?_ | refine c_cond_t rfl ?_ | refine c_cond_f rfl ?_ | refine c_block ?_ | refine c_skip ?_ | refine c_exit ?_ | refine p_block ?_ | refine p_then_exit ?_ | refine p_block_here ?_ | refine p_block_on rfl ?_ | refine c_ret ?_ | refine p_then_ret ?_ | refine p_block_ret ?_ | refine p_end ?_ | refine c_if_t rfl (by omega) ?_ | refine c_if_f rfl (by omega) ?_)
    refine t_q (q_load rfl (.head _) t1) rfl rfl rfl ?_
    repeat (first | (show OpsS _ _ _ _ _ _ (_ :: _) _ _ _; first | refine ozq ?_ | refine ozs ?_ | refine ozs0 ?_ | refine ozt ?_ | refine ozf ?_ | refine t_hu rfl rfl rfl rfl rfl rfl ?_) | refine c_seq ?_ | refine p_then ?_ | refine c_region ?_ | refine s_nil ?_ | refine c_cond_t rfl ?_ | refine c_cond_f rfl ?_ | refine c_block ?_ | refine c_skip ?_ | refine c_exit ?_ | refine p_block ?_ | refine p_then_exit ?_ | refine p_block_here ?_ | refine p_block_on rfl ?_ | refine c_ret ?_ | refine p_then_ret ?_ | refine p_block_ret ?_ | refine p_end ?_ | refine c_if_t rfl (by omega) ?_ | refine c_if_f rfl (by omega) ?_)
    exact k_next (k + 1, lq, la, lv, lw) ⟨by simp only; omega, hq, hA, hv, hw⟩ (by simp only; omega) ⟨rfl, rfl, rfl, rfl, rfl, rfl, rfl, trivial⟩ (.drop .refl)
  obtain rfl : k = 4 := by omega
  repeat (first | (show OpsS _ _ _ _ _ _ (_ :: _) _ _ _; first | refine ozq ?_ | refine ozs ?_ | refine ozs0 ?_ | refine ozt ?_ | refine ozf ?_ | refine t_hu rfl rfl rfl rfl rfl rfl ?_) | refine c_seq ?_ | refine p_then ?_ | refine c_region ?_ | refine s_nil ?_ | refine c_cond_t rfl ?_ | refine c_cond_f rfl ?_ | refine c_block ?_ | refine c_skip ?_ | refine c_exit ?_ | refine p_block ?_ | refine p_then_exit ?_ | refine p_block_here ?_ | refine p_block_on rfl ?_ | refine c_ret ?_ | refine p_then_ret ?_ | refine p_block_ret ?_ | refine p_end ?_ | refine c_if_t rfl (by omega) ?_ | refine c_if_f rfl (by omega) ?_)
  have H1 := Fn.mvP (fun A => lq ++ (A ++ (lv ++ (lw ++ l)))) (Ar.add_any ba (sA 4) la hA 9 0 8 (lq ++ (lv ++ (lw ++ l))))
  have H2 := fun la => Fn.mvP (fun A => lq ++ (la ++ (lv ++ (A ++ l)))) (Ar.radd_any bw (sA 4) lw hw 9 0 8 (lq ++ (la ++ (lv ++ l))))
  have H3 := fun la lw => Fn.mvP (fun A => A ++ (la ++ (lv ++ (lw ++ l)))) (add_any bs (sD 4) lq hq 9 3 (la ++ (lv ++ (lw ++ l))))
  have H4 := fun lq la lw => Fn.mvP (fun A => lq ++ (la ++ (A ++ (lw ++ l)))) (radd_any bv (sD 4) lv hv (by show 4 ≤ _; omega) 9 3 (lq ++ (la ++ (lw ++ l))))
  rw [aw_a5] at H1 H2
  rw [aw_d5] at H3 H4
  clear hq hA hv hw
  refine t_eh (e_call rfl rfl H1) rfl rfl rfl ?_
  rintro _ _ ⟨rfl, la, hA, rfl⟩
  repeat (first | (show OpsS _ _ _ _ _ _ (_ :: _) _ _ _; first | refine ozq ?_ | refine ozs ?_ | refine ozs0 ?_ | refine ozt ?_ | refine ozf ?_ | refine t_hu rfl rfl rfl rfl rfl rfl ?_) | refine c_seq ?_ | refine p_then ?_ | refine c_region ?_ | refine s_nil ?_ | refine c_cond_t rfl ?_ | refine c_cond_f rfl ?_ | refine c_block ?_ | refine c_skip ?_ | refine c_exit ?_ | refine p_block ?_ | refine p_then_exit ?_ | refine p_block_here ?_ | refine p_block_on rfl ?_ | refine c_ret ?_ | refine p_then_ret ?_ | refine p_block_ret ?_ | refine p_end ?_ | refine c_if_t rfl (by omega) ?_ | refine c_if_f rfl (by omega) ?_)
  refine t_eh (e_call rfl rfl (H2 la)) rfl rfl rfl ?_
  rintro _ _ ⟨rfl, lw, hw, rfl⟩
  repeat (first | (show OpsS _ _ _ _ _ _ (_ :: _) _ _ _; first | refine ozq ?_ | refine ozs ?_ | refine ozs0 ?_ | refine ozt ?_ | refine ozf ?_ | refine t_hu rfl rfl rfl rfl rfl rfl ?_) | refine c_seq ?_ | refine p_then ?_ | refine c_region ?_ | refine s_nil ?_ | refine c_cond_t rfl ?_ | refine c_cond_f rfl ?_ | refine c_block ?_ | refine c_skip ?_ | refine c_exit ?_ | refine p_block ?_ | refine p_then_exit ?_ | refine p_block_here ?_ | refine p_block_on rfl ?_ | refine c_ret ?_ | refine p_then_ret ?_ | refine p_block_ret ?_ | refine p_end ?_ | refine c_if_t rfl (by omega) ?_ | refine c_if_f rfl (by omega) ?_)
  refine t_eh (e_call rfl rfl (H3 la lw)) rfl rfl rfl ?_
  rintro _ _ ⟨rfl, lq, hq, rfl⟩
  repeat (first | (show OpsS _ _ _ _ _ _ (_ :: _) _ _ _; first | refine ozq ?_ | refine ozs ?_ | refine ozs0 ?_ | refine ozt ?_ | refine ozf ?_ | refine t_hu rfl rfl rfl rfl rfl rfl ?_) | refine c_seq ?_ | refine p_then ?_ | refine c_region ?_ | refine s_nil ?_ | refine c_cond_t rfl ?_ | refine c_cond_f rfl ?_ | refine c_block ?_ | refine c_skip ?_ | refine c_exit ?_ | refine p_block ?_ | refine p_then_exit ?_ | refine p_block_here ?_ | refine p_block_on rfl ?_ | refine c_ret ?_ | refine p_then_ret ?_ | refine p_block_ret ?_ | refine p_end ?_ | refine c_if_t rfl (by omega) ?_ | refine c_if_f rfl (by omega) ?_)
  refine t_eh (e_call rfl rfl (H4 lq la lw)) rfl rfl rfl ?_
  rintro _ _ ⟨rfl, lv, hv, rfl⟩
  repeat (first | (show OpsS _ _ _ _ _ _ (_ :: _) _ _ _; first | refine ozq ?_ | refine ozs ?_ | refine ozs0 ?_ | refine ozt ?_ | refine ozf ?_ | refine t_hu rfl rfl rfl rfl rfl rfl ?_) | refine c_seq ?_ | refine p_then ?_ | refine c_region ?_ | refine s_nil ?_ | refine c_cond_t rfl ?_ | refine c_cond_f rfl ?_ | refine c_block ?_ | refine c_skip ?_ | refine c_exit ?_ | refine p_block ?_ | refine p_then_exit ?_ | refine p_block_here ?_ | refine p_block_on rfl ?_ | refine c_ret ?_ | refine p_then_ret ?_ | refine p_block_ret ?_ | refine p_end ?_ | refine c_if_t rfl (by omega) ?_ | refine c_if_f rfl (by omega) ?_)
  refine k_loop (α := Nat × List Chunk × List Chunk) (fun x => [(0, .slice a0 n cap), (6, .pointer (some ⟨bs, 0, none⟩)), (7, .pointer (some ⟨ba, 0, none⟩)), (8, .pointer (some ⟨bv, 0, none⟩)), (9, .pointer (some ⟨bw, 0, none⟩)), (16, .int .i64 x.1)]) (fun x => x.2.1 ++ (la ++ (x.2.2 ++ (lw ++ l))))
    (fun x => x.1 ≤ n ∧ IsS bs (putsD D5 (ps.take x.1)) x.2.1 ∧ IsR bv (putsD D5 (ps.take x.1)) x.2.2) (fun x => n - x.1) (0, lq, lv) ⟨Nat.zero_le _, hq, hv⟩ ⟨rfl, rfl, rfl, rfl, rfl, rfl, trivial⟩ .refl ?_
  clear hq hv
  rintro ⟨i, lq, lv⟩ ⟨hi, hq, hv⟩
  simp only at hi hq hv ⊢
  by_cases hlt : i < n
  · obtain ⟨bB, off, xs, ty, fz, rfl, hm, hxs⟩ := hin (by omega)
    obtain ⟨p, hp⟩ : ∃ p, ps[i]? = some p := ⟨_, List.getElem?_eq_getElem (by omega)⟩
    obtain ⟨hx1, hx2, hx3⟩ := hxs i (encP p) (by rw [List.getElem?_map, hp]; rfl)
    have htk : ps.take (i + 1) = ps.take i ++ [p] := by rw [List.take_add_one, hp]; rfl
    have hgp : GdP p := hgd p (List.mem_of_getElem? hp)
    obtain ⟨f1, f2⟩ := puts_facts gu5 (ps.take i) fun q hq => hgd q (List.mem_of_mem_take hq)
    have g1 := ext_part (j := 0) (n := 2) hx2 hx1 (by omega)
    have g2 := ext_part (j := 2) (n := 8) hx2 hx1 (by omega)
    have H3 := fun lv => Fn.mvP (fun A => A ++ (la ++ (lv ++ (lw ++ l)))) (set_any bs _ lq hq p.1 p.2 (la ++ (lv ++ (lw ++ l))))
    have H4 := fun lq => Fn.mvP (fun A => lq ++ (la ++ (A ++ (lw ++ l)))) (rset_any bv _ lv hv (by rw [f1, len5]; omega) p.1 p.2 hgp (lq ++ (la ++ (lw ++ l))))
    rw [← puts_snoc, ← htk] at H3 H4
    clear hq hv
    repeat (first | (show OpsS _ _ _ _ _ _ (_ :: _) _ _ _; first | refine ozq ?_ | refine ozs ?_ | refine ozs0 ?_ | refine ozt ?_ | refine ozf ?_ | refine t_hu rfl rfl rfl rfl rfl rfl ?_) | refine c_seq ?_ | refine p_then ?_ | refine c_region ?_ | refine s_nil ?_ | refine c_cond_t rfl ?_ | refine c_cond_f rfl ?_ | refine c_block ?_ | refine c_skip ?_ | refine c_exit ?_ | refine p_block ?_ | refine p_then_exit ?_ | refine p_block_here ?_ | refine p_block_on rfl ?_ | refine c_ret ?_ | refine p_then_ret ?_ | refine p_block_ret ?_ | refine p_end ?_ | refine c_if_t rfl (by omega) ?_ | refine c_if_f rfl (by omega) ?_)
    refine c_draw [(0, true), (1, true), (2, true), (3, true), (4, true), (5, true), (6, true), (7, true), (8, true), (9, true), (10, true), (11, false)] [[], [], [], [1, 2], [1, 2, 3], [1, 2, 3, 4], [], [], [6, 7], [6, 7, 8], [6, 7, 8, 9], [0, 1, 2, 3, 4, 5, 6, 7, 8, 9, 10]] (l) (by kernel_rfl) (by kernel_rfl) (by (repeat (first | apply Attach.nil | (apply Attach.cons; · rfl)))) (fun c hc => List.mem_append_right _ (List.mem_append_right _ (List.mem_append_right _ (List.mem_append_right _ hc)))) ?_
    repeat (first | refine pl_nil ?_ | (show PlanS _ _ _ _ _ _ _ _ _ _ ((_, true, _) :: _) _ _ _; first | refine pzq ?_) | (show PlanS _ _ _ _ _ _ _ _ none [] ((_, false, _) :: _) _ _ _; first | refine pze ?_))
    refine pl_h (q_loadA (n := 2) rfl hm (by omega) g1) rfl rfl rfl ?_
    repeat (first | refine pl_nil ?_ | (show PlanS _ _ _ _ _ _ _ _ _ _ ((_, true, _) :: _) _ _ _; first | refine pzq ?_) | (show PlanS _ _ _ _ _ _ _ _ none [] ((_, false, _) :: _) _ _ _; first | refine pze ?_))
    refine pl_h (q_loadA (n := 8) rfl hm (by omega) g2) rfl rfl rfl ?_
    repeat (first | refine pl_nil ?_ | (show PlanS _ _ _ _ _ _ _ _ _ _ ((_, true, _) :: _) _ _ _; first | refine pzq ?_) | (show PlanS _ _ _ _ _ _ _ _ none [] ((_, false, _) :: _) _ _ _; first | refine pze ?_))
    apply pl_e
    · exact e_call rfl rfl (H3 lv)
    · rfl
    · rfl
    · rfl
    · rintro _ _ ⟨_, lq, _, rfl⟩ z hz
      exact List.mem_append_right _ (List.mem_append_right _ (List.mem_append_right _ (List.mem_append_right _ hz)))
    rintro _ _ ⟨rfl, lq, hq, rfl⟩
    repeat (first | refine pl_nil ?_ | (show PlanS _ _ _ _ _ _ _ _ _ _ ((_, true, _) :: _) _ _ _; first | refine pzq ?_) | (show PlanS _ _ _ _ _ _ _ _ none [] ((_, false, _) :: _) _ _ _; first | refine pze ?_))
    repeat (first | (show OpsS _ _ _ _ _ _ (_ :: _) _ _ _; first | refine ozq ?_ | refine ozs ?_ | refine ozs0 ?_ | refine ozt ?_ | refine ozf ?_ | refine t_hu rfl rfl rfl rfl rfl rfl ?_) | refine c_seq ?_ | refine p_then ?_ | refine c_region ?_ | refine s_nil ?_ | refine c_cond_t rfl ?_ | refine c_cond_f rfl ?_ | refine c_block ?_ | refine c_skip ?_ | refine c_exit ?_ | refine p_block ?_ | refine p_then_exit ?_ | refine p_block_here ?_ | refine p_block_on rfl ?_ | refine c_ret ?_ | refine p_then_ret ?_ | refine p_block_ret ?_ | refine p_end ?_ | refine c_if_t rfl (by omega) ?_ | refine c_if_f rfl (by omega) ?_)
    refine c_draw [(0, true), (1, true), (2, true), (3, true), (4, true), (5, true), (6, true), (7, true), (8, true), (9, true), (10, true), (11, false)] [[], [], [], [1, 2], [1, 2, 3], [1, 2, 3, 4], [], [], [6, 7], [6, 7, 8], [6, 7, 8, 9], [0, 1, 2, 3, 4, 5, 6, 7, 8, 9, 10]] (l) (by kernel_rfl) (by kernel_rfl) (by (repeat (first | apply Attach.nil | (apply Attach.cons; · rfl)))) (fun c hc => List.mem_append_right _ (List.mem_append_right _ (List.mem_append_right _ (List.mem_append_right _ hc)))) ?_
    repeat (first | refine pl_nil ?_ | (show PlanS _ _ _ _ _ _ _ _ _ _ ((_, true, _) :: _) _ _ _; first | refine pzq ?_) | (show PlanS _ _ _ _ _ _ _ _ none [] ((_, false, _) :: _) _ _ _; first | refine pze ?_))
    refine pl_h (q_loadA (n := 2) rfl hm (by omega) g1) rfl rfl rfl ?_
    repeat (first | refine pl_nil ?_ | (show PlanS _ _ _ _ _ _ _ _ _ _ ((_, true, _) :: _) _ _ _; first | refine pzq ?_) | (show PlanS _ _ _ _ _ _ _ _ none [] ((_, false, _) :: _) _ _ _; first | refine pze ?_))
    refine pl_h (q_loadA (n := 8) rfl hm (by omega) g2) rfl rfl rfl ?_
    repeat (first | refine pl_nil ?_ | (show PlanS _ _ _ _ _ _ _ _ _ _ ((_, true, _) :: _) _ _ _; first | refine pzq ?_) | (show PlanS _ _ _ _ _ _ _ _ none [] ((_, false, _) :: _) _ _ _; first | refine pze ?_))
    apply pl_e
    · exact e_call rfl rfl (H4 lq)
    · rfl
    · rfl
    · rfl
    · rintro _ _ ⟨_, lq, _, rfl⟩ z hz
      exact List.mem_append_right _ (List.mem_append_right _ (List.mem_append_right _ (List.mem_append_right _ hz)))
    rintro _ _ ⟨rfl, lv, hv, rfl⟩
    repeat (first | refine pl_nil ?_ | (show PlanS _ _ _ _ _ _ _ _ _ _ ((_, true, _) :: _) _ _ _; first | refine pzq ?_) | (show PlanS _ _ _ _ _ _ _ _ none [] ((_, false, _) :: _) _ _ _; first | refine pze ?_))
    repeat (first | (show OpsS _ _ _ _ _ _ (_ :: _) _ _ _; first | refine ozq ?_ | refine ozs ?_ | refine ozs0 ?_ | refine ozt ?_ | refine ozf ?_ | refine t_hu rfl rfl rfl rfl rfl rfl ?_) | refine c_seq ?_ | refine p_then ?_ | refine c_region ?_ | refine s_nil ?_ | refine c_cond_t rfl ?_ | refine c_cond_f rfl ?_ | refine c_block ?_ | refine c_skip ?_ | refine c_exit ?_ | refine p_block ?_ | refine p_then_exit ?_ | refine p_block_here ?_ | refine p_block_on rfl ?_ | refine c_ret ?_ | refine p_then_ret ?_ | refine p_block_ret ?_ | refine p_end ?_ | refine c_if_t rfl (by omega) ?_ | refine c_if_f rfl (by omega) ?_)
    exact k_next (i + 1, lq, lv) ⟨by simp only; omega, hq, hv⟩ (by simp only; omega) ⟨rfl, rfl, rfl, rfl, rfl, rfl, trivial⟩ .refl
  · obtain rfl : i = n := by omega
    rw [← hsz, List.take_length] at hq hv
    repeat (first | (show OpsS _ _ _ _ _ _ (_ :: _) _ _ _; first | refine ozq ?_ | refine ozs ?_ | refine ozs0 ?_ | refine ozt ?_ | refine ozf ?_ | refine t_hu rfl rfl rfl rfl rfl rfl ?_) | refine c_seq ?_ | refine p_then ?_ | refine c_region ?_ | refine s_nil ?_ | refine c_cond_t rfl ?_ | refine c_cond_f rfl ?_ | refine c_block ?_ | refine c_skip ?_ | refine c_exit ?_ | refine p_block ?_ | refine p_then_exit ?_ | refine p_block_here ?_ | refine p_block_on rfl ?_ | refine c_ret ?_ | refine p_then_ret ?_ | refine p_block_ret ?_ | refine p_end ?_ | refine c_if_t rfl (by omega) ?_ | refine c_if_f rfl (by omega) ?_)
    exact k_ret [] rfl .refl (by (repeat (first | apply ResS.nil | (apply rs_tmp; (· rfl)) | (apply rs_cell1; (· rfl); (· ((repeat (first | with_reducible apply List.mem_cons_self | with_reducible apply List.mem_cons_of_mem)); try with_reducible assumption)); (· rfl)) | (apply rs_cellA; (· rfl); (· ((repeat (first | with_reducible apply List.mem_cons_self | with_reducible apply List.mem_cons_of_mem)); try with_reducible assumption)); (· (repeat (first | with_reducible apply LSub.done | with_reducible apply LSub.take | with_reducible apply LSub.drop))))))) ⟨bs, ba, bv, bw, lq, la, lv, lw, rfl, hq, hA, hv, hw, rfl⟩
end Go.Proofs.Ytdbdbhlhdcidpaa

/- LookupX: awake, LookupNone. -/
-- GU
set_option linter.unusedVariables false
set_option linter.unusedSimpArgs false
namespace Go.Proofs.Ytdbdbhlhdcidpaa
open Go.RowKit
set_option maxRecDepth 20000

theorem aw_1 : resD D5 A5 ⟨2, 5, 0, 0, 0, 8, 0, 0⟩ 5 12 = ((5, 5), 0) := by decide +kernel
theorem aw_2 : resD D5 A5 ⟨2, 5, 0, 0, 0, 8, 0, 0⟩ 261 12 = ((0, 0), 12) := by decide +kernel
theorem room_nil (l : List Chunk) : Fn Try.prog 8 [.slice none 0 0] l fun v l' => ∃ bs ba bv bw lq la lv lw, v = .tuple #[.pointer (some ⟨bs, 0, none⟩), .pointer (some ⟨ba, 0, none⟩), .pointer (some ⟨bv, 0, none⟩), .pointer (some ⟨bw, 0, none⟩)] ∧
      IsS bs D5 lq ∧ Ar.IsA ba A5 la ∧ IsR bv D5 lv ∧ Ar.IsR bw A5 lw ∧ l' = lq ++ (la ++ (lv ++ (lw ++ l))) :=
  room_any none 0 0 [] l (fun h => absurd h (by omega)) rfl (by omega) fun p hp => by cases hp
theorem sub2 {lq la X : List Chunk} : ∀ c, c ∈ la → c ∈ lq ++ (la ++ X) := fun c hc => List.mem_append_right _ (List.mem_append_left _ hc)
set_option pp.deepTerms false
set_option pp.deepTerms.threshold 4
set_option maxHeartbeats 400000
theorem awake_any (l : List Chunk) : Fn Try.prog 11 [] l fun v l' => v = .bool true ∧ ∃ X, l' = X ++ l := by
  refine fn_of_body Try.func11 rfl rfl fun E => ?_
  simp only [argF, Try.ntmps11]
  repeat (first | (show OpsS _ _ _ _ _ _ (_ :: _) _ _ _; first | refine ozq ?_ | refine ozs ?_ | refine ozs0 ?_ | refine ozt ?_ | refine ozf ?_ | refine t_hu rfl rfl rfl rfl rfl rfl ?_ | refine ozn ?_) | refine c_seq ?_ | refine p_then ?_ | refine c_region ?_ | refine s_nil ?_ | refine c_cond_t rfl ?_ | refine c_cond_f rfl ?_ | refine c_skip ?_ | refine c_ret ?_ | refine p_then_ret ?_ | refine p_end ?_ | refine c_if_t rfl (by omega) ?_ | refine c_if_f rfl (by omega) ?_)
  refine t_e (e_call0 rfl rfl (room_nil _)) rfl rfl rfl ?_
  rintro _ _ ⟨bs, ba, bv, bw, lq, la, lv, lw, rfl, hq, hA, hv, hw, rfl⟩
  obtain ⟨Y, hY⟩ : ∃ Y, Y = lq ++ (la ++ (lv ++ (lw ++ l))) := ⟨_, rfl⟩
  have s1 : ∀ c, c ∈ lq → c ∈ Y := fun c hc => by rw [hY]; exact List.mem_append_left _ hc
  have s2 : ∀ c, c ∈ la → c ∈ Y := fun c hc => by rw [hY]; exact sub2 c hc
  have HR := fun (addr : Nat) (h : addr < 18446744073709551616) (l2 : List Chunk) (hs : ∀ c, c ∈ Y → c ∈ l2) => resolve_any bs ba D5 A5 lq la hq hA rad5 addr h ⟨2, 5, 0, 0, 0, 8, 0, 0⟩ 12 l2 (fun c hc => hs c (s1 c hc)) (fun c hc => hs c (s2 c hc))
  rw [← hY]
  repeat (first | (show OpsS _ _ _ _ _ _ (_ :: _) _ _ _; first | refine ozq ?_ | refine ozs ?_ | refine ozs0 ?_ | refine ozt ?_ | refine ozf ?_ | refine t_hu rfl rfl rfl rfl rfl rfl ?_ | refine ozn ?_) | refine c_seq ?_ | refine p_then ?_ | refine c_region ?_ | refine s_nil ?_ | refine c_cond_t rfl ?_ | refine c_cond_f rfl ?_ | refine c_skip ?_ | refine c_ret ?_ | refine p_then_ret ?_ | refine p_end ?_ | refine c_if_t rfl (by omega) ?_ | refine c_if_f rfl (by omega) ?_)
  refine t_e e_alloc rfl rfl rfl ?_; rintro _ _ ⟨b5, _, rfl, rfl⟩
  repeat (first | (show OpsS _ _ _ _ _ _ (_ :: _) _ _ _; first | refine ozq ?_ | refine ozs ?_ | refine ozs0 ?_ | refine ozt ?_ | refine ozf ?_ | refine t_hu rfl rfl rfl rfl rfl rfl ?_ | refine ozn ?_) | refine c_seq ?_ | refine p_then ?_ | refine c_region ?_ | refine s_nil ?_ | refine c_cond_t rfl ?_ | refine c_cond_f rfl ?_ | refine c_skip ?_ | refine c_ret ?_ | refine p_then_ret ?_ | refine p_end ?_ | refine c_if_t rfl (by omega) ?_ | refine c_if_f rfl (by omega) ?_)
  refine t_q (q_call rfl rfl fun l2 hs => HR 5 (by decide) l2 (fun c hc => hs c (.tail _ hc))) rfl rfl rfl ?_
  rw [aw_1]
  repeat (first | (show OpsS _ _ _ _ _ _ (_ :: _) _ _ _; first | refine ozq ?_ | refine ozs ?_ | refine ozs0 ?_ | refine ozt ?_ | refine ozf ?_ | refine t_hu rfl rfl rfl rfl rfl rfl ?_ | refine ozn ?_) | refine c_seq ?_ | refine p_then ?_ | refine c_region ?_ | refine s_nil ?_ | refine c_cond_t rfl ?_ | refine c_cond_f rfl ?_ | refine c_skip ?_ | refine c_ret ?_ | refine p_then_ret ?_ | refine p_end ?_ | refine c_if_t rfl (by omega) ?_ | refine c_if_f rfl (by omega) ?_)
  refine t_e e_alloc rfl rfl rfl ?_; rintro _ _ ⟨b6, _, rfl, rfl⟩
  repeat (first | (show OpsS _ _ _ _ _ _ (_ :: _) _ _ _; first | refine ozq ?_ | refine ozs ?_ | refine ozs0 ?_ | refine ozt ?_ | refine ozf ?_ | refine t_hu rfl rfl rfl rfl rfl rfl ?_ | refine ozn ?_) | refine c_seq ?_ | refine p_then ?_ | refine c_region ?_ | refine s_nil ?_ | refine c_cond_t rfl ?_ | refine c_cond_f rfl ?_ | refine c_skip ?_ | refine c_ret ?_ | refine p_then_ret ?_ | refine p_end ?_ | refine c_if_t rfl (by omega) ?_ | refine c_if_f rfl (by omega) ?_)
  refine t_q (q_call rfl rfl fun l2 hs => HR 261 (by decide) l2 (fun c hc => hs c (.tail _ (.tail _ hc)))) rfl rfl rfl ?_
  rw [aw_2]
  repeat (first | (show OpsS _ _ _ _ _ _ (_ :: _) _ _ _; first | refine ozq ?_ | refine ozs ?_ | refine ozs0 ?_ | refine ozt ?_ | refine ozf ?_ | refine t_hu rfl rfl rfl rfl rfl rfl ?_ | refine ozn ?_) | refine c_seq ?_ | refine p_then ?_ | refine c_region ?_ | refine s_nil ?_ | refine c_cond_t rfl ?_ | refine c_cond_f rfl ?_ | refine c_skip ?_ | refine c_ret ?_ | refine p_then_ret ?_ | refine p_end ?_ | refine c_if_t rfl (by omega) ?_ | refine c_if_f rfl (by omega) ?_)
  refine t_e e_alloc rfl rfl rfl ?_; rintro _ _ ⟨b8, _, rfl, rfl⟩
  repeat (first | (show OpsS _ _ _ _ _ _ (_ :: _) _ _ _; first | refine ozq ?_ | refine ozs ?_ | refine ozs0 ?_ | refine ozt ?_ | refine ozf ?_ | refine t_hu rfl rfl rfl rfl rfl rfl ?_ | refine ozn ?_) | refine c_seq ?_ | refine p_then ?_ | refine c_region ?_ | refine s_nil ?_ | refine c_cond_t rfl ?_ | refine c_cond_f rfl ?_ | refine c_skip ?_ | refine c_ret ?_ | refine p_then_ret ?_ | refine p_end ?_ | refine c_if_t rfl (by omega) ?_ | refine c_if_f rfl (by omega) ?_)
  refine t_q (q_eqagg rfl rfl (encT_k (5, 5)) (encT_k (5, 5))) rfl rfl rfl ?_
  rw [eqCells_self (encT_k (5, 5))]
  repeat (first | (show OpsS _ _ _ _ _ _ (_ :: _) _ _ _; first | refine ozq ?_ | refine ozs ?_ | refine ozs0 ?_ | refine ozt ?_ | refine ozf ?_ | refine t_hu rfl rfl rfl rfl rfl rfl ?_ | refine ozn ?_) | refine c_seq ?_ | refine p_then ?_ | refine c_region ?_ | refine s_nil ?_ | refine c_cond_t rfl ?_ | refine c_cond_f rfl ?_ | refine c_skip ?_ | refine c_ret ?_ | refine p_then_ret ?_ | refine p_end ?_ | refine c_if_t rfl (by omega) ?_ | refine c_if_f rfl (by omega) ?_)
  refine k_ret [] rfl (l' := Y) (.drop (.drop (.drop .refl))) (by (repeat (first | apply ResS.nil | (apply rs_tmp; (· rfl)) | (apply rs_cell1; (· rfl); (· ((repeat (first | with_reducible apply List.mem_cons_self | with_reducible apply List.mem_cons_of_mem)); try with_reducible assumption)); (· rfl)) | (apply rs_cellA; (· rfl); (· ((repeat (first | with_reducible apply List.mem_cons_self | with_reducible apply List.mem_cons_of_mem)); try with_reducible assumption)); (· (repeat (first | with_reducible apply LSub.done | with_reducible apply LSub.take | with_reducible apply LSub.drop))))))) ⟨rfl, lq ++ (la ++ (lv ++ lw)), ?_⟩
  rw [hY]; simp only [List.append_assoc]
theorem lookupNone_any (addr : Nat) (root : CapT) (depth : Int) (l : List Chunk) : Fn Try.prog 7 [.agg (List.toArray (encC root)), .int .u64 (addr : Nat), .int .i64 depth] l fun v l' => v = .bool true ∧ ∃ X, l' = X ++ l := by
  refine fn_of_body Try.func7 rfl rfl fun E => ?_
  simp only [argF, Try.ntmps7]
  repeat (first | (show OpsS _ _ _ _ _ _ (_ :: _) _ _ _; first | refine ozq ?_ | refine ozs ?_ | refine ozs0 ?_ | refine ozt ?_ | refine ozf ?_ | refine t_hu rfl rfl rfl rfl rfl rfl ?_ | refine ozn ?_) | refine c_seq ?_ | refine p_then ?_ | refine c_region ?_ | refine s_nil ?_ | refine c_ret ?_ | refine p_then_ret ?_ | refine p_end ?_)
  (first | refine t_e (e_box1 rfl rfl) rfl rfl rfl ?_ | refine t_e (e_boxA rfl) rfl rfl rfl ?_); rintro _ _ ⟨b3, _, rfl, rfl⟩
  repeat (first | (show OpsS _ _ _ _ _ _ (_ :: _) _ _ _; first | refine ozq ?_ | refine ozs ?_ | refine ozs0 ?_ | refine ozt ?_ | refine ozf ?_ | refine t_hu rfl rfl rfl rfl rfl rfl ?_ | refine ozn ?_) | refine c_seq ?_ | refine p_then ?_ | refine c_region ?_ | refine s_nil ?_ | refine c_ret ?_ | refine p_then_ret ?_ | refine p_end ?_)
  refine t_e (e_call0 rfl rfl (room_nil _)) rfl rfl rfl ?_
  rintro _ _ ⟨bs, ba, bv, bw, lq, la, lv, lw, rfl, hq, hA, hv, hw, rfl⟩
  obtain ⟨Y, hY⟩ : ∃ Y, Y = lq ++ (la ++ (lv ++ lw)) := ⟨_, rfl⟩
  refine s_keep (l' := capC b3 root :: (Y ++ l)) (by rw [hY]; exact keep_ac (A := lq ++ (la ++ (lv ++ (lw ++ capC b3 root :: l)))) []) ?_
  repeat (first | (show OpsS _ _ _ _ _ _ (_ :: _) _ _ _; first | refine ozq ?_ | refine ozs ?_ | refine ozs0 ?_ | refine ozt ?_ | refine ozf ?_ | refine t_hu rfl rfl rfl rfl rfl rfl ?_ | refine ozn ?_) | refine c_seq ?_ | refine p_then ?_ | refine c_region ?_ | refine s_nil ?_ | refine c_ret ?_ | refine p_then_ret ?_ | refine p_end ?_)
  refine t_q (q_call rfl rfl fun l2 hs => resolve_nil1 _ addr root depth l2) rfl rfl rfl ?_
  repeat (first | (show OpsS _ _ _ _ _ _ (_ :: _) _ _ _; first | refine ozq ?_ | refine ozs ?_ | refine ozs0 ?_ | refine ozt ?_ | refine ozf ?_ | refine t_hu rfl rfl rfl rfl rfl rfl ?_ | refine ozn ?_) | refine c_seq ?_ | refine p_then ?_ | refine c_region ?_ | refine s_nil ?_ | refine c_ret ?_ | refine p_then_ret ?_ | refine p_end ?_)
  refine t_e e_alloc rfl rfl rfl ?_; rintro _ _ ⟨b11, _, rfl, rfl⟩
  repeat (first | (show OpsS _ _ _ _ _ _ (_ :: _) _ _ _; first | refine ozq ?_ | refine ozs ?_ | refine ozs0 ?_ | refine ozt ?_ | refine ozf ?_ | refine t_hu rfl rfl rfl rfl rfl rfl ?_ | refine ozn ?_) | refine c_seq ?_ | refine p_then ?_ | refine c_region ?_ | refine s_nil ?_ | refine c_ret ?_ | refine p_then_ret ?_ | refine p_end ?_)
  refine t_q (q_call rfl rfl fun l2 hs => resolve_nil2 bs addr root depth l2) rfl rfl rfl ?_
  repeat (first | (show OpsS _ _ _ _ _ _ (_ :: _) _ _ _; first | refine ozq ?_ | refine ozs ?_ | refine ozs0 ?_ | refine ozt ?_ | refine ozf ?_ | refine t_hu rfl rfl rfl rfl rfl rfl ?_ | refine ozn ?_) | refine c_seq ?_ | refine p_then ?_ | refine c_region ?_ | refine s_nil ?_ | refine c_ret ?_ | refine p_then_ret ?_ | refine p_end ?_)
  refine t_e e_alloc rfl rfl rfl ?_; rintro _ _ ⟨b13, _, rfl, rfl⟩
  repeat (first | (show OpsS _ _ _ _ _ _ (_ :: _) _ _ _; first | refine ozq ?_ | refine ozs ?_ | refine ozs0 ?_ | refine ozt ?_ | refine ozf ?_ | refine t_hu rfl rfl rfl rfl rfl rfl ?_ | refine ozn ?_) | refine c_seq ?_ | refine p_then ?_ | refine c_region ?_ | refine s_nil ?_ | refine c_ret ?_ | refine p_then_ret ?_ | refine p_end ?_)
  refine t_q (q_eqagg rfl rfl (encT_k (0, 0)) (encT_k (0, 0))) rfl rfl rfl ?_
  rw [eqCells_self (encT_k (0, 0))]
  repeat (first | (show OpsS _ _ _ _ _ _ (_ :: _) _ _ _; first | refine ozq ?_ | refine ozs ?_ | refine ozs0 ?_ | refine ozt ?_ | refine ozf ?_ | refine t_hu rfl rfl rfl rfl rfl rfl ?_ | refine ozn ?_) | refine c_seq ?_ | refine p_then ?_ | refine c_region ?_ | refine s_nil ?_ | refine c_ret ?_ | refine p_then_ret ?_ | refine p_end ?_)
  refine t_h (q_eqagg rfl rfl (encT_k (0, 0)) (encT_k (0, 0))) rfl rfl rfl ?_
  rw [eqCells_self (encT_k (0, 0))]
  repeat (first | (show OpsS _ _ _ _ _ _ (_ :: _) _ _ _; first | refine ozq ?_ | refine ozs ?_ | refine ozs0 ?_ | refine ozt ?_ | refine ozf ?_ | refine t_hu rfl rfl rfl rfl rfl rfl ?_ | refine ozn ?_) | refine c_seq ?_ | refine p_then ?_ | refine c_region ?_ | refine s_nil ?_ | refine c_ret ?_ | refine p_then_ret ?_ | refine p_end ?_)
  refine t_h (q_call rfl rfl fun l2 hs => path_nil1 _ addr root depth l2) rfl rfl rfl ?_
  repeat (first | (show OpsS _ _ _ _ _ _ (_ :: _) _ _ _; first | refine ozq ?_ | refine ozs ?_ | refine ozs0 ?_ | refine ozt ?_ | refine ozf ?_ | refine t_hu rfl rfl rfl rfl rfl rfl ?_ | refine ozn ?_) | refine c_seq ?_ | refine p_then ?_ | refine c_region ?_ | refine s_nil ?_ | refine c_ret ?_ | refine p_then_ret ?_ | refine p_end ?_)
  refine t_eh (e_call0 rfl rfl (awake_any _)) rfl rfl rfl ?_
  rintro _ _ ⟨rfl, X, rfl⟩
  repeat (first | (show OpsS _ _ _ _ _ _ (_ :: _) _ _ _; first | refine ozq ?_ | refine ozs ?_ | refine ozs0 ?_ | refine ozt ?_ | refine ozf ?_ | refine t_hu rfl rfl rfl rfl rfl rfl ?_ | refine ozn ?_) | refine c_seq ?_ | refine p_then ?_ | refine c_region ?_ | refine s_nil ?_ | refine c_ret ?_ | refine p_then_ret ?_ | refine p_end ?_)
  exact k_ret [] rfl (l' := (X ++ Y) ++ l) (keep_ac (A := X ++ (slC b13 (0, 0) :: slC b11 (0, 0) :: capC b3 root :: (Y ++ l))) [slC b13 (0, 0), slC b11 (0, 0), capC b3 root]) (by (repeat (first | apply ResS.nil | (apply rs_tmp; (· rfl)) | (apply rs_cell1; (· rfl); (· ((repeat (first | with_reducible apply List.mem_cons_self | with_reducible apply List.mem_cons_of_mem)); try with_reducible assumption)); (· rfl)) | (apply rs_cellA; (· rfl); (· ((repeat (first | with_reducible apply List.mem_cons_self | with_reducible apply List.mem_cons_of_mem)); try with_reducible assumption)); (· (repeat (first | with_reducible apply LSub.done | with_reducible apply LSub.take | with_reducible apply LSub.drop))))))) ⟨rfl, _, rfl⟩
theorem u64_of {a : Int} (h : (Lit.int .u64 a).wf = true) : ∃ n : Nat, a = n ∧ n < 18446744073709551616 := by
  simp [Lit.wf, IntKind.min, IntKind.max, IntKind.signed, IntKind.bits] at h
  exact ⟨a.toNat, by omega, by omega⟩
theorem lookupNone_walk' (c0 : List Value) (w0 : AllIs capK c0) (a1 : Int) (w1 : (Lit.int .u64 a1).wf = true) (a2 : Int) (w2 : (Lit.int .i64 a2).wf = true) (W : World) :
    Calls Try.prog 7 #[.agg c0.toArray, .int .u64 a1, .int .i64 a2] W fun e W' => e = .returned (.bool true) ∧ Below W.heap.size W W' := by
  obtain ⟨c, rfl⟩ := cap_of w0
  obtain ⟨n, rfl, _⟩ := u64_of w1
  exact law_walk (lookupNone_any n c a2 (allOf W))
end Go.Proofs.Ytdbdbhlhdcidpaa
