/- The walk of PartBoth. PartBoth's walk, as the last step wants it. Laws that the statement's proof leans on. -/
import Derived.Test.YtgafamgacpglcaaGreatGb4
import Derived.Test.YtgafamgacpglcaaGreatGb5
import Derived.Test.YtgafamgacpglcaaGreatGb14
/- The walk of PartBoth. -/
-- GU
set_option linter.unusedVariables false
set_option linter.unusedSimpArgs false
namespace Go.Proofs.YtgafamgacpglcaaGreat
open Go.RowKit
set_option maxRecDepth 20000
set_option pp.deepTerms false
set_option pp.deepTerms.threshold 4

theorem apt_swap (V : Pt.VD) (wr : Pt.HD → Bool) (xs ys : List Int) : cB (Pt.Apt V wr ys xs) = cB (Pt.Apt V wr xs ys) := Bool.eq_iff_iff.2 (by rw [cB_iff, cB_iff]; exact ⟨Pt.Apt.symm, Pt.Apt.symm⟩)
theorem int_nil (l : List Chunk) : IntSl l (.slice none 0 0) [] := ⟨none, 0, rfl, fun h => absurd h (by simp)⟩
set_option maxHeartbeats 4000000 in
theorem both_any (x : VwT) (nr nq : Nat) (c : List Value) (v1 v2 : Value) (xs ys : List Int) (l : List Chunk) (hV : VwRaw l x nr nq c) (h1 : IntSl l v1 xs) (h2 : IntSl l v2 ys) :
    Fn Tryz.prog 3 [.agg (List.toArray c), v1, v2] l fun v l' => v = .bool true ∧ ∃ X, l' = X ++ l := by
  have h1' := h1
  have h2' := h2
  obtain ⟨a1, ca1, rfl, q1⟩ := h1'
  obtain ⟨a2, ca2, rfl, q2⟩ := h2'
  have hlen : c.length = 86 := by
    obtain ⟨⟨vo, vc, vt, vh, vr, vq, rfl, _⟩, _⟩ := hV
    simp [plc_len]
  refine fn_of_body Tryz.func3 rfl rfl fun E => ?_
  simp only [argF, Tryz.ntmps3]
  refine gzU ?_
  refine t_e (e_boxA rfl) rfl rfl rfl ?_
  rintro _ _ ⟨b3, _, rfl, rfl⟩
  refine gzU ?_
  refine t_q (q_loadL rfl (.head _) (As.LSub.of_all (n := 86) _ hlen)) rfl rfl rfl ?_
  refine gzU ?_
  refine t_q (q_call rfl rfl (fun l2 hl => great_any x nr nq c l2 (hV.mono fun q hq => hl _ (.tail _ hq)))) rfl rfl rfl ?_
  by_cases hS : SmallV x nr nq
  case neg =>
    rw [decide_eq_false hS]
    refine gzU ?_
    refine t_e (e_call0 rfl rfl (awake_any _)) rfl rfl rfl ?_
    rintro _ _ ⟨rfl, X, rfl⟩
    refine gzU ?_
    exact k_ret [] rfl (l' := X ++ l) (keep_app X (.drop .refl)) (by exact zRes) ⟨rfl, X, rfl⟩
  rw [decide_eq_true hS]
  by_cases hx : 20 < xs.length
  · refine gzU ?_
    refine t_e (e_call0 rfl rfl (awake_any _)) rfl rfl rfl ?_
    rintro _ _ ⟨rfl, X, rfl⟩
    refine gzU ?_
    exact k_ret [] rfl (l' := X ++ l) (keep_app X (.drop .refl)) (by exact zRes) ⟨rfl, X, rfl⟩
  by_cases hy : 20 < ys.length
  · refine gzU ?_
    refine t_e (e_call0 rfl rfl (awake_any _)) rfl rfl rfl ?_
    rintro _ _ ⟨rfl, X, rfl⟩
    refine gzU ?_
    exact k_ret [] rfl (l' := X ++ l) (keep_app X (.drop .refl)) (by exact zRes) ⟨rfl, X, rfl⟩
  have hW := hV.vw hS.1 hS.2.1 hS.2.2.1 hS.2.2.2.1
  obtain ⟨vo, vc, vt, vh, hC⟩ := hW.cells
  obtain ⟨a, cap, hvh, _⟩ := hC.s
  rw [List.length_map] at hvh
  subst hvh
  have k3 := hC.c3
  have hlts := hS.2.2.2.1
  refine gzU ?_
  refine t_q (q_loadL rfl (.head _) (As.LSub.of_all (n := 86) _ hlen)) rfl rfl rfl ?_
  refine gzU ?_
  refine t_q (q_call rfl rfl (fun l2 hl => Apart_any x c _ _ xs ys l2 (hW.mono fun q hq => hl _ (.tail _ hq)) (h1.mono fun q hq => hl _ (.tail _ hq)) (h2.mono fun q hq => hl _ (.tail _ hq)) (by omega) (by omega))) rfl rfl rfl ?_
  obtain ⟨P, hP⟩ : ∃ P, P = cB (Pt.Apt x.vd wrP xs ys) := ⟨_, rfl⟩
  rw [← hP]
  iterate 3 refine gzSU ?_
  refine c_join (α := Unit) (fun _ => [(1, .slice a1 xs.length ca1), (2, .slice a2 ys.length ca2), (7, .bool P)]) (fun _ => l) (fun _ => True) ?_ ?_
  · refine gzU ?_
    refine t_q (q_loadL rfl (.head _) (As.LSub.of_all (n := 86) _ hlen)) rfl rfl rfl ?_
    refine gzU ?_
    refine t_q (q_call rfl rfl (fun l2 hl => Apart_any x c _ _ ys xs l2 (hW.mono fun q hq => hl _ (.tail _ hq)) (h2.mono fun q hq => hl _ (.tail _ hq)) (h1.mono fun q hq => hl _ (.tail _ hq)) (by omega) (by omega))) rfl rfl rfl ?_
    rw [apt_swap, ← hP]
    refine gzU ?_
    rw [beq_self_eq_true, Bool.not_true]
    refine gzU ?_
    by_cases h0 : 0 < x.ts.length
    case neg =>
      refine gzU ?_
      exact p_join () trivial ⟨rfl, rfl, rfl, trivial⟩ (.drop .refl)
    refine gzU ?_
    refine t_h (q_loadL rfl (.head _) (As.LSub.of_all (n := 86) _ hlen)) rfl rfl rfl ?_
    refine gzU ?_
    refine t_h (q_call rfl rfl (fun l2 hl => Apart_any x c _ _ xs [] l2 (hW.mono fun q hq => hl _ (.tail _ hq)) (h1.mono fun q hq => hl _ (.tail _ hq)) (int_nil _) (by omega) (by simp))) rfl rfl rfl ?_
    cases hR : cB (Pt.Apt x.vd wrP xs []) with
    | false =>
      refine gzU ?_
      exact p_join () trivial ⟨rfl, rfl, rfl, trivial⟩ (.drop .refl)
    | true =>
      have hxl : xs.length = x.ts.length := by have := (cB_iff.1 hR).len; rw [this]; show (x.ts.map _).length = _; rw [List.length_map]
      refine gzU ?_
      exact p_join () trivial ⟨rfl, rfl, rfl, trivial⟩ (.drop .refl)
  rintro _ _
  refine gzU ?_
  refine k_loop (α := Nat) (fun i => [(1, .slice a1 xs.length ca1), (2, .slice a2 ys.length ca2), (7, .bool P), (8, .int .i64 i)]) (fun _ => l) (fun i => i ≤ xs.length) (fun i => xs.length - i) 0 (Nat.zero_le _) ⟨rfl, rfl, rfl, rfl, trivial⟩ .refl ?_
  rintro i hi
  by_cases hlt : i < xs.length
  · cases P with
    | false =>
      refine gzU ?_
      refine t_e (e_call0 rfl rfl (awake_any _)) rfl rfl rfl ?_
      rintro _ _ ⟨rfl, X, rfl⟩
      refine gzU ?_
      exact k_ret [] rfl (l' := X ++ l) .refl (by exact zRes) ⟨rfl, X, rfl⟩
    | true =>
      have hA := cB_iff.1 hP.symm
      obtain ⟨z, e1⟩ : ∃ z, xs[i]? = some z := ⟨_, List.getElem?_eq_getElem hlt⟩
      have hno := hA.once (List.mem_of_getElem? e1)
      obtain ⟨bB, off, cs, t, fz, rfl, hm, hc⟩ := q1 (by omega)
      have g1 := hc i z e1
      refine gzU ?_
      refine k_loop (α := Nat) (fun k => [(1, .slice (some ⟨bB, off, none⟩) xs.length ca1), (2, .slice a2 ys.length ca2), (7, .bool true), (8, .int .i64 i), (9, .int .i64 k)]) (fun _ => l) (fun k => k ≤ ys.length) (fun k => ys.length - k) 0 (Nat.zero_le _) ⟨rfl, rfl, rfl, rfl, rfl, trivial⟩ .refl ?_
      rintro k hk
      by_cases hlk : k < ys.length
      · obtain ⟨bC, off2, cs2, t2, fz2, rfl, hm2, hc2⟩ := q2 (by omega)
        obtain ⟨w, e2⟩ : ∃ w, ys[k]? = some w := ⟨_, List.getElem?_eq_getElem hlk⟩
        have g2 := hc2 k w e2
        have hzw : ¬ z = w := fun e => hno (by rw [e]; exact List.mem_of_getElem? e2)
        refine gzU ?_
        refine c_draw [(0, true), (1, true), (2, true), (3, true), (4, true), (5, true), (6, true), (7, true), (8, true)] [[], [], [0, 1], [0, 1, 2], [], [], [4, 5], [4, 5, 6], [0, 1, 2, 3, 4, 5, 6, 7]] _ (by kernel_rfl) (by kernel_rfl) zAtt (fun _ h => h) ?_
        refine pzU ?_
        refine gzU ?_
        exact k_next (k + 1) (by omega) (by omega) ⟨rfl, rfl, rfl, rfl, rfl, trivial⟩ .refl
      obtain rfl : k = ys.length := by omega
      refine gzU ?_
      exact k_next (i + 1) (by omega) (by omega) ⟨rfl, rfl, rfl, rfl, trivial⟩ .refl
  refine gzU ?_
  refine t_e (e_call0 rfl rfl (awake_any _)) rfl rfl rfl ?_
  rintro _ _ ⟨rfl, X, rfl⟩
  refine gzU ?_
  exact k_ret [] rfl (l' := X ++ l) .refl (by exact zRes) ⟨rfl, X, rfl⟩
end Go.Proofs.YtgafamgacpglcaaGreat


/- PartBoth's walk, as the last step wants it. -/
set_option linter.unusedVariables false
set_option linter.unusedSimpArgs false
namespace Go.Proofs.YtgafamgacpglcaaGreat
open Go.RowKit

theorem both_walk {W : World} (c : List Value) (hc : MixIs W vwK c) (a1 : Option Addr) (n1 c1 : Nat) (r1 : List (List Value)) (h1 : IsRows [some .i64] W a1 n1 c1 r1) (a2 : Option Addr) (n2 c2 : Nat) (r2 : List (List Value)) (h2 : IsRows [some .i64] W a2 n2 c2 r2) :
    Calls Tryz.prog 3 #[.agg c.toArray, .slice a1 n1 c1, .slice a2 n2 c2] W fun e W' => e = .returned (.bool true) ∧ Below W.heap.size W W' := by
  obtain ⟨x, nr, nq, hV⟩ := view_in hc
  obtain ⟨xs, _, i1⟩ := ints_in h1
  obtain ⟨ys, _, i2⟩ := ints_in h2
  exact law_walk (both_any x nr nq c _ _ xs ys _ hV i1 i2)
end Go.Proofs.YtgafamgacpglcaaGreat

