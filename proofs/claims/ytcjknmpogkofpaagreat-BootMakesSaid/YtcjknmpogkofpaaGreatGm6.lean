/- Laws that the statement's proof leans on (joined out of several texts). -/
import Derived.Test.YtcjknmpogkofpaaGreatGm3
import Derived.Test.YtcjknmpogkofpaaGreatGm5
import Derived.Test.YtcjknmpogkofpaaGreatGm4
set_option linter.unusedVariables false
set_option linter.unusedSimpArgs false
namespace Go.Proofs.YtcjknmpogkofpaaGreat.Ar
open Go.RowKit
set_option maxRecDepth 20000
abbrev erC (B : Nat) (x : Int) : Chunk := (B, .cells #[.int .i64 x] 26 (0, 0))
theorem add_e {S : ArT} {kd sz fi e : Int} (h : addE S kd sz fi = e) (h0 : e ≠ 0) : addD S kd sz fi = ((0, e), S) := by unfold addD; rw [h, if_neg h0]
theorem add_0 {S : ArT} {kd sz fi : Int} (h : addE S kd sz fi = 0) : addD S kd sz fi = ((nextD S fi, 0), { S with g := upd S.g fi.toNat (S.g fi.toNat + 1), os := insD S.os (newO S kd sz fi) }) := by unfold addD; rw [h, if_pos rfl]
theorem all_itm {os : OL} {p : ObT → Bool} (h : ∀ x, x ∈ itm os → p x.1 = true) : (os.all p) = true := by
  rw [List.all_eq_true]
  intro o ho
  obtain ⟨k, hk⟩ := List.getElem?_of_mem ho
  exact h (o, k) (List.mem_of_getElem? (i := k) (by rw [itm_get, hk]; rfl))
theorem all_not {os : OL} {p : ObT → Bool} {o : ObT} (ho : o ∈ os) (h : p o = false) : (os.all p) = false := by
  cases e : os.all p with
  | false => rfl
  | true => rw [List.all_eq_true] at e; rw [e o ho] at h; cases h
theorem ocs_cut {os : OL} {k : Nat} (hk : k ≤ os.length) : (ocs os).take (k * 9) = ocs (os.take k) ∧ (ocs os).drop (k * 9) = ocs (os.drop k) := by
  have e : ocs os = ocs (os.take k) ++ ocs (os.drop k) := by rw [← ocs_app, List.take_append_drop]
  have hl : (ocs (os.take k)).length = k * 9 := by rw [ocs_l, List.length_take]; omega
  exact ⟨by rw [e, List.take_left' hl], by rw [e, List.drop_left' hl]⟩
theorem Keep.appL (X : List Chunk) {A B : List Chunk} (h : Keep A B) : Keep (X ++ A) (X ++ B) := by
  obtain ⟨r, p⟩ := h
  exact ⟨r, (List.Perm.append_left X p).trans (List.perm_append_comm_assoc X r B)⟩
theorem insert_mid (X : List Chunk) (v : Value) (n i bl : Nat) (xs ws : List Value) (cs F : List Chunk) (ho : OwnSl 68 9 v n xs cs) (hi : i ≤ n) (hw : ws.length = 9) (h1 : ∀ u ∈ ws, u.oneCell' = true) (hx1 : ∀ u ∈ xs, u.oneCell' = true) (hne : ∀ c, c ∈ cs → c.1 ≠ bl) (hn : n ≤ 90000) :
    Fn Tryz.prog 141 [v, .int .i64 (i : Nat), .slice (some ⟨bl, 0, none⟩) 1 1] ((bl, .cells (List.toArray ws) 68 (0, 0)) :: (X ++ (cs ++ F))) fun v' l' => ∃ c2, OwnSl 68 9 v' (n + 1) (xs.take (i * 9) ++ ws ++ xs.drop (i * 9)) c2 ∧ l' = X ++ (c2 ++ F) :=
  Fn.re (Keep.appL [_] (Keep.in_mid X cs F)) (insert_any v n i bl xs ws cs (X ++ F) ho hi hw h1 hx1 hne hn) fun v' l' ⟨c2, h2, e⟩ => ⟨X ++ (c2 ++ F), by rw [e]; exact Keep.in_mid c2 X F, c2, h2, rfl⟩
theorem drop_le {os : OL} {k : Nat} {I : Int} (h : os.Pairwise fun x y => x.id < y.id) (hk : k ≤ os.length) (hn : ¬ ∃ o, 0 < k ∧ os[k - 1]? = some o ∧ o.id > I) : ∀ x ∈ os.take k, x.id ≤ I := by
  intro x hx
  obtain ⟨j, hj⟩ := List.getElem?_of_mem hx
  rw [List.getElem?_take] at hj
  split at hj
  · rename_i hjk
    obtain ⟨o, ho⟩ : ∃ o, os[k - 1]? = some o := ⟨_, List.getElem?_eq_getElem (by omega)⟩
    have h1 : o.id ≤ I := by
      by_cases h : o.id > I
      · exact absurd ⟨o, by omega, ho, h⟩ hn
      · omega
    by_cases e : j = k - 1
    · subst e; rw [ho] at hj; cases hj; exact h1
    · have := asc_get h hj ho (by omega); omega
  · cases hj
set_option maxHeartbeats 400000
theorem add_any (b : Nat) (S : ArT) (lq : List Chunk) (hA : IsA b S lq) (kd sz fi : Int) (F : List Chunk) :
    Fn Tryz.prog 76 [.pointer (some ⟨b, 0, none⟩), .int .i64 kd, .int .i64 sz, .int .i64 fi] (lq ++ F) fun v l' => v = .tuple #[.int .i64 (addD S kd sz fi).1.1, .int .i64 (addD S kd sz fi).1.2] ∧ ∃ lq', IsA b (addD S kd sz fi).2 lq' ∧ l' = lq' ++ F := by
  have hA' := hA
  have hlen := hA.ok.len
  obtain ⟨hok, v, cs, rfl, ho⟩ := hA
  have hn1 := hok.n1
  have hn2 := hok.n2
  obtain ⟨gb, hrow, hcs⟩ := rowV_of ho
  have c0 := arL_n S.n S.g v
  have hm : arC b S.n S.g v ∈ arC b S.n S.g v :: cs ++ F := .head _
  obtain ⟨L, hL⟩ : ∃ L, arC b S.n S.g v :: cs ++ F = L := ⟨_, rfl⟩
  have hsub : ∀ c, c ∈ arC b S.n S.g v :: cs → c ∈ L := fun c hc => by rw [← hL]; exact List.mem_append_left _ hc
  rw [hL] at hm ⊢
  obtain ⟨N, hN⟩ : ∃ N, framesD kd sz = N := ⟨_, rfl⟩
  have hNr := frames_rng kd sz
  rw [hN] at hNr
  refine fn_of_body Tryz.func76 rfl rfl fun E => ?_
  simp only [argF, Tryz.ntmps76]
  refine gzU ?_
  (first | refine t_e (e_box1 rfl rfl) rfl rfl rfl ?_ | refine t_e (e_boxA rfl) rfl rfl rfl ?_); rintro _ _ ⟨b5, _, rfl, rfl⟩
  refine gzU ?_
  (first | refine t_e (e_box1 rfl rfl) rfl rfl rfl ?_ | refine t_e (e_boxA rfl) rfl rfl rfl ?_); rintro _ _ ⟨b7, _, rfl, rfl⟩
  refine gzU ?_
  refine t_e e_alloc rfl rfl rfl ?_; rintro _ _ ⟨b8, _, rfl, rfl⟩
  refine gzU ?_
  refine t_e e_alloc rfl rfl rfl ?_; rintro _ _ ⟨b9, _, rfl, rfl⟩
  refine gzU ?_
  refine t_q (q_call rfl rfl fun l2 _ => frames_any kd sz l2) rfl rfl rfl ?_
  rw [hN]
  refine gzU ?_
  refine t_e e_alloc rfl rfl rfl ?_; rintro _ _ ⟨b10, _, rfl, rfl⟩
  refine gzU ?_
  by_cases h1 : N = 0
  · refine gzU ?_
    have e := add_e (S := S) (fi := fi) (show addE S kd sz fi = 2 by unfold addE; rw [hN, if_pos h1]) (by decide)
    refine k_ret2 [] (inC b10 N :: erC b9 2 :: inC b8 0 :: inC b7 fi :: inC b5 kd :: L) rfl (l' := L) .refl (by exact zRes) (.drop (.drop (.drop (.drop (.drop .refl))))) ⟨by rw [e]; rfl, _, by rw [e]; exact hA', hL.symm⟩
  refine gzU ?_
  refine c_draw [(0, true), (1, true), (2, true), (3, true), (4, true), (5, true), (6, true), (7, true), (8, true), (9, true), (10, true), (11, true), (12, true)] [[], [0], [0, 1], [0, 1, 2], [0, 1, 2], [0, 1, 2, 4], [0, 1, 2, 4, 5], [0, 1, 2, 4, 5, 6], [0, 1, 2], [0, 1, 2, 4, 5, 6, 7, 8], [0, 1, 2, 3, 4, 5, 6, 7, 8, 9], [0, 1, 2, 3, 4, 5, 6, 7, 8, 9, 10], [0, 1, 2, 3, 4, 5, 6, 7, 8, 9, 10, 11]] _ (by kernel_rfl) (by kernel_rfl) zAtt (fun _ h => h) ?_
  by_cases h2 : fi < 0
  · refine pzU ?_
    refine gzU ?_
    have e := add_e (show addE S kd sz fi = 3 by unfold addE; rw [hN, if_neg h1, if_pos (.inl h2)]) (by decide)
    refine k_ret2 [] (inC b10 N :: erC b9 3 :: inC b8 0 :: inC b7 fi :: inC b5 kd :: L) rfl (l' := L) .refl (by exact zRes) (.drop (.drop (.drop (.drop (.drop .refl))))) ⟨by rw [e]; rfl, _, by rw [e]; exact hA', hL.symm⟩
  by_cases h3 : fi > S.n - N
  · refine pzU ?_
    refine gzU ?_
    have e := add_e (show addE S kd sz fi = 3 by unfold addE; rw [hN, if_neg h1, if_pos (.inr h3)]) (by decide)
    refine k_ret2 [] (inC b10 N :: erC b9 3 :: inC b8 0 :: inC b7 fi :: inC b5 kd :: L) rfl (l' := L) .refl (by exact zRes) (.drop (.drop (.drop (.drop (.drop .refl))))) ⟨by rw [e]; rfl, _, by rw [e]; exact hA', hL.symm⟩
  refine pzU ?_
  refine gzU ?_
  refine t_e (e_call0 rfl rfl (each_any _ rfl _)) rfl rfl rfl ?_
  rintro _ _ ⟨B, rfl, rfl⟩
  refine gzU ?_
  refine c_range (α := ObT × Nat) (ps := [38, 39]) (lb := [.pointer (some ⟨B, 0, none⟩)]) rfl (each_iter B b S.n S.g v S.os gb hrow (by omega)) (fun _ => rfl) rfl
    (fun pre l => l = [xB B (some ⟨b, 0, none⟩), inC b10 N, erC b9 0, inC b8 0, inC b7 fi, inC b5 kd] ∧ ∀ x, x ∈ pre → apartD kd fi N x.1 = true)
    (fun c pre l => c = .ret ∧ ∃ (pre' : List (ObT × Nat)) (x : ObT × Nat), pre = pre' ++ [x] ∧ apartD kd fi N x.1 = false ∧ l = [erC b9 16, inC b8 0])
    _ L (fun pre l2 X2 hX h => ⟨by rw [h.1]; exact List.Mem.head _, List.mem_append_right _ (hX _ (hsub _ (.head _)))⟩) (by exact zKeep) ⟨rfl, by simp⟩ ?_ ?_ ?_
  · rintro E r0 rec pre ⟨o, k⟩ l' T ⟨fn, tmps, D, rfl⟩ hT ⟨rfl, hpre⟩ hsp
    obtain ⟨ho1, _, _⟩ := itm_pre hsp
    simp only at ho1
    obtain ⟨sp, hcse⟩ := hcs _ _ ho1
    have hmT := hT _ (hsub _ (.tail _ (by rw [hcse]; exact .head _)))
    simp only [putPs, List.cons_append, List.nil_append]
    refine gzU ?_
    refine p_begin (by exact zUpd) ?_
    refine gzU ?_
    refine t_q (q_call rfl rfl fun l2 hl => apart_any kd fi N o gb (k * 9) _ _ _ l2 (hl _ (.tail _ (.tail _ (.tail _ (.tail _ (.tail _ (.tail _ (.tail _ hmT)))))))) (ocs_at ho1 sp)) rfl rfl rfl ?_
    cases hap : apartD kd fi N o with
    | false =>
      refine gzU ?_
      refine p_round_ret [erC b9 16, inC b8 0] (by exact zKeep) ⟨rfl, pre, (o, k), rfl, hap, rfl⟩
    | true =>
      refine gzU ?_
      refine p_round _ .refl ⟨rfl, fun x hx => ?_⟩
      rcases List.mem_append.1 hx with hx | hx
      · exact hpre x hx
      · rw [List.mem_singleton.1 hx]; exact hap
  · rintro D xs l' rfl ⟨rfl, hpre⟩
    simp only [List.cons_append, List.nil_append]
    refine gzU ?_
    refine t_q (q_call rfl rfl fun l2 hl => next_any b S _ hA' fi l2 (fun c hc => hl _ (.tail _ (.tail _ (.tail _ (.tail _ (.tail _ (.tail _ (.tail _ (hsub c hc))))))))) ) rfl rfl rfl ?_
    have hall := all_itm (p := fun o => apartD kd fi N o) hpre
    by_cases h4 : nextD S fi = 0
    · rw [h4]
      refine gzU ?_
      have e := add_e (show addE S kd sz fi = 11 by unfold addE; rw [hN, if_neg h1, if_neg (by omega), if_neg (by rw [hall]; decide), if_pos h4]) (by decide)
      exact k_ret2 [D] (inC b10 N :: erC b9 11 :: inC b8 0 :: inC b7 fi :: inC b5 kd :: L) rfl (l' := L) (by exact zKeep) (by exact zRes) (.drop (.drop (.drop (.drop (.drop .refl))))) ⟨by rw [e]; rfl, _, by rw [e]; exact hA', hL.symm⟩
    have hE : addE S kd sz fi = 0 := by unfold addE; rw [hN, if_neg h1, if_neg (by omega), if_neg (by rw [hall]; decide), if_neg h4]
    obtain ⟨f0, f1, f2, f3, f4⟩ := next_pos hok h4
    obtain ⟨I, hI⟩ : ∃ I, nextD S fi = I := ⟨_, rfl⟩
    rw [hI] at f2 f3 f4 h4 ⊢
    obtain ⟨j, rfl⟩ : ∃ j : Nat, fi = j := ⟨fi.toNat, by omega⟩
    have hj : j < 64 := by omega
    rw [Int.toNat_natCast] at f2
    have cg := arL_g S.n S.g v hj
    have hg := hok.g1 j
    have hOk := add_ok hok kd sz j
    rw [add_0 hE] at hOk ⊢
    rw [hI, Int.toNat_natCast] at hOk ⊢
    rw [← hL]
    obtain ⟨p, cap, rfl, hp⟩ : ∃ p cap, v = .slice p S.os.length cap ∧ (0 < S.os.length → p = some ⟨gb, 0, none⟩) := by
      rcases hrow with ⟨h, h0⟩ | ⟨cap, h⟩
      · exact ⟨none, 0, by rw [h, h0], fun h => by omega⟩
      · exact ⟨_, cap, h, fun _ => rfl⟩
    clear hsub hm hL hA'
    refine gzU ?_
    refine c_draw [(0, true), (1, true), (2, true), (3, true), (4, true), (5, true), (6, true), (7, true), (8, true), (9, true), (10, false)] [[], [], [0], [0, 2], [0, 1, 2, 3], [0, 1, 2, 3, 4], [0, 1, 2, 3, 4, 5], [0], [0, 7], [0, 1, 2, 3, 4, 5, 6, 7, 8], [0, 1, 2, 3, 4, 5, 6, 7, 8, 9]] ([]) (by kernel_rfl) (by kernel_rfl) zAtt zHR ?_
    refine pzU ?_
    apply pl_s (S := [inC b7 (j : Nat)]); (· exact zLd); (· exact sing_mem (.tail _ (.tail _ (.tail _ (.tail _ (.tail _ (.head _))))))); (· rfl); (· rfl); (· rfl)
    refine pzU ?_
    apply pl_s (S := [arC b S.n S.g (.slice p S.os.length cap)])
    · exact q_load rfl (.head _) cg
    · exact sing_mem (.tail _ (.tail _ (.tail _ (.tail _ (.tail _ (.tail _ (.tail _ (.head _))))))))
    · rfl
    · rfl
    · rfl
    refine pzU ?_
    apply pl_nS
    · exact e_store (b := b) (off := 1 + j * 1) (cs := List.toArray (arL S.n S.g (.slice p S.os.length cap))) rfl rfl rfl (by rw [arL_setG _ _ _ hj]; exact zUpd) (by rw [List.size_toArray, arL_len]; omega)
    (· rfl); (· rfl); (· intro _ _ _ c hc; cases hc); (· exact fun _ _ _ x hx ha => anc_all (by kernel_rfl) hx ha)
    rintro _ _ ⟨rfl, rfl⟩
    obtain ⟨g', hg'⟩ : ∃ g', upd S.g j (S.g j + 1) = g' := ⟨_, rfl⟩
    rw [hg'] at hOk ⊢
    have cl := arL_l S.n g' (.slice p S.os.length cap)
    refine pzU ?_
    refine gzU ?_
    refine k_loop (α := Nat) (fun k => [(0, .pointer (some ⟨b, 0, none⟩)), (2, .int .i64 sz), (5, .pointer (some ⟨b5, 0, none⟩)), (7, .pointer (some ⟨b7, 0, none⟩)), (8, .pointer (some ⟨b8, 0, none⟩)), (9, .pointer (some ⟨b9, 0, none⟩)), (10, .pointer (some ⟨b10, 0, none⟩)), (13, .int .i64 I), (14, .int .i64 k)])
      (fun k => markC D :: xB B (some ⟨b, 0, none⟩) :: inC b10 N :: erC b9 0 :: inC b8 0 :: inC b7 (j : Nat) :: inC b5 kd :: arC b S.n g' (.slice p S.os.length cap) :: (cs ++ F)) (fun k => k ≤ S.os.length ∧ ∀ x ∈ S.os.drop k, ¬ x.id ≤ I) (fun k => k) S.os.length ⟨Nat.le_refl _, by simp⟩ ⟨rfl, rfl, rfl, rfl, rfl, rfl, rfl, rfl, rfl, trivial⟩ .refl ?_
    rintro k ⟨hk, hd⟩
    by_cases hnx : ∃ o, 0 < k ∧ S.os[k - 1]? = some o ∧ o.id > I
    · obtain ⟨o, hk0, ho1, hoI⟩ := hnx
      obtain ⟨k, rfl⟩ : ∃ q, k = q + 1 := ⟨k - 1, by omega⟩
      rw [Nat.add_sub_cancel] at ho1
      obtain ⟨sp, hcse⟩ := hcs _ _ ho1
      have hpp := hp (by omega)
      have co : (List.toArray (ocs S.os ++ sp))[k * 9]? = some (.int .i64 o.id) := ocs_at ho1 sp 0 (by omega)
      rw [hpp] at cl ⊢
      refine gzU ?_
      refine t_gq (q_load (v := .int .i64 o.id) (cs := List.toArray (ocs S.os ++ sp)) rfl (.tail _ (.tail _ (.tail _ (.tail _ (.tail _ (.tail _ (.tail _ (.tail _ (List.mem_append_left _ (by rw [hcse]; exact .head _)))))))))) ?_) rfl rfl rfl rfl rfl rfl ?_
      · rw [show ((((k + 1 : Nat)) : Int) - 1).toNat = k by omega, Nat.zero_add]; exact co
      refine gzU ?_
      rw [show (((k + 1 : Nat)) : Int) - 1 = (k : Nat) by omega, ← hpp]
      refine k_next k ⟨by omega, fun x hx => ?_⟩ (by omega) ⟨rfl, rfl, rfl, rfl, rfl, rfl, rfl, rfl, rfl, trivial⟩ .refl
      rw [List.drop_eq_getElem_cons (by omega)] at hx
      rcases List.mem_cons.1 hx with rfl | hx
      · rw [(List.getElem?_eq_some_iff.1 ho1).2]; omega
      · exact hd x hx
    · have hT := drop_le hok.asc hk hnx
      have hins := ins_at (o := newO S kd sz j) hk (fun x hx => by show x.id ≤ nextD S j; rw [hI]; exact hT x hx) (fun x hx => by show ¬ x.id ≤ nextD S j; rw [hI]; exact hd x hx)
      have hnewO : newO S kd sz j = ⟨I, kd, sz, j, N, 0, 0, 0, 0⟩ := by unfold newO; rw [hI, hN]
      rw [hnewO] at hins hOk ⊢
      obtain ⟨ob, hob⟩ : ∃ ob : ObT, ob = ⟨I, kd, sz, j, N, 0, 0, 0, 0⟩ := ⟨_, rfl⟩
      have hobC : obC ob = [.int .i64 I, .int .i64 kd, .int .i64 sz, .int .i64 j, .int .i64 N, .int .i64 0, .int .i64 0, .int .i64 0, .int .i64 0] := by rw [hob]
      rw [← hob] at hins hOk ⊢
      have hX : ∀ x : Chunk, x ∈ [inC b5 kd, inC b7 (j : Nat), inC b10 N, arC b S.n g' (.slice p S.os.length cap)] → x ∈ markC D :: xB B (some ⟨b, 0, none⟩) :: inC b10 N :: erC b9 0 :: inC b8 0 :: inC b7 (j : Nat) :: inC b5 kd :: arC b S.n g' (.slice p S.os.length cap) :: (cs ++ F) := by
        intro x hx
        simp only [List.mem_cons, List.not_mem_nil, or_false] at hx ⊢
        rcases hx with rfl | rfl | rfl | rfl <;> simp only [true_or, or_true]
      have hbl2 : ∀ bl, (∀ c, c ∈ markC D :: xB B (some ⟨b, 0, none⟩) :: inC b10 N :: erC b9 0 :: inC b8 0 :: inC b7 (j : Nat) :: inC b5 kd :: arC b S.n g' (.slice p S.os.length cap) :: (cs ++ F) → c.1 ≠ bl) → ∀ c, c ∈ cs → c.1 ≠ bl := fun bl h c hc => h c (.tail _ (.tail _ (.tail _ (.tail _ (.tail _ (.tail _ (.tail _ (.tail _ (List.mem_append_left _ hc)))))))))
      rcases Nat.eq_zero_or_pos k with hk0 | hk0
      case' inl =>
        refine gzU ?_
      case' inr =>
        obtain ⟨q, hq⟩ : ∃ q, k = q + 1 := ⟨k - 1, by omega⟩
        obtain ⟨o, ho1⟩ : ∃ o, S.os[q]? = some o := ⟨_, List.getElem?_eq_getElem (by omega)⟩
        have hoI : ¬ o.id > I := fun h => hnx ⟨o, by omega, by rw [hq]; exact ho1, h⟩
        obtain ⟨sp, hcse⟩ := hcs _ _ ho1
        have hpp := hp (by omega)
        have co : (List.toArray (ocs S.os ++ sp))[q * 9]? = some (.int .i64 o.id) := ocs_at ho1 sp 0 (by omega)
        rw [hpp] at cl ⊢
        refine gzU ?_
        refine t_gq (q_load (v := .int .i64 o.id) (cs := List.toArray (ocs S.os ++ sp)) rfl (.tail _ (.tail _ (.tail _ (.tail _ (.tail _ (.tail _ (.tail _ (.tail _ (List.mem_append_left _ (by rw [hcse]; exact .head _)))))))))) ?_) rfl rfl rfl rfl rfl rfl ?_
        · rw [show (((k : Nat) : Int) - 1).toNat = q by omega, Nat.zero_add]; exact co
        refine gzU ?_
        rw [← hpp] at cl ⊢
      all_goals
        refine c_draw [(0, true), (1, true), (2, true), (3, true), (4, true), (5, true), (6, true), (7, true), (8, true), (9, true), (10, true), (11, true), (12, false), (13, false), (14, true), (15, true), (16, false)] [[], [], [1], [1, 2], [1, 2, 3], [], [], [], [], [], [], [6, 7, 8, 9, 10], [6, 7, 8, 9, 10, 11], [1, 2, 3, 4, 5, 6, 7, 8, 9, 10, 11, 12], [0, 1, 2, 3, 4, 5, 6, 7, 8, 9, 10, 11, 12, 13], [0, 1, 2, 3, 4, 5, 6, 7, 8, 9, 10, 11, 12, 13, 14], [0, 1, 2, 3, 4, 5, 6, 7, 8, 9, 10, 11, 12, 13, 14, 15]] ([]) (by kernel_rfl) (by kernel_rfl) zAtt zHR ?_
        refine pzU ?_
        apply pl_s (S := [arC b S.n g' (.slice p S.os.length cap)])
        · exact q_load rfl (.head _) cl
        · exact sing_mem (hX _ (.tail _ (.tail _ (.tail _ (.head _)))))
        · rfl
        · rfl
        · rfl
        refine pzU ?_
        apply pl_s (S := [inC b5 kd]); (· exact zLd); (· exact sing_mem (hX _ (.head _))); (· rfl); (· rfl); (· rfl)
        refine pzU ?_
        apply pl_s (S := [inC b7 (j : Nat)]); (· exact zLd); (· exact sing_mem (hX _ (.tail _ (.head _)))); (· rfl); (· rfl); (· rfl)
        refine pzU ?_
        apply pl_s (S := [inC b10 N]); (· exact zLd); (· exact sing_mem (hX _ (.tail _ (.tail _ (.head _))))); (· rfl); (· rfl); (· rfl)
        refine pzU ?_
        apply pl_eS
        · apply e_litA (ws := obC ob) (k := 9)
          · rw [hobC]; rfl
          · rfl
          · rfl
          · decide
          · decide
        · rfl
        · rfl
        · rfl
        · intro _ _ _ c hc; cases hc
        · rintro _ _ ⟨bl, _, rfl, rfl⟩ x hx _ c hc
          refine .tail _ (hX _ ?_)
          simp only [List.mem_cons, List.not_mem_nil, or_false] at hx
          rcases hx with rfl | rfl | rfl | rfl <;> simp only [List.mem_cons, List.not_mem_nil, or_false] at hc <;> subst hc <;> simp only [List.mem_cons, true_or, or_true]
        rintro _ _ ⟨bl, hbl, rfl, rfl⟩
        refine pzU ?_
        apply pl_eS
        · exact e_call0 rfl rfl (insert_mid [markC D, xB B (some ⟨b, 0, none⟩), inC b10 N, erC b9 0, inC b8 0, inC b7 (j : Nat), inC b5 kd, arC b S.n g' (.slice p S.os.length cap)] (.slice p S.os.length cap) S.os.length k bl (ocs S.os) (obC ob) cs F ho hk rfl (by simp [Value.oneCell']) (ocs_one _) (hbl2 bl hbl) (by omega))
        · rfl
        · rfl
        · rfl
        · intro _ _ _ c hc; cases hc
        · exact fun _ _ _ x hx ha => anc_all (by kernel_rfl) hx ha
        rintro v' _ ⟨c2, ho2, rfl⟩
        have hv1 : v'.oneCell' = true := ho2.one
        simp only [List.cons_append, List.nil_append]
        refine pzU ?_
        apply pl_nS
        · exact e_store (b := b) (off := 65) (cs := List.toArray (arL S.n g' (.slice p S.os.length cap))) rfl rfl hv1 (by rw [arL_setL]; exact zUpd) (by rw [List.size_toArray, arL_len]; omega)
        (· rfl); (· rfl); (· intro _ _ _ c hc; cases hc); (· exact fun _ _ _ x hx ha => anc_all (by kernel_rfl) hx ha)
        rintro _ _ ⟨rfl, rfl⟩
        refine pzU ?_
        refine gzU ?_
        rw [(ocs_cut hk).1, (ocs_cut hk).2] at ho2
        refine k_ret2 [D] (inC b10 N :: erC b9 0 :: inC b8 I :: inC b7 (j : Nat) :: inC b5 kd :: arC b S.n g' v' :: (c2 ++ F)) rfl (l' := arC b S.n g' v' :: (c2 ++ F)) (by exact zKeep) (by exact zRes) (.drop (.drop (.drop (.drop (.drop .refl))))) ⟨rfl, arC b S.n g' v' :: c2, ⟨hOk, v', c2, rfl, ?_⟩, rfl⟩
        show OwnSl 68 9 v' (insD S.os ob).length (ocs (insD S.os ob)) c2
        rw [ins_len, hins, ocs_app, show ocs (ob :: List.drop k S.os) = obC ob ++ ocs (List.drop k S.os) from rfl, ← List.append_assoc]
        exact ho2
  · rintro D c pre l' hsp ⟨rfl, pre', x, rfl, hap, rfl⟩
    obtain ⟨ho1, _, _⟩ := itm_pre hsp
    simp only [List.cons_append, List.nil_append]
    refine gzU ?_
    have e := add_e (show addE S kd sz fi = 16 by unfold addE; rw [hN, if_neg h1, if_neg (by omega), if_pos (all_not (List.mem_of_getElem? ho1) hap)]) (by decide)
    exact k_ret2 [D] (erC b9 16 :: inC b8 0 :: L) rfl (l' := L) (by exact zKeep) (by exact zRes) (.drop (.drop .refl)) ⟨by rw [e]; rfl, _, by rw [e]; exact hA', hL.symm⟩
abbrev ar0 (n : Int) : ArT := ⟨n, fun _ => 0, []⟩
def apO (x y : ObT) : Bool := apartD x.kd x.fi x.fr y
theorem ar0_ok {n : Int} (h1 : 1 ≤ n) (h2 : n ≤ 64) : (ar0 n).Ok := ⟨h1, h2, fun j => by simp, .nil, (fun x hx => by cases hx), fun x hx => by cases hx⟩
theorem at_of {os : OL} (h : os.Pairwise fun x y => x.id < y.id) {k : Nat} {o : ObT} (ho : os[k]? = some o) : atO os o.id = some k := by
  unfold atO
  rw [List.findIdx?_eq_some_iff_getElem]
  obtain ⟨hl, he⟩ := List.getElem?_eq_some_iff.1 ho
  refine ⟨hl, by rw [he]; simp, fun j hj => ?_⟩
  have := asc_get h (List.getElem?_eq_getElem (show j < os.length by omega)) ho hj
  simp; omega
theorem at_no {os : OL} {id : Int} (h : ∀ x ∈ os, x.id ≠ id) : atO os id = none := by
  unfold atO
  rw [List.findIdx?_eq_none_iff]
  intro o ho
  simpa using h o ho
section
variable {P : Program} {ro : Option Nat} {N : Nat} {fr : Fr} {R l : List Chunk} {d : Option Nat} {ty t : TypeId} {pos : String} {aft : Array Edge} {g : Option (Nat × Bool)} {x y s : Operand} {off b : Nat} {k : IntKind} {i j : Int} {at_ : Array TypeId}
theorem q_max (hx : ev fr x = some (.int k i)) (hy : ev fr y = some (.int k j)) : OpQ P ro N fr R ⟨d, .call { callee := .builtin .max, args := #[x, y], argTypes := at_ }, ty, pos, aft, g⟩ (.int k (if j > i then j else i)) := opQ_of_sl rfl fun ρ l hρ _ => by
  simp only [execOp, resolve, sl_bind, sl_pure, invoke, builtin, List.map_toArray, List.map_cons, List.map_nil, hρ x _ hx, hρ y _ hy, Builtin.max_, List.foldlM, Builtin.max2]
  refine ⟨?_, ?_⟩ <;> first | trivial | rfl
theorem q_min (hx : ev fr x = some (.int k i)) (hy : ev fr y = some (.int k j)) : OpQ P ro N fr R ⟨d, .call { callee := .builtin .min, args := #[x, y], argTypes := at_ }, ty, pos, aft, g⟩ (.int k (if j < i then j else i)) := opQ_of_sl rfl fun ρ l hρ _ => by
  simp only [execOp, resolve, sl_bind, sl_pure, invoke, builtin, List.map_toArray, List.map_cons, List.map_nil, hρ x _ hx, hρ y _ hy, Builtin.min_, List.foldlM, Builtin.min2]
  refine ⟨?_, ?_⟩ <;> first | trivial | rfl
end
theorem mm_eq {a n b k : Int} (hn : n > 0) (hk : k > 0) : decide ((if b > a then b else a) < (if b + k < a + n then b + k else a + n)) = (decide (a < b + k) && decide (b < a + n)) := by
  by_cases h1 : a < b + k <;> by_cases h2 : b < a + n <;> simp only [h1, h2, decide_true, decide_false, Bool.and_true, Bool.and_false] <;> split <;> split <;> simp <;> omega
theorem sm_neg {x : Int} (h : decide (smallI x) = false) : ¬ smallI x := of_decide_eq_false h
theorem rfr_any (k s : Int) (l : List Chunk) : Fn Tryz.prog 99 [.int .i64 k, .int .i64 s] l fun v l' => v = .int .i64 (framesD k s) ∧ l' = l := by
  refine fn_of_body Tryz.func99 rfl rfl fun E => ?_
  simp only [argF, Tryz.ntmps99]
  by_cases h1 : k = 1
  · by_cases h2 : s ≥ 1
    · by_cases h3 : s ≤ 64
      · refine gzU ?_
        exact k_ret [] rfl .refl (by exact zRes) ⟨by unfold framesD; rw [if_pos h1, if_pos ⟨h2, h3⟩]; rfl, rfl⟩
      · refine gzU ?_
        exact k_ret [] rfl .refl (by exact zRes) ⟨by unfold framesD; rw [if_pos h1, if_neg (by omega)]; rfl, rfl⟩
    · refine gzU ?_
      exact k_ret [] rfl .refl (by exact zRes) ⟨by unfold framesD; rw [if_pos h1, if_neg (by omega)]; rfl, rfl⟩
  by_cases h2 : k = 2
  · subst h2
    by_cases hs : s = 1 ∨ s = 2 ∨ s = 3 ∨ s = 4
    · rcases hs with rfl | rfl | rfl | rfl
      all_goals
        refine gzU ?_
        exact k_ret [] rfl .refl (by exact zRes) ⟨rfl, rfl⟩
    · have e1 : ¬ s = 1 := by omega
      have e2 : ¬ s = 2 := by omega
      have e3 : ¬ s = 3 := by omega
      have e4 : ¬ s = 4 := by omega
      refine gzU ?_
      exact k_ret [] rfl .refl (by exact zRes) ⟨by unfold framesD; rw [if_neg (by omega), if_pos rfl, if_neg e1, if_neg e2, if_neg e3, if_neg e4]; rfl, rfl⟩
  by_cases hk : k = 3 ∨ k = 4 ∨ k = 5 ∨ k = 6 ∨ k = 8 ∨ k = 9
  · have hF : framesD k s = if s = 0 then 1 else 0 := by unfold framesD; rw [if_neg h1, if_neg h2, if_pos hk]
    rw [hF]
    clear hF h1 h2
    rcases hk with rfl | rfl | rfl | rfl | rfl | rfl
    all_goals
      by_cases h0 : s = 0
      case pos =>
        rw [if_pos h0]
        refine gzU ?_
        exact k_ret [] rfl .refl (by exact zRes) ⟨rfl, rfl⟩
      rw [if_neg h0]
      refine gzU ?_
      exact k_ret [] rfl .refl (by exact zRes) ⟨rfl, rfl⟩
  · have e3 : ¬ k = 3 := by omega
    have e4 : ¬ k = 4 := by omega
    have e5 : ¬ k = 5 := by omega
    have e6 : ¬ k = 6 := by omega
    have e8 : ¬ k = 8 := by omega
    have e9 : ¬ k = 9 := by omega
    refine gzU ?_
    exact k_ret [] rfl .refl (by exact zRes) ⟨by unfold framesD; rw [if_neg h1, if_neg h2, if_neg hk]; rfl, rfl⟩
theorem rsm_any (x : Int) (l : List Chunk) : Fn Tryz.prog 218 [.int .i64 x] l fun v l' => v = .bool (decide (smallI x)) ∧ l' = l := by
  refine fn_of_body Tryz.func218 rfl rfl fun E => ?_
  simp only [argF, Tryz.ntmps218]
  by_cases h1 : x ≥ 0
  · by_cases h2 : x ≤ 1048576
    · refine gzU ?_
      exact k_ret [] rfl .refl (by exact zRes) ⟨by rw [decide_eq_true (show smallI x from ⟨h1, h2⟩), decide_eq_true h2]; rfl, rfl⟩
    · refine gzU ?_
      exact k_ret [] rfl .refl (by exact zRes) ⟨by rw [decide_eq_false (show ¬ smallI x from fun h => h2 h.2), decide_eq_false h2]; rfl, rfl⟩
  · refine gzU ?_
    exact k_ret [] rfl .refl (by exact zRes) ⟨by rw [decide_eq_false (show ¬ smallI x from fun h => h1 h.1)]; rfl, rfl⟩
theorem mayD_f {a n b k : Int} (h : ¬ (smallI a ∧ smallI n ∧ smallI b ∧ smallI k)) : mayD a n b k = false := decide_eq_false h
theorem rmeet_any (a n b k : Int) (l : List Chunk) : Fn Tryz.prog 199 [.int .i64 a, .int .i64 n, .int .i64 b, .int .i64 k] l fun v l' => v = .bool (meetD a n b k) ∧ l' = l := by
  refine fn_of_body Tryz.func199 rfl rfl fun E => ?_
  simp only [argF, Tryz.ntmps199]
  refine gzU ?_
  refine t_q (q_call rfl rfl fun l2 _ => rsm_any a l2) rfl rfl rfl ?_
  cases ha : decide (smallI a) with
  | false =>
    refine gzU ?_
    exact k_ret [] rfl .refl (by exact zRes) ⟨by unfold meetD; rw [mayD_f fun h => sm_neg ha h.1]; rfl, rfl⟩
  | true =>
  refine gzU ?_
  refine t_h (q_call rfl rfl fun l2 _ => rsm_any n l2) rfl rfl rfl ?_
  cases hn : decide (smallI n) with
  | false =>
    refine gzU ?_
    exact k_ret [] rfl .refl (by exact zRes) ⟨by unfold meetD; rw [mayD_f fun h => sm_neg hn h.2.1]; rfl, rfl⟩
  | true =>
  refine gzU ?_
  refine t_h (q_call rfl rfl fun l2 _ => rsm_any b l2) rfl rfl rfl ?_
  cases hb : decide (smallI b) with
  | false =>
    refine gzU ?_
    exact k_ret [] rfl .refl (by exact zRes) ⟨by unfold meetD; rw [mayD_f fun h => sm_neg hb h.2.2.1]; rfl, rfl⟩
  | true =>
  refine gzU ?_
  refine t_h (q_call rfl rfl fun l2 _ => rsm_any k l2) rfl rfl rfl ?_
  cases hk : decide (smallI k) with
  | false =>
    refine gzU ?_
    exact k_ret [] rfl .refl (by exact zRes) ⟨by unfold meetD; rw [mayD_f fun h => sm_neg hk h.2.2.2]; rfl, rfl⟩
  | true =>
  have hM : mayD a n b k = true := decide_eq_true ⟨of_decide_eq_true ha, of_decide_eq_true hn, of_decide_eq_true hb, of_decide_eq_true hk⟩
  obtain ⟨⟨a1, a2⟩, ⟨n1, n2⟩, ⟨b1, b2⟩, k1, k2⟩ := may_sm hM
  by_cases h1 : n = 0
  · refine gzU ?_
    exact k_ret [] rfl .refl (by exact zRes) ⟨by unfold meetD; rw [hM, decide_eq_false (by omega)]; rfl, rfl⟩
  by_cases h2 : k = 0
  · refine gzU ?_
    exact k_ret [] rfl .refl (by exact zRes) ⟨by unfold meetD; rw [hM, decide_eq_true (show n > 0 by omega), decide_eq_false (by omega)]; rfl, rfl⟩
  refine gzU ?_
  refine t_q (q_max rfl rfl) rfl rfl rfl ?_
  refine gzU ?_
  refine t_q (q_min rfl rfl) rfl rfl rfl ?_
  refine gzU ?_
  exact k_ret [] rfl .refl (by exact zRes) ⟨by unfold meetD; rw [hM, decide_eq_true (show n > 0 by omega), decide_eq_true (show k > 0 by omega), Bool.true_and, Bool.true_and, Bool.true_and, ← mm_eq (by omega) (by omega)]; rfl, rfl⟩
theorem rwithin_any (a n b k : Int) (l : List Chunk) : Fn Tryz.prog 200 [.int .i64 a, .int .i64 n, .int .i64 b, .int .i64 k] l fun v l' => v = .bool (withinD a n b k) ∧ l' = l := by
  refine fn_of_body Tryz.func200 rfl rfl fun E => ?_
  simp only [argF, Tryz.ntmps200]
  refine gzU ?_
  refine t_q (q_call rfl rfl fun l2 _ => rsm_any a l2) rfl rfl rfl ?_
  cases ha : decide (smallI a) with
  | false =>
    refine gzU ?_
    exact k_ret [] rfl .refl (by exact zRes) ⟨by unfold withinD; rw [mayD_f fun h => sm_neg ha h.1]; rfl, rfl⟩
  | true =>
  refine gzU ?_
  refine t_h (q_call rfl rfl fun l2 _ => rsm_any n l2) rfl rfl rfl ?_
  cases hn : decide (smallI n) with
  | false =>
    refine gzU ?_
    exact k_ret [] rfl .refl (by exact zRes) ⟨by unfold withinD; rw [mayD_f fun h => sm_neg hn h.2.1]; rfl, rfl⟩
  | true =>
  refine gzU ?_
  refine t_h (q_call rfl rfl fun l2 _ => rsm_any b l2) rfl rfl rfl ?_
  cases hb : decide (smallI b) with
  | false =>
    refine gzU ?_
    exact k_ret [] rfl .refl (by exact zRes) ⟨by unfold withinD; rw [mayD_f fun h => sm_neg hb h.2.2.1]; rfl, rfl⟩
  | true =>
  refine gzU ?_
  refine t_h (q_call rfl rfl fun l2 _ => rsm_any k l2) rfl rfl rfl ?_
  cases hk : decide (smallI k) with
  | false =>
    refine gzU ?_
    exact k_ret [] rfl .refl (by exact zRes) ⟨by unfold withinD; rw [mayD_f fun h => sm_neg hk h.2.2.2]; rfl, rfl⟩
  | true =>
  have hM : mayD a n b k = true := decide_eq_true ⟨of_decide_eq_true ha, of_decide_eq_true hn, of_decide_eq_true hb, of_decide_eq_true hk⟩
  obtain ⟨⟨a1, a2⟩, ⟨n1, n2⟩, ⟨b1, b2⟩, k1, k2⟩ := may_sm hM
  by_cases h1 : n = 0
  · refine gzU ?_
    exact k_ret [] rfl .refl (by exact zRes) ⟨by unfold withinD; rw [hM, decide_eq_true h1]; rfl, rfl⟩
  by_cases h2 : a ≥ b
  · refine gzU ?_
    exact k_ret [] rfl .refl (by exact zRes) ⟨by unfold withinD; rw [hM, decide_eq_false h1, decide_eq_true h2]; rfl, rfl⟩
  · refine gzU ?_
    exact k_ret [] rfl .refl (by exact zRes) ⟨by unfold withinD; rw [hM, decide_eq_false h1, decide_eq_false h2]; rfl, rfl⟩
theorem apD_cases (kd fi n : Int) (y : ObT) : apartD kd fi n y = if meetD fi n y.fi y.fr then ((decide (kd = 1) && withinD y.fi y.fr fi n) || (decide (y.kd = 1) && withinD fi n y.fi y.fr)) else true := by
  unfold apartD
  cases meetD fi n y.fi y.fr with
  | false => rfl
  | true => simp only [Bool.not_true, Bool.false_or, if_true]; rw [Bool.or_comm]
theorem rmay_any (x y : ObT) (l : List Chunk) : Fn Tryz.prog 158 [.agg (List.toArray (obC x)), .agg (List.toArray (obC y))] l fun v l' => v = .bool (apO x y) ∧ l' = l := by
  refine fn_of_body Tryz.func158 rfl rfl fun E => ?_
  simp only [argF, Tryz.ntmps158]
  refine gzU ?_
  (first | refine t_e (e_box1 rfl rfl) rfl rfl rfl ?_ | refine t_e (e_boxA rfl) rfl rfl rfl ?_); rintro _ _ ⟨b2, _, rfl, rfl⟩
  refine gzU ?_
  (first | refine t_e (e_box1 rfl rfl) rfl rfl rfl ?_ | refine t_e (e_boxA rfl) rfl rfl rfl ?_); rintro _ _ ⟨b3, _, rfl, rfl⟩
  refine gzU ?_
  refine t_q (q_call rfl rfl fun l2 _ => rmeet_any x.fi x.fr y.fi y.fr l2) rfl rfl rfl ?_
  have hE := apD_cases x.kd x.fi x.fr y
  cases hm : meetD x.fi x.fr y.fi y.fr with
  | false =>
    rw [hm] at hE
    refine gzU ?_
    exact k_ret [] rfl (.drop (.drop .refl)) (by exact zRes) ⟨by unfold apO; rw [hE]; rfl, rfl⟩
  | true =>
    rw [hm, if_pos rfl] at hE
    by_cases hx : x.kd = 1
    · rw [decide_eq_true hx, Bool.true_and] at hE
      refine gzU ?_
      refine t_h (q_call rfl rfl fun l2 _ => rwithin_any y.fi y.fr x.fi x.fr l2) rfl rfl rfl ?_
      cases hw : withinD y.fi y.fr x.fi x.fr with
      | true =>
        rw [hw] at hE
        refine gzU ?_
        exact k_ret [] rfl (.drop (.drop .refl)) (by exact zRes) ⟨by unfold apO; rw [hE]; rfl, rfl⟩
      | false =>
        rw [hw, Bool.false_or] at hE
        by_cases hy : y.kd = 1
        · rw [decide_eq_true hy, Bool.true_and] at hE
          refine gzU ?_
          refine t_h (q_call rfl rfl fun l2 _ => rwithin_any x.fi x.fr y.fi y.fr l2) rfl rfl rfl ?_
          refine gzU ?_
          exact k_ret [] rfl (.drop (.drop .refl)) (by exact zRes) ⟨by unfold apO; rw [hE]; rfl, rfl⟩
        · rw [decide_eq_false hy, Bool.false_and] at hE
          refine gzU ?_
          exact k_ret [] rfl (.drop (.drop .refl)) (by exact zRes) ⟨by unfold apO; rw [hE]; rfl, rfl⟩
    · rw [decide_eq_false hx, Bool.false_and, Bool.false_or] at hE
      by_cases hy : y.kd = 1
      · rw [decide_eq_true hy, Bool.true_and] at hE
        refine gzU ?_
        refine t_h (q_call rfl rfl fun l2 _ => rwithin_any x.fi x.fr y.fi y.fr l2) rfl rfl rfl ?_
        refine gzU ?_
        exact k_ret [] rfl (.drop (.drop .refl)) (by exact zRes) ⟨by unfold apO; rw [hE]; rfl, rfl⟩
      · rw [decide_eq_false hy, Bool.false_and] at hE
        refine gzU ?_
        exact k_ret [] rfl (.drop (.drop .refl)) (by exact zRes) ⟨by unfold apO; rw [hE]; rfl, rfl⟩
def rfL (n : Int) (v : Value) (g : Nat → Int) : List Value := .int .i64 n :: v :: (seqI g 0 64).map intV
theorem rfL_len (n : Int) (v : Value) (g : Nat → Int) : (rfL n v g).length = 66 := by unfold rfL; simp [seqI_len]
theorem rfL_n (n : Int) (v : Value) (g : Nat → Int) : (List.toArray (rfL n v g))[0]? = some (.int .i64 n) := rfl
theorem rfL_l (n : Int) (v : Value) (g : Nat → Int) : (List.toArray (rfL n v g))[1]? = some v := rfl
theorem rfL_g (n : Int) (v : Value) (g : Nat → Int) {j : Nat} (hj : j < 64) : (List.toArray (rfL n v g))[2 + j * 1]? = some (.int .i64 (g j)) := by
  rw [List.getElem?_toArray, show 2 + j * 1 = j + 1 + 1 by omega]; unfold rfL
  rw [List.getElem?_cons_succ, List.getElem?_cons_succ, List.getElem?_map]
  simp [seqI, hj]
theorem rfL_setG (n : Int) (v : Value) (g : Nat → Int) {j : Nat} (hj : j < 64) (x : Int) : (List.toArray (rfL n v g)).setIfInBounds (2 + j * 1) (.int .i64 x) = List.toArray (rfL n v (upd g j x)) := by
  rw [List.setIfInBounds_toArray, show 2 + j * 1 = j + 1 + 1 by omega]; unfold rfL
  rw [List.set_cons_succ, List.set_cons_succ]
  congr 3
  apply List.ext_getElem?
  intro k
  rw [List.getElem?_set]
  by_cases hk : k < 64
  · by_cases e : j = k
    · subst e
      rw [if_pos rfl, if_pos (by simp [seqI_len]; omega)]
      simp [seqI, hk, upd_same]
    · rw [if_neg e]
      simp [seqI, hk, upd_other _ _ _ _ (fun h => e h.symm)]
  · rw [if_neg (by omega)]
    rw [List.getElem?_eq_none (by simp [seqI_len]; omega), List.getElem?_eq_none (by simp [seqI_len]; omega)]
theorem rfL_setL (n : Int) (v u : Value) (g : Nat → Int) : (List.toArray (rfL n v g)).setIfInBounds 1 u = List.toArray (rfL n u g) := by
  rw [List.setIfInBounds_toArray]; unfold rfL; rfl
abbrev rfC (b : Nat) (n : Int) (v : Value) (g : Nat → Int) : Chunk := (b, .cells (List.toArray (rfL n v g)) 141 (0, 0))
structure IsR (b : Nat) (S : ArT) (lq : List Chunk) : Prop where
  ok : S.Ok
  ex : ∃ v cs, lq = rfC b S.n v S.g :: cs ∧ OwnSl 68 9 v S.os.length (ocs S.os) cs
theorem rnew_any (n : Int) (l : List Chunk) : Fn Tryz.prog 95 [.int .i64 n] l fun v l' =>
    (¬ (1 ≤ n ∧ n ≤ 64) ∧ v = .tuple #[.pointer none, .int .i64 3] ∧ l' = l) ∨ ((1 ≤ n ∧ n ≤ 64) ∧ ∃ b lq, v = .tuple #[.pointer (some ⟨b, 0, none⟩), .int .i64 0] ∧ IsR b (ar0 n) lq ∧ l' = lq ++ l) := by
  refine fn_of_body Tryz.func95 rfl rfl fun E => ?_
  simp only [argF, Tryz.ntmps95]
  by_cases h1 : n < 1
  · refine gzU ?_
    exact k_ret [] rfl .refl (by exact zRes) (.inl ⟨by omega, rfl, rfl⟩)
  by_cases h2 : n > 64
  · refine gzU ?_
    exact k_ret [] rfl .refl (by exact zRes) (.inl ⟨by omega, rfl, rfl⟩)
  refine gzU ?_
  refine t_e (e_boxA rfl) rfl rfl rfl ?_
  rintro _ _ ⟨b, hb, rfl, rfl⟩
  refine gzU ?_
  refine k_ret [] rfl .refl (by exact zRes) (.inr ⟨by omega, b, [rfC b n (.slice none 0 0) (fun _ => 0)], rfl, ⟨ar0_ok (by omega) (by omega), _, [], rfl, OwnSl.nil _ _⟩, rfl⟩)
theorem rnext_any (b : Nat) (S : ArT) (lq : List Chunk) (hA : IsR b S lq) (f : Int) (l : List Chunk) (hsub : ∀ c, c ∈ lq → c ∈ l) :
    Fn Tryz.prog 159 [.pointer (some ⟨b, 0, none⟩), .int .i64 f] l fun v l' => v = .int .i64 (nextD S f) ∧ l' = l := by
  obtain ⟨hok, v, cs, rfl, ho⟩ := hA
  have hm := hsub _ (.head _)
  have c0 := rfL_n S.n v S.g
  have hn1 := hok.n1
  have hn2 := hok.n2
  refine fn_of_body Tryz.func159 rfl rfl fun E => ?_
  simp only [argF, Tryz.ntmps159]
  by_cases h1 : f < 0
  · refine gzU ?_
    exact k_ret [] rfl .refl (by exact zRes) ⟨by unfold nextD; rw [if_pos h1]; rfl, rfl⟩
  by_cases h2 : f ≥ S.n
  · refine gzU ?_
    exact k_ret [] rfl .refl (by exact zRes) ⟨by unfold nextD; rw [if_neg h1, if_pos h2]; rfl, rfl⟩
  obtain ⟨j, rfl⟩ : ∃ j : Nat, f = j := ⟨f.toNat, by omega⟩
  have hj : j < 64 := by omega
  have cg := rfL_g S.n v S.g hj
  have hg := hok.g1 j
  by_cases h3 : (j : Int) + 1 + 64 * S.g j > 65535
  · refine gzU ?_
    exact k_ret [] rfl .refl (by exact zRes) ⟨by unfold nextD; rw [if_neg h1, if_neg h2, Int.toNat_natCast, if_pos h3]; rfl, rfl⟩
  · refine gzU ?_
    exact k_ret [] rfl .refl (by exact zRes) ⟨by unfold nextD; rw [if_neg h1, if_neg h2, Int.toNat_natCast, if_neg h3]; rfl, rfl⟩
theorem rat_any (b : Nat) (S : ArT) (lq : List Chunk) (hA : IsR b S lq) (id : Int) (l : List Chunk) (hsub : ∀ c, c ∈ lq → c ∈ l) :
    Fn Tryz.prog 171 [.pointer (some ⟨b, 0, none⟩), .int .i64 id] l fun v l' => v = .int .i64 (atI S.os id) ∧ l' = l := by
  have hlen := hA.ok.len
  obtain ⟨hok, v, cs, rfl, ho⟩ := hA
  obtain ⟨gb, hrow, hcs⟩ := rowV_of ho
  obtain ⟨p, cap, rfl, hp⟩ : ∃ p cap, v = .slice p S.os.length cap ∧ (0 < S.os.length → p = some ⟨gb, 0, none⟩) := by
    rcases hrow with ⟨h, h0⟩ | ⟨cap, h⟩
    · exact ⟨none, 0, by rw [h, h0], fun h => by omega⟩
    · exact ⟨_, cap, h, fun _ => rfl⟩
  have hm := hsub _ (.head _)
  have cl := rfL_l S.n (.slice p S.os.length cap) S.g
  refine fn_of_body Tryz.func171 rfl rfl fun E => ?_
  simp only [argF, Tryz.ntmps171]
  refine gzU ?_
  refine k_loop (α := Nat) (fun k => [(0, .pointer (some ⟨b, 0, none⟩)), (1, .int .i64 id), (5, .int .i64 k)]) (fun _ => l) (fun k => k ≤ S.os.length ∧ ∀ x ∈ S.os.take k, x.id ≠ id) (fun k => S.os.length - k) 0 ⟨Nat.zero_le _, by simp⟩ ⟨rfl, rfl, rfl, trivial⟩ .refl ?_
  rintro k ⟨hk, hd⟩
  by_cases hkl : k < S.os.length
  · obtain ⟨o, ho1⟩ : ∃ o, S.os[k]? = some o := ⟨_, List.getElem?_eq_getElem hkl⟩
    obtain ⟨sp, hcse⟩ := hcs _ _ ho1
    have hpp := hp (by omega)
    subst hpp
    have hm2 := hsub _ (.tail _ (by rw [hcse]; exact .head _))
    have co : (List.toArray (ocs S.os ++ sp))[k * 9]? = some (.int .i64 o.id) := ocs_at ho1 sp 0 (by omega)
    refine gzU ?_
    by_cases he : o.id = id
    · have e : atI S.os id = (k : Int) := by rw [← he]; exact atI_some (at_of hok.asc ho1)
      rw [e]
      refine gzU ?_
      exact k_ret [] rfl .refl (by exact zRes) ⟨rfl, rfl⟩
    · refine gzU ?_
      refine k_next (k + 1) ⟨by omega, fun x hx => ?_⟩ (by omega) ⟨rfl, rfl, rfl, trivial⟩ .refl
      rw [List.take_add_one, ho1] at hx
      rcases List.mem_append.1 hx with hx | hx
      · exact hd x hx
      · rw [Option.toList_some, List.mem_singleton] at hx; rw [hx]; exact he
  · obtain rfl : k = S.os.length := by omega
    rw [List.take_length] at hd
    rw [atI_none (at_no hd)]
    refine gzU ?_
    exact k_ret [] rfl .refl (by exact zRes) ⟨rfl, rfl⟩
theorem rget_any (b : Nat) (S : ArT) (lq : List Chunk) (hA : IsR b S lq) (id : Int) (l : List Chunk) (hsub : ∀ c, c ∈ lq → c ∈ l) :
    Fn Tryz.prog 122 [.pointer (some ⟨b, 0, none⟩), .int .i64 id] l fun v l' => v = .tuple #[.agg (List.toArray (obC (getD' S id).1)), .bool (getD' S id).2] ∧ l' = l := by
  have hA' := hA
  have hlen := hA.ok.len
  obtain ⟨hok, v, cs, rfl, ho⟩ := hA
  have hm := hsub _ (.head _)
  have cl := rfL_l S.n v S.g
  refine fn_of_body Tryz.func122 rfl rfl fun E => ?_
  simp only [argF, Tryz.ntmps122]
  refine gzU ?_
  refine t_e e_alloc rfl rfl rfl ?_; rintro _ _ ⟨b4, _, rfl, rfl⟩
  refine gzU ?_
  refine t_q (q_call rfl rfl fun l2 hl => rat_any b S _ hA' id l2 (fun c hc => hl _ (.tail _ (hsub _ hc)))) rfl rfl rfl ?_
  cases hk : atO S.os id with
  | none =>
    rw [atI_none hk]
    refine gzU ?_
    exact k_ret2 [] (obK b4 obO :: l) rfl (l' := l) .refl (by exact zRes) (.drop .refl) ⟨by unfold getD'; rw [hk]; rfl, rfl⟩
  | some k =>
    rw [atI_some hk]
    obtain ⟨o, ho1, _⟩ := atO_some hk
    have hkl := (List.getElem?_eq_some_iff.1 ho1).1
    rcases ho.2 with ⟨_, h0, _⟩ | ⟨gb, cap, sp, rfl, rfl, _⟩
    · omega
    obtain ⟨x1, x2⟩ := ocs_ext ho1 sp
    have hm2 := hsub _ (.tail _ (.head _))
    refine gzU ?_
    refine t_q (q_loadA rfl (List.Mem.tail _ hm2) x1 x2) rfl rfl rfl ?_
    refine gzU ?_
    refine k_ret2 [] (obK b4 o :: l) rfl (l' := l) .refl (by exact zRes) (.drop .refl) ⟨?_, rfl⟩
    unfold getD'
    rw [hk]
    simp only [List.getD, ho1, Option.getD_some, tup]
theorem mem_lq {c x : Chunk} {l F : List Chunk} (h : c ∈ x :: l) : c ∈ x :: (l ++ F) := by rw [← List.cons_append]; exact List.mem_append_left _ h
def InvI (os : OL) (o : ObT) (i : Nat) (nb : Bool) (L : OL) : Prop :=
  (nb = false ∧ L = os.take i ∧ ∀ x ∈ os.take i, x.id ≤ o.id) ∨
  (nb = true ∧ ∃ j, j ≤ i ∧ L = os.take j ++ o :: (os.drop j).take (i - j) ∧ (∀ x ∈ os.take j, x.id ≤ o.id) ∧ ∀ x ∈ os.drop j, ¬ x.id ≤ o.id)
theorem inv_0 {os : OL} {o : ObT} : InvI os o 0 false [] := .inl ⟨rfl, rfl, by simp⟩
theorem take_snoc {os : OL} {i : Nat} {y : ObT} (hy : os[i]? = some y) : os.take (i + 1) = os.take i ++ [y] := by rw [List.take_add_one, hy]; rfl
theorem inv_B {os : OL} {o y : ObT} {i : Nat} {L : OL} (h : InvI os o i false L) (hy : os[i]? = some y) (hl : ¬ y.id > o.id) : InvI os o (i + 1) false (L ++ [y]) := by
  rcases h with ⟨_, rfl, h⟩ | ⟨h, _⟩
  · refine .inl ⟨rfl, (take_snoc hy).symm, fun x hx => ?_⟩
    rw [take_snoc hy] at hx
    rcases List.mem_append.1 hx with hx | hx
    · exact h x hx
    · rw [List.mem_singleton.1 hx]; omega
  · cases h
theorem inv_A {os : OL} {o y : ObT} {i : Nat} {L : OL} (ha : os.Pairwise fun x y => x.id < y.id) (h : InvI os o i false L) (hy : os[i]? = some y) (hl : y.id > o.id) : InvI os o (i + 1) true ((L ++ [o]) ++ [y]) := by
  rcases h with ⟨_, rfl, h⟩ | ⟨h, _⟩
  · refine .inr ⟨rfl, i, by omega, ?_, h, fun x hx => ?_⟩
    · have hi := (List.getElem?_eq_some_iff.1 hy).1
      have he := (List.getElem?_eq_some_iff.1 hy).2
      rw [Nat.add_sub_cancel_left, List.drop_eq_getElem_cons hi, he]; simp
    · obtain ⟨j, hj⟩ := List.getElem?_of_mem hx
      rw [List.getElem?_drop] at hj
      rcases Nat.eq_zero_or_pos j with rfl | hj0
      · rw [Nat.add_zero, hy] at hj; cases hj; omega
      · have := asc_get ha hy hj (by omega); omega
  · cases h
theorem inv_C {os : OL} {o y : ObT} {i : Nat} {L : OL} (h : InvI os o i true L) (hy : os[i]? = some y) : InvI os o (i + 1) true (L ++ [y]) := by
  rcases h with ⟨h, _⟩ | ⟨_, j, hj, rfl, h1, h2⟩
  · cases h
  · refine .inr ⟨rfl, j, by omega, ?_, h1, h2⟩
    rw [show i + 1 - j = (i - j) + 1 by omega, take_snoc (os := os.drop j) (y := y) (by rw [List.getElem?_drop, show j + (i - j) = i by omega]; exact hy)]
    simp
theorem inv_end {os : OL} {o : ObT} {nb : Bool} {L : OL} (h : InvI os o os.length nb L) : insD os o = if nb then L else L ++ [o] := by
  rcases h with ⟨rfl, rfl, h⟩ | ⟨rfl, j, hj, rfl, h1, h2⟩
  · rw [ins_at (Nat.le_refl _) h (by rw [List.drop_length]; intro x hx; cases hx)]; simp
  · rw [ins_at hj h1 h2]
    simp only [if_true]
    rw [List.take_of_length_le (l := os.drop j) (by rw [List.length_drop]; exact Nat.le_refl _)]
theorem inv_len {os : OL} {o : ObT} {i : Nat} {nb : Bool} {L : OL} (h : InvI os o i nb L) : L.length ≤ os.length + 1 := by
  rcases h with ⟨_, rfl, _⟩ | ⟨_, j, hj, rfl, _⟩
  · rw [List.length_take]; omega
  · rw [List.length_append, List.length_cons, List.length_take, List.length_take, List.length_drop]; omega
abbrev obE (i kd sz fi n : Int) : List Value := [.int .i64 i, .int .i64 kd, .int .i64 sz, .int .i64 fi, .int .i64 n, .int .i64 0, .int .i64 0, .int .i64 0, .int .i64 0]
abbrev obX (B : Nat) (i kd sz fi n : Int) : Chunk := (B, .cells (List.toArray (obE i kd sz fi n)) 68 (0, 0))
theorem keep_dropM (A B F : List Chunk) : Keep (A ++ (B ++ F)) (A ++ F) := ⟨B, List.perm_append_comm_assoc A B F⟩
theorem radd_any (b : Nat) (S : ArT) (lq : List Chunk) (hA : IsR b S lq) (kd sz fi : Int) (F : List Chunk) :
    Fn Tryz.prog 97 [.pointer (some ⟨b, 0, none⟩), .int .i64 kd, .int .i64 sz, .int .i64 fi] (lq ++ F) fun v l' => v = .tuple #[.int .i64 (addD S kd sz fi).1.1, .int .i64 (addD S kd sz fi).1.2] ∧ ∃ lq', IsR b (addD S kd sz fi).2 lq' ∧ l' = lq' ++ F := by
  have hA' := hA
  have hlen := hA.ok.len
  obtain ⟨hok, v, cs, rfl, ho⟩ := hA
  have hn1 := hok.n1
  have hn2 := hok.n2
  obtain ⟨gb, hrow, hcs⟩ := rowV_of ho
  obtain ⟨p, cap, rfl, hp⟩ : ∃ p cap, v = .slice p S.os.length cap ∧ (0 < S.os.length → p = some ⟨gb, 0, none⟩) := by
    rcases hrow with ⟨h, h0⟩ | ⟨cap, h⟩
    · exact ⟨none, 0, by rw [h, h0], fun h => by omega⟩
    · exact ⟨_, cap, h, fun _ => rfl⟩
  have c0 := rfL_n S.n (.slice p S.os.length cap) S.g
  have cl := rfL_l S.n (.slice p S.os.length cap) S.g
  obtain ⟨N, hN⟩ : ∃ N, framesD kd sz = N := ⟨_, rfl⟩
  have hNr := frames_rng kd sz
  rw [hN] at hNr
  refine fn_of_body Tryz.func97 rfl rfl fun E => ?_
  simp only [argF, Tryz.ntmps97]
  simp only [List.cons_append, List.nil_append]
  refine gzU ?_
  refine t_q (q_call rfl rfl fun l2 _ => rfr_any kd sz l2) rfl rfl rfl ?_
  rw [hN]
  by_cases h1 : N = 0
  · refine gzU ?_
    have e := add_e (S := S) (fi := fi) (show addE S kd sz fi = 2 by unfold addE; rw [hN, if_pos h1]) (by decide)
    exact k_ret [] rfl .refl (by exact zRes) ⟨by rw [e]; rfl, _, by rw [e]; exact hA', rfl⟩
  by_cases h2 : fi < 0
  · refine gzU ?_
    have e := add_e (show addE S kd sz fi = 3 by unfold addE; rw [hN, if_neg h1, if_pos (.inl h2)]) (by decide)
    exact k_ret [] rfl .refl (by exact zRes) ⟨by rw [e]; rfl, _, by rw [e]; exact hA', rfl⟩
  by_cases h3 : fi > S.n
  · refine gzU ?_
    have e := add_e (show addE S kd sz fi = 3 by unfold addE; rw [hN, if_neg h1, if_pos (.inr (by omega))]) (by decide)
    exact k_ret [] rfl .refl (by exact zRes) ⟨by rw [e]; rfl, _, by rw [e]; exact hA', rfl⟩
  by_cases h4 : N > S.n - fi
  · refine gzU ?_
    have e := add_e (show addE S kd sz fi = 3 by unfold addE; rw [hN, if_neg h1, if_pos (.inr (by omega))]) (by decide)
    exact k_ret [] rfl .refl (by exact zRes) ⟨by rw [e]; rfl, _, by rw [e]; exact hA', rfl⟩
  refine gzU ?_
  refine t_e e_alloc rfl rfl rfl ?_; rintro _ _ ⟨b11, _, rfl, rfl⟩
  refine gzU ?_
  have eap : ∀ y, apO ⟨0, kd, sz, fi, N, 0, 0, 0, 0⟩ y = apartD kd fi N y := fun y => rfl
  refine k_loop (α := Nat) (fun k => [(0, .pointer (some ⟨b, 0, none⟩)), (3, .int .i64 fi), (11, .pointer (some ⟨b11, 0, none⟩)), (12, .int .i64 k)]) (fun _ => obK b11 ⟨0, kd, sz, fi, N, 0, 0, 0, 0⟩ :: rfC b S.n (.slice p S.os.length cap) S.g :: (cs ++ F)) (fun k => k ≤ S.os.length ∧ ∀ x ∈ S.os.take k, apartD kd fi N x = true) (fun k => S.os.length - k) 0 ⟨Nat.zero_le _, by simp⟩ ⟨rfl, rfl, rfl, rfl, trivial⟩ .refl ?_
  rintro k ⟨hk, hd⟩
  by_cases hkl : k < S.os.length
  · obtain ⟨o, ho1⟩ : ∃ o, S.os[k]? = some o := ⟨_, List.getElem?_eq_getElem hkl⟩
    obtain ⟨sp, hcse⟩ := hcs _ _ ho1
    have hpp := hp (by omega)
    subst hpp
    obtain ⟨x1, x2⟩ := ocs_ext ho1 sp
    have hm2 : (gb, Obj.cells (List.toArray (ocs S.os ++ sp)) 68 (0, 0)) ∈ obK b11 ⟨0, kd, sz, fi, N, 0, 0, 0, 0⟩ :: rfC b S.n (.slice (some ⟨gb, 0, none⟩) S.os.length cap) S.g :: (cs ++ F) := .tail _ (.tail _ (List.mem_append_left _ (by rw [hcse]; exact .head _)))
    refine gzU ?_
    refine c_draw [(0, true), (1, true), (2, true), (3, true), (4, true), (5, true), (6, true), (7, true), (8, true), (9, true)] [[], [], [1], [1, 2], [1, 2, 3], [], [1, 2, 3, 4, 5], [1, 2, 3, 4, 5, 6], [0, 1, 2, 3, 4, 5, 6, 7], [0, 1, 2, 3, 4, 5, 6, 7, 8]] _ (by kernel_rfl) (by kernel_rfl) zAtt (fun _ h => h) ?_
    refine pzU ?_
    apply pl_q
    · exact q_loadA rfl hm2 x1 x2
    · rfl
    · rfl
    · rfl
    refine pzU ?_
    apply pl_q
    · exact q_call rfl rfl fun l2 _ => rmay_any ⟨0, kd, sz, fi, N, 0, 0, 0, 0⟩ o l2
    · rfl
    · rfl
    · rfl
    rw [eap]
    cases hap : apartD kd fi N o with
    | false =>
      refine pzU ?_
      refine gzU ?_
      have e := add_e (show addE S kd sz fi = 16 by unfold addE; rw [hN, if_neg h1, if_neg (by omega), if_pos (all_not (List.mem_of_getElem? ho1) hap)]) (by decide)
      exact k_ret [] rfl (.drop .refl) (by exact zRes) ⟨by rw [e]; rfl, _, by rw [e]; exact hA', rfl⟩
    | true =>
      refine pzU ?_
      refine gzU ?_
      refine k_next (k + 1) ⟨by omega, fun x hx => ?_⟩ (by omega) ⟨rfl, rfl, rfl, rfl, trivial⟩ .refl
      rw [take_snoc ho1] at hx
      rcases List.mem_append.1 hx with hx | hx
      · exact hd x hx
      · rw [List.mem_singleton.1 hx]; exact hap
  · obtain rfl : k = S.os.length := by omega
    rw [List.take_length] at hd
    have hall : (S.os.all fun o => apartD kd fi N o) = true := by rw [List.all_eq_true]; exact hd
    refine gzU ?_
    refine t_q (q_call rfl rfl fun l2 hl => rnext_any b S _ hA' fi l2 (fun c hc => hl _ (.tail _ (mem_lq hc)))) rfl rfl rfl ?_
    by_cases hz : nextD S fi = 0
    · rw [hz]
      refine gzU ?_
      have e := add_e (show addE S kd sz fi = 11 by unfold addE; rw [hN, if_neg h1, if_neg (by omega), if_neg (by rw [hall]; decide), if_pos hz]) (by decide)
      exact k_ret [] rfl (.drop .refl) (by exact zRes) ⟨by rw [e]; rfl, _, by rw [e]; exact hA', rfl⟩
    have hE : addE S kd sz fi = 0 := by unfold addE; rw [hN, if_neg h1, if_neg (by omega), if_neg (by rw [hall]; decide), if_neg hz]
    obtain ⟨f0, f1, f2, f3, f4⟩ := next_pos hok hz
    obtain ⟨I, hI⟩ : ∃ I, nextD S fi = I := ⟨_, rfl⟩
    rw [hI] at f2 f3 f4 hz ⊢
    obtain ⟨j, rfl⟩ : ∃ j : Nat, fi = j := ⟨fi.toNat, by omega⟩
    have hj : j < 64 := by omega
    rw [Int.toNat_natCast] at f2
    have cg := rfL_g S.n (.slice p S.os.length cap) S.g hj
    have hg := hok.g1 j
    have hOk := add_ok hok kd sz j
    rw [add_0 hE] at hOk ⊢
    rw [hI, Int.toNat_natCast] at hOk ⊢
    clear hA'
    refine gzU ?_
    refine c_draw [(0, true), (1, true), (2, true), (3, true), (4, true), (5, true), (6, true), (7, true), (8, true), (9, true), (10, false)] [[], [], [0], [0, 2], [0, 1, 2, 3], [0, 1, 2, 3, 4], [0, 1, 2, 3, 4, 5], [0], [0, 7], [0, 1, 2, 3, 4, 5, 6, 7, 8], [0, 1, 2, 3, 4, 5, 6, 7, 8, 9]] ([]) (by kernel_rfl) (by kernel_rfl) zAtt zHR ?_
    refine pzU ?_
    apply pl_s (S := [rfC b S.n (.slice p S.os.length cap) S.g])
    · exact q_load rfl (.head _) cg
    · exact sing_mem (.tail _ (.head _))
    · rfl
    · rfl
    · rfl
    refine pzU ?_
    apply pl_nS
    · exact e_store (b := b) (off := 2 + j * 1) (cs := List.toArray (rfL S.n (.slice p S.os.length cap) S.g)) rfl rfl rfl (by rw [rfL_setG _ _ _ hj]; exact zUpd) (by rw [List.size_toArray, rfL_len]; omega)
    (· rfl); (· rfl); (· intro _ _ _ c hc; cases hc); (· exact fun _ _ _ x hx ha => anc_all (by kernel_rfl) hx ha)
    rintro _ _ ⟨rfl, rfl⟩
    obtain ⟨g', hg'⟩ : ∃ g', upd S.g j (S.g j + 1) = g' := ⟨_, rfl⟩
    rw [hg'] at hOk ⊢
    have hnewO : newO S kd sz j = ⟨I, kd, sz, j, N, 0, 0, 0, 0⟩ := by unfold newO; rw [hI, hN]
    rw [hnewO] at hOk ⊢
    clear c0 cl cg
    have cl := rfL_l S.n (.slice p S.os.length cap) g'
    refine pzU ?_
    refine gzU ?_
    refine k_loop (α := Nat × Bool × OL × Value × List Chunk) (fun x => [(0, .pointer (some ⟨b, 0, none⟩)), (11, .pointer (some ⟨b11, 0, none⟩)), (13, x.2.2.2.1), (14, .bool x.2.1), (15, .int .i64 x.1)]) (fun x => obX b11 I kd sz j N :: rfC b S.n (.slice p S.os.length cap) g' :: (x.2.2.2.2 ++ (cs ++ F)))
      (fun x => x.1 ≤ S.os.length ∧ InvI S.os ⟨I, kd, sz, j, N, 0, 0, 0, 0⟩ x.1 x.2.1 x.2.2.1 ∧ OwnSl 68 9 x.2.2.2.1 x.2.2.1.length (ocs x.2.2.1) x.2.2.2.2) (fun x => S.os.length - x.1) (0, false, [], .slice none 0 0, []) ⟨Nat.zero_le _, inv_0, OwnSl.nil _ _⟩ ⟨rfl, rfl, rfl, rfl, rfl, trivial⟩ .refl ?_
    rintro ⟨k, nb, L, v, c1⟩ ⟨hk, hinv, hown⟩
    simp only at hk hinv hown ⊢
    have hv1 : v.oneCell' = true := hown.one
    have hLl := inv_len hinv
    by_cases hkl : k < S.os.length
    · obtain ⟨y, hy⟩ : ∃ y, S.os[k]? = some y := ⟨_, List.getElem?_eq_getElem hkl⟩
      obtain ⟨sp, hcse⟩ := hcs _ _ hy
      have hpp := hp (by omega)
      subst hpp
      obtain ⟨x1, x2⟩ := ocs_ext hy sp
      have hmR : ∀ c1 : List Chunk, (gb, Obj.cells (List.toArray (ocs S.os ++ sp)) 68 (0, 0)) ∈ obX b11 I kd sz j N :: rfC b S.n (.slice (some ⟨gb, 0, none⟩) S.os.length cap) g' :: (c1 ++ (cs ++ F)) := fun c1 => .tail _ (.tail _ (List.mem_append_right _ (List.mem_append_left _ (by rw [hcse]; exact .head _))))
      have hmR1 : ∀ c1 : List Chunk, (gb, Obj.cells (List.toArray (ocs S.os ++ sp)) 68 (0, 0)) ∈ c1 ++ (cs ++ F) := fun c1 => List.mem_append_right _ (List.mem_append_left _ (by rw [hcse]; exact .head _))
      have hm1 := hmR1 c1
      have co : (List.toArray (ocs S.os ++ sp))[k * 9]? = some (.int .i64 y.id) := ocs_at hy sp 0 (by omega)
      cases nb with
      | true =>
        refine gzU ?_
        refine c_draw [(0, true), (1, true), (2, true), (3, true), (4, true), (5, true), (6, true), (7, true), (8, true), (9, true), (10, true), (11, true), (12, true), (13, true), (14, true)] [[], [0], [0, 1], [0, 1, 2], [0, 1, 2, 3], [0, 1, 2, 3, 4], [0, 1, 2, 3, 4, 5], [0, 1, 2], [0, 1, 2, 3, 4, 5, 6, 7], [0, 1, 2, 3, 4, 5, 6, 7, 8], [0, 1, 2, 3, 4, 5, 6, 7, 8, 9], [0, 1, 2], [0, 1, 2, 11], [0, 1, 2, 3, 4, 5, 6, 7, 8, 9, 10, 11, 12], [0, 1, 2, 3, 4, 5, 6, 7, 8, 9, 10, 11, 12, 13]] _ (by kernel_rfl) (by kernel_rfl) zAtt (fun _ h => h) ?_
        refine pzU ?_
        refine gzU ?_
        refine t_q (q_loadA rfl (hmR c1) x1 x2) rfl rfl rfl ?_
        refine gzU ?_
        refine t_e (e_litA (k := 9) (ws := obC y) rfl rfl rfl (by decide) (by decide)) rfl rfl rfl ?_
        rintro _ _ ⟨bl2, _, rfl, rfl⟩
        refine t_e (e_appX (k := 9) (X := [obX b11 I kd sz j N, rfC b S.n (.slice (some ⟨gb, 0, none⟩) S.os.length cap) g']) (cs := c1) (F := cs ++ F) (xs := ocs L) (n := (L).length) (zs := obZ) (ws := obC y) rfl rfl rfl hown rfl (by simp [Value.oneCell']) (by first | omega | (simp only [List.length_append, List.length_cons, List.length_nil]; omega)) (by decide)) rfl rfl rfl ?_
        rintro v3 _ ⟨c3, ho3, rfl⟩
        have hv3 : v3.oneCell' = true := ho3.one
        simp only [List.cons_append, List.nil_append]
        refine gzU ?_
        exact k_next (k + 1, true, L ++ [y], v3, c3) ⟨by simp only; omega, inv_C hinv hy, by rw [List.length_append, ocs_snoc]; exact ho3⟩ (by simp only; omega) ⟨rfl, rfl, rfl, rfl, rfl, trivial⟩ .refl
      | false =>
        refine gzU ?_
        refine c_draw [(0, true), (1, true), (2, true), (3, true), (4, true), (5, true), (6, true), (7, true), (8, true), (9, true), (10, true), (11, true), (12, true), (13, true), (14, true)] [[], [0], [0, 1], [0, 1, 2], [0, 1, 2, 3], [0, 1, 2, 3, 4], [0, 1, 2, 3, 4, 5], [0, 1, 2], [0, 1, 2, 3, 4, 5, 6, 7], [0, 1, 2, 3, 4, 5, 6, 7, 8], [0, 1, 2, 3, 4, 5, 6, 7, 8, 9], [0, 1, 2], [0, 1, 2, 11], [0, 1, 2, 3, 4, 5, 6, 7, 8, 9, 10, 11, 12], [0, 1, 2, 3, 4, 5, 6, 7, 8, 9, 10, 11, 12, 13]] _ (by kernel_rfl) (by kernel_rfl) zAtt (fun _ h => h) ?_
        refine pzU ?_
        by_cases hy2 : y.id > I
        · refine pzU ?_
          refine gzU ?_
          refine t_e (e_litA (k := 9) (ws := obE I kd sz j N) rfl rfl rfl (by decide) (by decide)) rfl rfl rfl ?_
          rintro _ _ ⟨bl, _, rfl, rfl⟩
          refine t_e (e_appX (k := 9) (X := [obX b11 I kd sz j N, rfC b S.n (.slice (some ⟨gb, 0, none⟩) S.os.length cap) g']) (cs := c1) (F := cs ++ F) (xs := ocs L) (n := L.length) (zs := obZ) (ws := obE I kd sz j N) rfl rfl rfl hown rfl (by simp [Value.oneCell']) (by omega) (by decide)) rfl rfl rfl ?_
          rintro v2 _ ⟨c2, ho2, rfl⟩
          have hv2 : v2.oneCell' = true := ho2.one
          have ho2' : OwnSl 68 9 v2 (L ++ [(⟨I, kd, sz, j, N, 0, 0, 0, 0⟩ : ObT)]).length (ocs (L ++ [(⟨I, kd, sz, j, N, 0, 0, 0, 0⟩ : ObT)])) c2 := by rw [List.length_append, ocs_snoc]; exact ho2
          clear hm1
          have hm1 := hmR1 c2
          simp only [List.cons_append, List.nil_append]
          refine gzU ?_
          refine t_q (q_loadA rfl (hmR c2) x1 x2) rfl rfl rfl ?_
          refine gzU ?_
          refine t_e (e_litA (k := 9) (ws := obC y) rfl rfl rfl (by decide) (by decide)) rfl rfl rfl ?_
          rintro _ _ ⟨bl2, _, rfl, rfl⟩
          refine t_e (e_appX (k := 9) (X := [obX b11 I kd sz j N, rfC b S.n (.slice (some ⟨gb, 0, none⟩) S.os.length cap) g']) (cs := c2) (F := cs ++ F) (xs := ocs (L ++ [(⟨I, kd, sz, j, N, 0, 0, 0, 0⟩ : ObT)])) (n := ((L ++ [(⟨I, kd, sz, j, N, 0, 0, 0, 0⟩ : ObT)])).length) (zs := obZ) (ws := obC y) rfl rfl rfl ho2' rfl (by simp [Value.oneCell']) (by first | omega | (simp only [List.length_append, List.length_cons, List.length_nil]; omega)) (by decide)) rfl rfl rfl ?_
          rintro v3 _ ⟨c3, ho3, rfl⟩
          have hv3 : v3.oneCell' = true := ho3.one
          simp only [List.cons_append, List.nil_append]
          refine gzU ?_
          exact k_next (k + 1, true, (L ++ [(⟨I, kd, sz, j, N, 0, 0, 0, 0⟩ : ObT)]) ++ [y], v3, c3) ⟨by simp only; omega, inv_A hok.asc hinv hy hy2, by rw [List.length_append, ocs_snoc]; exact ho3⟩ (by simp only; omega) ⟨rfl, rfl, rfl, rfl, rfl, trivial⟩ .refl
        · refine pzU ?_
          refine gzU ?_
          refine t_q (q_loadA rfl (hmR c1) x1 x2) rfl rfl rfl ?_
          refine gzU ?_
          refine t_e (e_litA (k := 9) (ws := obC y) rfl rfl rfl (by decide) (by decide)) rfl rfl rfl ?_
          rintro _ _ ⟨bl2, _, rfl, rfl⟩
          refine t_e (e_appX (k := 9) (X := [obX b11 I kd sz j N, rfC b S.n (.slice (some ⟨gb, 0, none⟩) S.os.length cap) g']) (cs := c1) (F := cs ++ F) (xs := ocs L) (n := (L).length) (zs := obZ) (ws := obC y) rfl rfl rfl hown rfl (by simp [Value.oneCell']) (by first | omega | (simp only [List.length_append, List.length_cons, List.length_nil]; omega)) (by decide)) rfl rfl rfl ?_
          rintro v3 _ ⟨c3, ho3, rfl⟩
          have hv3 : v3.oneCell' = true := ho3.one
          simp only [List.cons_append, List.nil_append]
          refine gzU ?_
          exact k_next (k + 1, false, L ++ [y], v3, c3) ⟨by simp only; omega, inv_B hinv hy hy2, by rw [List.length_append, ocs_snoc]; exact ho3⟩ (by simp only; omega) ⟨rfl, rfl, rfl, rfl, rfl, trivial⟩ .refl
    · obtain rfl : k = S.os.length := by omega
      have he := inv_end hinv
      cases nb with
      | true =>
        simp only [if_true] at he
        refine gzU ?_
        refine t_n (e_store (b := b) (off := 1) (cs := List.toArray (rfL S.n (.slice p S.os.length cap) g')) (l' := obX b11 I kd sz j N :: rfC b S.n v g' :: (c1 ++ (cs ++ F))) rfl rfl hown.one (by rw [rfL_setL]; exact zUpd) (by rw [List.size_toArray, rfL_len]; omega)) rfl rfl ?_
        rintro _ _ ⟨rfl, rfl⟩
        refine gzU ?_
        refine k_ret [] rfl (l' := (rfC b S.n v g' :: c1) ++ F) (.drop (.pick .here (keep_dropM c1 cs F))) (by exact zRes) ⟨rfl, rfC b S.n v g' :: c1, ⟨hOk, v, c1, rfl, ?_⟩, rfl⟩
        show OwnSl 68 9 v (insD S.os ⟨I, kd, sz, j, N, 0, 0, 0, 0⟩).length (ocs (insD S.os ⟨I, kd, sz, j, N, 0, 0, 0, 0⟩)) c1
        rw [he]
        exact hown
      | false =>
        simp only [Bool.false_eq_true, if_false] at he
        refine gzU ?_
        refine t_e (e_litA (k := 9) (ws := obE I kd sz j N) rfl rfl rfl (by decide) (by decide)) rfl rfl rfl ?_
        rintro _ _ ⟨bl, _, rfl, rfl⟩
        refine t_e (e_appX (k := 9) (X := [obX b11 I kd sz j N, rfC b S.n (.slice p S.os.length cap) g']) (cs := c1) (F := cs ++ F) (xs := ocs L) (n := L.length) (zs := obZ) (ws := obE I kd sz j N) rfl rfl rfl hown rfl (by simp [Value.oneCell']) (by omega) (by decide)) rfl rfl rfl ?_
        rintro v2 _ ⟨c2, ho2, rfl⟩
        have hv2 : v2.oneCell' = true := ho2.one
        have ho2' : OwnSl 68 9 v2 (L ++ [(⟨I, kd, sz, j, N, 0, 0, 0, 0⟩ : ObT)]).length (ocs (L ++ [(⟨I, kd, sz, j, N, 0, 0, 0, 0⟩ : ObT)])) c2 := by rw [List.length_append, ocs_snoc]; exact ho2
        simp only [List.cons_append, List.nil_append]
        refine gzU ?_
        refine t_n (e_store (b := b) (off := 1) (cs := List.toArray (rfL S.n (.slice p S.os.length cap) g')) (l' := obX b11 I kd sz j N :: rfC b S.n v2 g' :: (c2 ++ (cs ++ F))) rfl rfl ho2'.one (by rw [rfL_setL]; exact zUpd) (by rw [List.size_toArray, rfL_len]; omega)) rfl rfl ?_
        rintro _ _ ⟨rfl, rfl⟩
        refine gzU ?_
        refine k_ret [] rfl (l' := (rfC b S.n v2 g' :: c2) ++ F) (.drop (.pick .here (keep_dropM c2 cs F))) (by exact zRes) ⟨rfl, rfC b S.n v2 g' :: c2, ⟨hOk, v2, c2, rfl, ?_⟩, rfl⟩
        show OwnSl 68 9 v2 (insD S.os ⟨I, kd, sz, j, N, 0, 0, 0, 0⟩).length (ocs (insD S.os ⟨I, kd, sz, j, N, 0, 0, 0, 0⟩)) c2
        rw [he]
        exact ho2'
end Go.Proofs.YtcjknmpogkofpaaGreat.Ar
namespace Go.Proofs.YtcjknmpogkofpaaGreat
open Go.RowKit
set_option maxRecDepth 20000
set_option maxHeartbeats 400000
theorem within_any (x lo hi : Int) (l : List Chunk) : Fn Tryz.prog 188 [.int .i64 x, .int .i64 lo, .int .i64 hi] l fun v l' => v = .bool (decide (lo ≤ x) && decide (x ≤ hi)) ∧ l' = l := by
  refine fn_of_body Tryz.func188 rfl rfl fun E => ?_
  simp only [argF, Tryz.ntmps188]
  by_cases h : lo ≤ x
  · rw [decide_eq_true h, Bool.true_and]
    refine gz ?_
    exact k_ret [] rfl .refl (by exact zRes) ⟨rfl, rfl⟩
  · rw [decide_eq_false h, Bool.false_and]
    refine gz ?_
    exact k_ret [] rfl .refl (by exact zRes) ⟨rfl, rfl⟩
theorem rights_any (x : Int) (l : List Chunk) : Fn Tryz.prog 190 [.int .i64 x] l fun v l' => v = .bool (decide (0 ≤ x) && decide (x ≤ 7)) ∧ l' = l := by
  refine fn_of_body Tryz.func190 rfl rfl fun E => ?_
  simp only [argF, Tryz.ntmps190]
  by_cases h : 0 ≤ x
  · rw [decide_eq_true h, Bool.true_and]
    refine gz ?_
    exact k_ret [] rfl .refl (by exact zRes) ⟨rfl, rfl⟩
  · rw [decide_eq_false h, Bool.false_and]
    refine gz ?_
    exact k_ret [] rfl .refl (by exact zRes) ⟨rfl, rfl⟩
def bitsTo (v k : Nat) : List Nat := (List.range k).filter fun i => v.testBit i
theorem bitsTo_t {v k : Nat} (h : v.testBit k = true) : bitsTo v (k + 1) = bitsTo v k ++ [k] := by unfold bitsTo; rw [List.range_succ, List.filter_append, List.filter_cons_of_pos h]; rfl
theorem bitsTo_f {v k : Nat} (h : v.testBit k = false) : bitsTo v (k + 1) = bitsTo v k := by unfold bitsTo; rw [List.range_succ, List.filter_append, List.filter_cons_of_neg (by rw [h]; simp)]; simp
theorem bitsTo_pre (v k : Nat) : ∀ m, bitsTo v k <+: bitsTo v (k + m)
  | 0 => List.prefix_rfl
  | m + 1 => (bitsTo_pre v k m).trans (by
      show bitsTo v (k + m) <+: bitsTo v (k + m + 1)
      cases h : v.testBit (k + m) with
      | true => rw [bitsTo_t h]; exact List.prefix_append _ _
      | false => rw [bitsTo_f h]; exact List.prefix_rfl)
abbrev u64C (B v : Nat) : Chunk := (B, .cells #[.int .u64 (v : Nat)] 71 (0, 0))
theorem bits_any (v : Nat) (l : List Chunk) : Fn Tryz.prog 214 [.int .u64 (v : Nat)] l fun r l' => ∃ B, r = .func (.func 224) #[] #[.pointer (some ⟨B, 0, none⟩)] ∧ l' = u64C B v :: l := by
  refine fn_of_body Tryz.func214 rfl rfl fun E => ?_
  simp only [argF, Tryz.ntmps214]
  refine gz ?_
  refine t_e (e_box1 rfl rfl) rfl rfl rfl ?_
  rintro _ _ ⟨B, hB, rfl, rfl⟩
  refine gz ?_
  exact k_ret [] rfl .refl (by exact zRes) ⟨B, rfl, rfl⟩
theorem bits_iter (B v : Nat) (hv : v < 18446744073709551616) : IterS Tryz.prog 224 [.pointer (some ⟨B, 0, none⟩)] (fun i : Nat => [.int .i64 i]) (fun xs => xs = bitsTo v 64) (fun pre => pre <+: bitsTo v 64)
    (fun _ l => u64C B v ∈ l) := by
  refine ⟨fun r I Ix G0 hneed hY l G hG h0 => ?_⟩
  refine fn_of_body Tryz.func224 rfl rfl fun E => ?_
  simp only [argF, Tryz.ntmps224]
  refine gz ?_
  refine k_loop (α := Nat × List Chunk) (fun x => [(0, .func (.yield r) #[] #[]), (1, .pointer (some ⟨B, 0, none⟩)), (4, .int .i64 x.1)]) (fun x => x.2 ++ G) (fun x => x.1 ≤ 64 ∧ I (bitsTo v x.1) x.2) (fun x => 64 - x.1) (0, l) ⟨Nat.zero_le _, h0⟩ ⟨rfl, rfl, rfl, trivial⟩ .refl ?_
  rintro ⟨k, l⟩ ⟨hk, hI⟩
  simp only at hk hI ⊢
  have hm := hneed _ _ G hG hI
  by_cases hlt : k < 64
  · refine gz ?_
    refine t_q (q_shr (n := k) rfl rfl (by show k ≤ 64; omega)) rfl rfl rfl ?_
    have hsh : ((v : Nat) : Int) / 2 ^ k = ((v / 2 ^ k : Nat) : Int) := by norm_cast
    rw [hsh]
    refine t_q (q_and (b := 1) rfl rfl (Nat.lt_of_le_of_lt (Nat.div_le_self _ _) hv) (by omega)) rfl rfl rfl ?_
    rw [Nat.and_one_is_mod]
    cases hb : v.testBit k with
    | true =>
      have hb2 : v / 2 ^ k % 2 = 1 := by rw [Nat.testBit_eq_decide_div_mod_eq] at hb; simpa using hb
      have hp : bitsTo v k ++ [k] <+: bitsTo v 64 := by
        rw [← bitsTo_t hb]
        have := bitsTo_pre v (k + 1) (64 - (k + 1))
        rw [show k + 1 + (64 - (k + 1)) = 64 by omega] at this; exact this
      have hy := hY (bitsTo v k) k l G hG hI hp
      rw [hb2]
      refine gz ?_
      refine t_eh (e_yield rfl rfl hy) rfl rfl rfl ?_
      rintro w l' ⟨l1, rfl, ⟨rfl, hI'⟩ | ⟨rfl, hx⟩⟩
      · refine gz ?_
        exact k_next (k + 1, l1) ⟨by simp only; omega, by simp only; rw [bitsTo_t hb]; exact hI'⟩ (by simp only; omega) ⟨rfl, rfl, rfl, trivial⟩ .refl
      · refine gz ?_
        exact k_ret [] rfl .refl (by exact zRes) ⟨l1, rfl, .inr ⟨_, hp, hx⟩⟩
    | false =>
      have hb2 : v / 2 ^ k % 2 = 0 := by rw [Nat.testBit_eq_decide_div_mod_eq] at hb; simp at hb; omega
      rw [hb2]
      refine gz ?_
      exact k_next (k + 1, l) ⟨by simp only; omega, by simp only; rw [bitsTo_f hb]; exact hI⟩ (by simp only; omega) ⟨rfl, rfl, rfl, trivial⟩ .refl
  · obtain rfl : k = 64 := by omega
    refine gz ?_
    exact k_ret [] rfl .refl (by exact zRes) ⟨l, rfl, .inl ⟨_, rfl, hI⟩⟩
def fitsB (v : Nat) (n : Int) : Bool := (bitsTo v 64).all fun j => decide ((j : Int) < n)
abbrev bC (B : Nat) (x : Bool) : Chunk := (B, .cells #[.bool x] 4 (0, 0))
abbrev inC (B : Nat) (x : Int) : Chunk := (B, .cells #[.int .i64 x] 3 (0, 0))
theorem fits_any (v : Nat) (hv : v < 18446744073709551616) (n : Int) (l : List Chunk) : Fn Tryz.prog 189 [.int .u64 (v : Nat), .int .i64 n] l fun r l' => r = .bool (fitsB v n) ∧ l' = l := by
  refine fn_of_body Tryz.func189 rfl rfl fun E => ?_
  simp only [argF, Tryz.ntmps189]
  refine gz ?_
  (first | refine t_e (e_box1 rfl rfl) rfl rfl rfl ?_ | refine t_e (e_boxA rfl) rfl rfl rfl ?_); rintro _ _ ⟨b3, _, rfl, rfl⟩
  refine gz ?_
  refine t_e e_alloc rfl rfl rfl ?_; rintro _ _ ⟨b4, _, rfl, rfl⟩
  refine gz ?_
  refine t_e (e_call0 rfl rfl (bits_any v _)) rfl rfl rfl ?_
  rintro _ _ ⟨B, rfl, rfl⟩
  refine gz ?_
  refine c_range (α := Nat) (ps := [8]) (lb := [.pointer (some ⟨B, 0, none⟩)]) rfl (bits_iter B v hv) (fun _ => rfl) rfl
    (fun pre l => l = [u64C B v, bC b4 false, inC b3 n] ∧ ∀ j, j ∈ pre → (j : Int) < n)
    (fun c pre l => c = .ret ∧ (∃ j, j ∈ pre ∧ ¬ (j : Int) < n) ∧ l = [bC b4 false])
    _ l (fun pre l2 X2 hX h => by rw [h.1]; exact List.Mem.head _) (by exact zKeep) ⟨rfl, by simp⟩ ?_ ?_ ?_
  · rintro E r0 rec pre y l' T ⟨fn, tmps, D, rfl⟩ hT ⟨rfl, hpre⟩ hsp
    simp only [putPs, List.cons_append, List.nil_append]
    refine gz ?_
    refine p_begin (by exact zUpd) ?_
    by_cases hy : (y : Int) < n
    · refine gz ?_
      refine p_round _ .refl ⟨rfl, fun j hj => ?_⟩
      rcases List.mem_append.1 hj with hj | hj
      · exact hpre j hj
      · rw [List.mem_singleton.1 hj]; exact hy
    · refine gz ?_
      exact p_round_ret [bC b4 false] (by exact zKeep) ⟨rfl, ⟨y, by simp, hy⟩, rfl⟩
  · rintro D xs l' rfl ⟨rfl, hpre⟩
    have e : fitsB v n = true := by unfold fitsB; exact List.all_eq_true.2 fun j hj => by simpa using hpre j hj
    rw [e]
    simp only [List.cons_append, List.nil_append]
    refine gz ?_
    exact k_ret2 [D] (bC b4 true :: l) rfl (l' := l) (by exact zKeep) (by exact zRes) (.drop .refl) ⟨rfl, rfl⟩
  · rintro D c pre l' hsp ⟨rfl, ⟨j, hj, hn⟩, rfl⟩
    have e : fitsB v n = false := by
      cases h : fitsB v n with
      | false => rfl
      | true => exact absurd (by simpa using List.all_eq_true.1 h j (hsp.subset hj)) hn
    rw [e]
    simp only [List.cons_append, List.nil_append]
    refine gz ?_
    exact k_ret2 [D] (bC b4 false :: l) rfl (l' := l) (by exact zKeep) (by exact zRes) (.drop .refl) ⟨rfl, rfl⟩
structure CapT where
  kind : Int
  obj : Int
  rights : Int
  badge : Int
  guard : Int
  bits : Int
  serial : Int
  page : Int
abbrev encC (c : CapT) : List Value := [.int .i64 c.kind, .int .i64 c.obj, .int .i64 c.rights, .int .u64 c.badge, .int .i64 c.guard, .int .i64 c.bits, .int .i64 c.serial, .int .i64 c.page]
abbrev capK : List (Option IntKind) := [some .i64, some .i64, some .i64, some .u64, some .i64, some .i64, some .i64, some .i64]
theorem encC_k (c : CapT) : AllK capK (encC c) := ⟨_, _, rfl, ⟨_, rfl⟩, _, _, rfl, ⟨_, rfl⟩, _, _, rfl, ⟨_, rfl⟩, _, _, rfl, ⟨_, rfl⟩, _, _, rfl, ⟨_, rfl⟩, _, _, rfl, ⟨_, rfl⟩, _, _, rfl, ⟨_, rfl⟩, _, _, rfl, ⟨_, rfl⟩, rfl⟩
theorem encC_inj : ∀ x y, encC x = encC y → x = y := fun x y h => by
  cases x; cases y
  simp only [encC, List.cons.injEq, Value.int.injEq, true_and, and_true] at h
  simp only [CapT.mk.injEq]
  exact h
instance : EQ Tryz.prog 112 capK := ⟨by kernel_rfl⟩
abbrev capC (B : Nat) (c : CapT) : Chunk := (B, .cells (List.toArray (encC c)) 112 (0, 0))
def eqC (a b : CapT) : Bool := eqCells (encC a) (encC b)
theorem eqC_iff {a b : CapT} : eqC a b = true ↔ a = b := by
  unfold eqC
  rw [eqCells_iff (encC_k a) (encC_k b)]
  exact ⟨encC_inj a b, fun h => by rw [h]⟩
def u64V (x : Int) : Nat := (x % 18446744073709551616).toNat
theorem u64V_lt (x : Int) : u64V x < 18446744073709551616 := by
  have h1 := Int.emod_nonneg x (b := (18446744073709551616 : Int)) (by omega)
  have h2 := Int.emod_lt_of_pos x (b := (18446744073709551616 : Int)) (by omega)
  unfold u64V; omega
theorem u64V_wrap (x : Int) : IntKind.u64.wrap x = ((u64V x : Nat) : Int) := by
  have h1 := Int.emod_nonneg x (b := (18446744073709551616 : Int)) (by omega)
  have : IntKind.u64.wrap x = x % 18446744073709551616 := by simp [IntKind.wrap, IntKind.signed, IntKind.bits]
  rw [this]; unfold u64V; omega
def inObj (x : Int) : Bool := decide (1 ≤ x) && decide (x ≤ 65535)
abbrev only0 (c : CapT) : CapT := ⟨c.kind, 0, 0, 0, 0, 0, 0, 0⟩
abbrev only1 (c : CapT) : CapT := ⟨c.kind, c.obj, 0, 0, 0, 0, 0, 0⟩
abbrev only2 (c : CapT) : CapT := ⟨c.kind, c.obj, 0, 0, c.guard, c.bits, 0, 0⟩
abbrev only3 (c : CapT) : CapT := ⟨c.kind, c.obj, c.rights, 0, 0, 0, c.serial, c.page⟩
abbrev only8 (c : CapT) : CapT := ⟨c.kind, c.obj, c.rights, c.badge, 0, 0, 0, 0⟩
def nodeB (c : CapT) : Bool := (decide (0 ≤ c.bits) && decide (c.bits ≤ 12)) && (decide (0 ≤ c.guard) && fitsB (u64V c.guard) c.bits)
def placedB (c : CapT) : Bool := (decide (1 ≤ c.serial) && decide (c.serial ≤ 16777215)) && (decide (0 ≤ c.page) && decide (c.page ≤ 511))
def frameB (c : CapT) : Bool := (decide (1 ≤ c.rights) && decide (c.rights ≤ 3)) && (placedB c || (decide (c.serial = 0) && decide (c.page = 0)))
def endB (c : CapT) : Bool := (decide (0 ≤ c.rights) && decide (c.rights ≤ 7)) && decide (c.badge ≤ 16777215)
def mayC (c : CapT) : Bool :=
  if c.kind = 0 ∨ c.kind = 7 then eqC c (only0 c)
  else if c.kind = 1 ∨ c.kind = 4 ∨ c.kind = 5 ∨ c.kind = 6 ∨ c.kind = 9 then eqC c (only1 c) && inObj c.obj
  else if c.kind = 2 then nodeB c && (eqC c (only2 c) && inObj c.obj)
  else if c.kind = 3 then frameB c && (eqC c (only3 c) && inObj c.obj)
  else if c.kind = 8 then endB c && (eqC c (only8 c) && inObj c.obj)
  else false
set_option maxRecDepth 20000 in
theorem mayC_any (c : CapT) (l : List Chunk) : Fn Tryz.prog 144 [.agg (List.toArray (encC c))] l fun v l' => v = .bool (mayC c) ∧ l' = l := by
  refine fn_of_body Tryz.func144 rfl rfl fun E => ?_
  simp only [argF, Tryz.ntmps144]
  refine gzU ?_
  (first | refine t_e (e_box1 rfl rfl) rfl rfl rfl ?_ | refine t_e (e_boxA rfl) rfl rfl rfl ?_); rintro _ _ ⟨b1, _, rfl, rfl⟩
  refine gzU ?_
  refine t_e e_alloc rfl rfl rfl ?_; rintro _ _ ⟨b3, _, rfl, rfl⟩
  iterate 10 refine gzSU ?_
  by_cases h0 : c.kind = 0 ∨ c.kind = 7
  · have e : mayC c = eqC c (only0 c) := by unfold mayC; rw [if_pos h0]
    rw [e]
    rcases h0 with h0 | h0
    · refine gzU ?_
      refine t_q (q_eqagg (ys := encC (only0 c)) rfl rfl (encC_k c) (encC_k _)) rfl rfl rfl ?_
      refine gzU ?_
      exact k_ret [] rfl (.drop (.drop .refl)) (by exact zRes) ⟨rfl, rfl⟩
    · refine gzU ?_
      refine t_q (q_eqagg (ys := encC (only0 c)) rfl rfl (encC_k c) (encC_k _)) rfl rfl rfl ?_
      refine gzU ?_
      exact k_ret [] rfl (.drop (.drop .refl)) (by exact zRes) ⟨rfl, rfl⟩
  by_cases h1 : c.kind = 1 ∨ c.kind = 4 ∨ c.kind = 5 ∨ c.kind = 6 ∨ c.kind = 9
  · have e : mayC c = (eqC c (only1 c) && inObj c.obj) := by unfold mayC; rw [if_neg h0, if_pos h1]
    rw [e]
    unfold inObj
    rcases h1 with h1 | h1 | h1 | h1 | h1
    · refine gzU ?_
      refine t_q (q_eqagg (ys := encC (only1 c)) rfl rfl (encC_k c) (encC_k _)) rfl rfl rfl ?_
      rw [show eqCells (encC c) (encC (only1 c)) = eqC c (only1 c) from rfl]
      cases he : eqC c (only1 c) with
      | false =>
        rw [Bool.false_and]
        refine gzU ?_
        exact k_ret [] rfl (.drop (.drop .refl)) (by exact zRes) ⟨rfl, rfl⟩
      | true =>
        rw [Bool.true_and]
        refine gzU ?_
        refine t_h (q_call rfl rfl fun l2 _ => within_any c.obj 1 65535 l2) rfl rfl rfl ?_
        refine gzU ?_
        exact k_ret [] rfl (.drop (.drop .refl)) (by exact zRes) ⟨rfl, rfl⟩
    · refine gzU ?_
      refine t_q (q_eqagg (ys := encC (only1 c)) rfl rfl (encC_k c) (encC_k _)) rfl rfl rfl ?_
      rw [show eqCells (encC c) (encC (only1 c)) = eqC c (only1 c) from rfl]
      cases he : eqC c (only1 c) with
      | false =>
        rw [Bool.false_and]
        refine gzU ?_
        exact k_ret [] rfl (.drop (.drop .refl)) (by exact zRes) ⟨rfl, rfl⟩
      | true =>
        rw [Bool.true_and]
        refine gzU ?_
        refine t_h (q_call rfl rfl fun l2 _ => within_any c.obj 1 65535 l2) rfl rfl rfl ?_
        refine gzU ?_
        exact k_ret [] rfl (.drop (.drop .refl)) (by exact zRes) ⟨rfl, rfl⟩
    · refine gzU ?_
      refine t_q (q_eqagg (ys := encC (only1 c)) rfl rfl (encC_k c) (encC_k _)) rfl rfl rfl ?_
      rw [show eqCells (encC c) (encC (only1 c)) = eqC c (only1 c) from rfl]
      cases he : eqC c (only1 c) with
      | false =>
        rw [Bool.false_and]
        refine gzU ?_
        exact k_ret [] rfl (.drop (.drop .refl)) (by exact zRes) ⟨rfl, rfl⟩
      | true =>
        rw [Bool.true_and]
        refine gzU ?_
        refine t_h (q_call rfl rfl fun l2 _ => within_any c.obj 1 65535 l2) rfl rfl rfl ?_
        refine gzU ?_
        exact k_ret [] rfl (.drop (.drop .refl)) (by exact zRes) ⟨rfl, rfl⟩
    · refine gzU ?_
      refine t_q (q_eqagg (ys := encC (only1 c)) rfl rfl (encC_k c) (encC_k _)) rfl rfl rfl ?_
      rw [show eqCells (encC c) (encC (only1 c)) = eqC c (only1 c) from rfl]
      cases he : eqC c (only1 c) with
      | false =>
        rw [Bool.false_and]
        refine gzU ?_
        exact k_ret [] rfl (.drop (.drop .refl)) (by exact zRes) ⟨rfl, rfl⟩
      | true =>
        rw [Bool.true_and]
        refine gzU ?_
        refine t_h (q_call rfl rfl fun l2 _ => within_any c.obj 1 65535 l2) rfl rfl rfl ?_
        refine gzU ?_
        exact k_ret [] rfl (.drop (.drop .refl)) (by exact zRes) ⟨rfl, rfl⟩
    · refine gzU ?_
      refine t_q (q_eqagg (ys := encC (only1 c)) rfl rfl (encC_k c) (encC_k _)) rfl rfl rfl ?_
      rw [show eqCells (encC c) (encC (only1 c)) = eqC c (only1 c) from rfl]
      cases he : eqC c (only1 c) with
      | false =>
        rw [Bool.false_and]
        refine gzU ?_
        exact k_ret [] rfl (.drop (.drop .refl)) (by exact zRes) ⟨rfl, rfl⟩
      | true =>
        rw [Bool.true_and]
        refine gzU ?_
        refine t_h (q_call rfl rfl fun l2 _ => within_any c.obj 1 65535 l2) rfl rfl rfl ?_
        refine gzU ?_
        exact k_ret [] rfl (.drop (.drop .refl)) (by exact zRes) ⟨rfl, rfl⟩
  by_cases h2 : c.kind = 2
  · have e : mayC c = (nodeB c && (eqC c (only2 c) && inObj c.obj)) := by unfold mayC; rw [if_neg h0, if_neg h1, if_pos h2]
    rw [e]
    unfold nodeB inObj
    refine gzU ?_
    refine c_draw [(0, true), (1, true), (2, true), (3, true), (4, true), (5, false), (6, true), (7, false)] [[], [0], [], [2], [0, 1], [0, 1, 4], [0, 1, 2, 3, 4, 5], [0, 1, 2, 3, 4, 5, 6]] ([capC b1 c]) (by kernel_rfl) (by kernel_rfl) zAtt zHR ?_
    refine pzU ?_
    refine gzU ?_
    refine t_q (q_call rfl rfl fun l2 _ => within_any c.bits 0 12 l2) rfl rfl rfl ?_
    cases k1 : (decide (0 ≤ c.bits) && decide (c.bits ≤ 12)) with
    | false =>
      rw [Bool.false_and, Bool.false_and]
      refine gzU ?_
      exact k_ret [] rfl (.drop (.drop .refl)) (by exact zRes) ⟨rfl, rfl⟩
    | true =>
      rw [Bool.true_and]
      by_cases k2 : 0 ≤ c.guard
      case neg =>
        rw [decide_eq_false k2, Bool.false_and, Bool.false_and]
        refine gzU ?_
        exact k_ret [] rfl (.drop (.drop .refl)) (by exact zRes) ⟨rfl, rfl⟩
      rw [decide_eq_true k2, Bool.true_and]
      refine gzU ?_
      refine t_h (q_conv_w rfl) rfl rfl rfl ?_
      rw [u64V_wrap]
      refine gzU ?_
      refine t_h (q_call rfl rfl fun l2 _ => fits_any (u64V c.guard) (u64V_lt _) c.bits l2) rfl rfl rfl ?_
      cases k3 : fitsB (u64V c.guard) c.bits with
      | false =>
        rw [Bool.false_and]
        refine gzU ?_
        exact k_ret [] rfl (.drop (.drop .refl)) (by exact zRes) ⟨rfl, rfl⟩
      | true =>
        rw [Bool.true_and]
        refine gzU ?_
        refine t_q (q_eqagg (ys := encC (only2 c)) rfl rfl (encC_k c) (encC_k _)) rfl rfl rfl ?_
        rw [show eqCells (encC c) (encC (only2 c)) = eqC c (only2 c) from rfl]
        cases he : eqC c (only2 c) with
        | false =>
          rw [Bool.false_and]
          refine gzU ?_
          exact k_ret [] rfl (.drop (.drop .refl)) (by exact zRes) ⟨rfl, rfl⟩
        | true =>
          rw [Bool.true_and]
          refine gzU ?_
          refine t_h (q_call rfl rfl fun l2 _ => within_any c.obj 1 65535 l2) rfl rfl rfl ?_
          refine gzU ?_
          exact k_ret [] rfl (.drop (.drop .refl)) (by exact zRes) ⟨rfl, rfl⟩
  by_cases h3 : c.kind = 3
  · have e : mayC c = (frameB c && (eqC c (only3 c) && inObj c.obj)) := by unfold mayC; rw [if_neg h0, if_neg h1, if_neg h2, if_pos h3]
    rw [e]
    unfold frameB inObj
    refine gzU ?_
    refine c_draw [(0, true), (1, true), (2, true), (3, true), (4, true), (5, true), (6, true), (7, false), (8, true), (9, false), (10, true), (11, false)] [[], [0], [], [2], [], [4], [0, 1], [0, 1, 6], [0, 1, 2, 3, 6, 7], [0, 1, 2, 3, 6, 7, 8], [0, 1, 2, 3, 4, 5, 6, 7, 8, 9], [0, 1, 2, 3, 4, 5, 6, 7, 8, 9, 10]] ([capC b1 c]) (by kernel_rfl) (by kernel_rfl) zAtt zHR ?_
    refine pzU ?_
    refine gzU ?_
    refine t_q (q_call rfl rfl fun l2 _ => within_any c.serial 1 16777215 l2) rfl rfl rfl ?_
    cases k1 : (decide (1 ≤ c.serial) && decide (c.serial ≤ 16777215)) with
    | false =>
      have kp : placedB c = false := by unfold placedB; rw [k1]; rfl
      refine gzU ?_
      refine t_q (q_call rfl rfl fun l2 _ => within_any c.rights 1 3 l2) rfl rfl rfl ?_
      cases kr : (decide (1 ≤ c.rights) && decide (c.rights ≤ 3)) with
      | false =>
        rw [Bool.false_and, Bool.false_and]
        refine gzU ?_
        exact k_ret [] rfl (.drop (.drop .refl)) (by exact zRes) ⟨rfl, rfl⟩
      | true =>
        rw [Bool.true_and]
        rw [kp, Bool.false_or]
        by_cases ks : c.serial = 0
        case neg =>
          rw [decide_eq_false ks, Bool.false_and, Bool.false_and]
          refine gzU ?_
          exact k_ret [] rfl (.drop (.drop .refl)) (by exact zRes) ⟨rfl, rfl⟩
        rw [decide_eq_true ks, Bool.true_and]
        by_cases kg : c.page = 0
        case neg =>
          rw [decide_eq_false kg, Bool.false_and]
          refine gzU ?_
          exact k_ret [] rfl (.drop (.drop .refl)) (by exact zRes) ⟨rfl, rfl⟩
        rw [decide_eq_true kg, Bool.true_and]
        refine gzU ?_
        refine t_q (q_eqagg (ys := encC (only3 c)) rfl rfl (encC_k c) (encC_k _)) rfl rfl rfl ?_
        rw [show eqCells (encC c) (encC (only3 c)) = eqC c (only3 c) from rfl]
        cases he : eqC c (only3 c) with
        | false =>
          rw [Bool.false_and]
          refine gzU ?_
          exact k_ret [] rfl (.drop (.drop .refl)) (by exact zRes) ⟨rfl, rfl⟩
        | true =>
          rw [Bool.true_and]
          refine gzU ?_
          refine t_h (q_call rfl rfl fun l2 _ => within_any c.obj 1 65535 l2) rfl rfl rfl ?_
          refine gzU ?_
          exact k_ret [] rfl (.drop (.drop .refl)) (by exact zRes) ⟨rfl, rfl⟩
    | true =>
      refine gzU ?_
      refine t_h (q_call rfl rfl fun l2 _ => within_any c.page 0 511 l2) rfl rfl rfl ?_
      cases k2 : (decide (0 ≤ c.page) && decide (c.page ≤ 511)) with
      | false =>
        have kp : placedB c = false := by unfold placedB; rw [k1, k2]; rfl
        refine gzU ?_
        refine t_q (q_call rfl rfl fun l2 _ => within_any c.rights 1 3 l2) rfl rfl rfl ?_
        cases kr : (decide (1 ≤ c.rights) && decide (c.rights ≤ 3)) with
        | false =>
          rw [Bool.false_and, Bool.false_and]
          refine gzU ?_
          exact k_ret [] rfl (.drop (.drop .refl)) (by exact zRes) ⟨rfl, rfl⟩
        | true =>
          rw [Bool.true_and]
          rw [kp, Bool.false_or]
          by_cases ks : c.serial = 0
          case neg =>
            rw [decide_eq_false ks, Bool.false_and, Bool.false_and]
            refine gzU ?_
            exact k_ret [] rfl (.drop (.drop .refl)) (by exact zRes) ⟨rfl, rfl⟩
          rw [decide_eq_true ks, Bool.true_and]
          by_cases kg : c.page = 0
          case neg =>
            rw [decide_eq_false kg, Bool.false_and]
            refine gzU ?_
            exact k_ret [] rfl (.drop (.drop .refl)) (by exact zRes) ⟨rfl, rfl⟩
          rw [decide_eq_true kg, Bool.true_and]
          refine gzU ?_
          refine t_q (q_eqagg (ys := encC (only3 c)) rfl rfl (encC_k c) (encC_k _)) rfl rfl rfl ?_
          rw [show eqCells (encC c) (encC (only3 c)) = eqC c (only3 c) from rfl]
          cases he : eqC c (only3 c) with
          | false =>
            rw [Bool.false_and]
            refine gzU ?_
            exact k_ret [] rfl (.drop (.drop .refl)) (by exact zRes) ⟨rfl, rfl⟩
          | true =>
            rw [Bool.true_and]
            refine gzU ?_
            refine t_h (q_call rfl rfl fun l2 _ => within_any c.obj 1 65535 l2) rfl rfl rfl ?_
            refine gzU ?_
            exact k_ret [] rfl (.drop (.drop .refl)) (by exact zRes) ⟨rfl, rfl⟩
      | true =>
        have kp : placedB c = true := by unfold placedB; rw [k1, k2]; rfl
        refine gzU ?_
        refine t_q (q_call rfl rfl fun l2 _ => within_any c.rights 1 3 l2) rfl rfl rfl ?_
        cases kr : (decide (1 ≤ c.rights) && decide (c.rights ≤ 3)) with
        | false =>
          rw [Bool.false_and, Bool.false_and]
          refine gzU ?_
          exact k_ret [] rfl (.drop (.drop .refl)) (by exact zRes) ⟨rfl, rfl⟩
        | true =>
          rw [Bool.true_and]
          rw [kp, Bool.true_or, Bool.true_and]
          refine gzU ?_
          refine t_q (q_eqagg (ys := encC (only3 c)) rfl rfl (encC_k c) (encC_k _)) rfl rfl rfl ?_
          rw [show eqCells (encC c) (encC (only3 c)) = eqC c (only3 c) from rfl]
          cases he : eqC c (only3 c) with
          | false =>
            rw [Bool.false_and]
            refine gzU ?_
            exact k_ret [] rfl (.drop (.drop .refl)) (by exact zRes) ⟨rfl, rfl⟩
          | true =>
            rw [Bool.true_and]
            refine gzU ?_
            refine t_h (q_call rfl rfl fun l2 _ => within_any c.obj 1 65535 l2) rfl rfl rfl ?_
            refine gzU ?_
            exact k_ret [] rfl (.drop (.drop .refl)) (by exact zRes) ⟨rfl, rfl⟩
  by_cases h8 : c.kind = 8
  · have e : mayC c = (endB c && (eqC c (only8 c) && inObj c.obj)) := by unfold mayC; rw [if_neg h0, if_neg h1, if_neg h2, if_neg h3, if_pos h8]
    rw [e]
    unfold endB inObj
    refine gzU ?_
    refine c_draw [(0, true), (1, true), (2, true), (3, true), (4, true), (5, false), (6, true), (7, false)] [[], [0], [], [2], [0, 1], [0, 1, 4], [0, 1, 2, 3, 4, 5], [0, 1, 2, 3, 4, 5, 6]] ([capC b1 c]) (by kernel_rfl) (by kernel_rfl) zAtt zHR ?_
    refine pzU ?_
    refine gzU ?_
    refine t_q (q_call rfl rfl fun l2 _ => rights_any c.rights l2) rfl rfl rfl ?_
    cases k1 : (decide (0 ≤ c.rights) && decide (c.rights ≤ 7)) with
    | false =>
      rw [Bool.false_and, Bool.false_and]
      refine gzU ?_
      exact k_ret [] rfl (.drop (.drop .refl)) (by exact zRes) ⟨rfl, rfl⟩
    | true =>
      rw [Bool.true_and]
      by_cases k2 : c.badge ≤ 16777215
      case neg =>
        rw [decide_eq_false k2, Bool.false_and]
        refine gzU ?_
        exact k_ret [] rfl (.drop (.drop .refl)) (by exact zRes) ⟨rfl, rfl⟩
      rw [decide_eq_true k2, Bool.true_and]
      refine gzU ?_
      refine t_q (q_eqagg (ys := encC (only8 c)) rfl rfl (encC_k c) (encC_k _)) rfl rfl rfl ?_
      rw [show eqCells (encC c) (encC (only8 c)) = eqC c (only8 c) from rfl]
      cases he : eqC c (only8 c) with
      | false =>
        rw [Bool.false_and]
        refine gzU ?_
        exact k_ret [] rfl (.drop (.drop .refl)) (by exact zRes) ⟨rfl, rfl⟩
      | true =>
        rw [Bool.true_and]
        refine gzU ?_
        refine t_h (q_call rfl rfl fun l2 _ => within_any c.obj 1 65535 l2) rfl rfl rfl ?_
        refine gzU ?_
        exact k_ret [] rfl (.drop (.drop .refl)) (by exact zRes) ⟨rfl, rfl⟩
  have e : mayC c = false := by unfold mayC; rw [if_neg h0, if_neg h1, if_neg h2, if_neg h3, if_neg h8]
  rw [e]
  refine gzU ?_
  exact k_ret [] rfl (.drop (.drop .refl)) (by exact zRes) ⟨rfl, rfl⟩
def noneB (c : CapT) : Bool := decide (c.serial = 0) && decide (c.page = 0)
def someB (c : CapT) : Bool := decide (1 ≤ c.serial) && (decide (c.serial ≤ 16777215) && (decide (0 ≤ c.page) && decide (c.page < 512)))
def powI (n : Int) : Int := 2 ^ n.toNat
def rmayB (c : CapT) : Bool :=
  if c.kind = 0 ∨ c.kind = 7 then eqC c (only0 c)
  else if c.kind = 1 ∨ c.kind = 4 ∨ c.kind = 5 ∨ c.kind = 6 ∨ c.kind = 9 then inObj c.obj && eqC c (only1 c)
  else if c.kind = 2 then inObj c.obj && (eqC c (only2 c) && (decide (0 ≤ c.bits) && (decide (c.bits ≤ 12) && (decide (0 ≤ c.guard) && decide (c.guard < powI c.bits)))))
  else if c.kind = 3 then inObj c.obj && (eqC c (only3 c) && (decide (1 ≤ c.rights) && (decide (c.rights ≤ 3) && (noneB c || someB c))))
  else if c.kind = 8 then inObj c.obj && (eqC c (only8 c) && (decide (0 ≤ c.rights) && (decide (c.rights ≤ 7) && decide (c.badge ≤ 16777215))))
  else false
theorem mem_bitsTo {v k j : Nat} : j ∈ bitsTo v k ↔ j < k ∧ v.testBit j = true := by unfold bitsTo; rw [List.mem_filter, List.mem_range]
theorem fits_pow {v : Nat} (hv : v < 18446744073709551616) {n : Nat} (hn : n ≤ 64) : fitsB v n = decide (v < 2 ^ n) := by
  by_cases h : v < 2 ^ n
  · rw [decide_eq_true h]
    unfold fitsB
    refine List.all_eq_true.2 fun j hj => ?_
    obtain ⟨h1, h2⟩ := mem_bitsTo.1 hj
    refine decide_eq_true ?_
    by_cases hjn : j < n
    · omega
    · exfalso
      have h3 : v < 2 ^ j := Nat.lt_of_lt_of_le h (Nat.pow_le_pow_right (by omega) (by omega))
      rw [Nat.testBit_lt_two_pow h3] at h2; cases h2
  · rw [decide_eq_false h]
    cases hf : fitsB v n with
    | false => rfl
    | true =>
      exfalso
      refine h (Nat.lt_pow_two_of_testBit v fun i hi => ?_)
      cases hb : v.testBit i with
      | false => rfl
      | true =>
        exfalso
        by_cases hi64 : i < 64
        · have := List.all_eq_true.1 hf i (mem_bitsTo.2 ⟨hi64, hb⟩)
          simp at this; omega
        · have h3 : v < 2 ^ i := Nat.lt_of_lt_of_le hv (by
            have := Nat.pow_le_pow_right (n := 2) (by omega) (show 64 ≤ i by omega)
            exact Nat.le_trans (by decide) this)
          rw [Nat.testBit_lt_two_pow h3] at hb; cases hb
theorem u64V_nn {x : Int} (h0 : 0 ≤ x) (h1 : x ≤ 9223372036854775807) : ((u64V x : Nat) : Int) = x := by
  unfold u64V
  rw [Int.emod_eq_of_lt h0 (by omega)]; omega
theorem may_eq (c : CapT) (hg : c.guard ≤ 9223372036854775807) : rmayB c = mayC c := by
  unfold rmayB mayC
  split
  · rfl
  split
  · rw [Bool.and_comm]
  split
  · unfold nodeB
    by_cases k1 : 0 ≤ c.bits
    case neg => rw [decide_eq_false k1]; simp
    by_cases k2 : c.bits ≤ 12
    case neg => rw [decide_eq_false k2]; simp
    by_cases k3 : 0 ≤ c.guard
    case neg => rw [decide_eq_false k3]; simp
    have e : fitsB (u64V c.guard) c.bits = decide (c.guard < powI c.bits) := by
      obtain ⟨n, hn⟩ : ∃ n : Nat, c.bits = (n : Nat) := ⟨c.bits.toNat, by omega⟩
      rw [hn, fits_pow (u64V_lt _) (by omega)]
      unfold powI
      rw [Int.toNat_natCast]
      have h1 := u64V_nn k3 hg
      have h2 : ((2 ^ n : Nat) : Int) = (2 : Int) ^ n := by simp
      apply decide_eq_decide.2
      rw [← h2]
      constructor
      · intro h; omega
      · intro h; omega
    rw [e, decide_eq_true k1, decide_eq_true k2, decide_eq_true k3]
    cases inObj c.obj <;> cases eqC c (only2 c) <;> simp
  split
  · have e : (placedB c || (decide (c.serial = 0) && decide (c.page = 0))) = (noneB c || someB c) := by
      unfold placedB noneB someB
      have : decide (c.page ≤ 511) = decide (c.page < 512) := decide_eq_decide.2 ⟨fun h => by omega, fun h => by omega⟩
      rw [this, Bool.or_comm, Bool.and_assoc]
    unfold frameB
    rw [e]
    cases inObj c.obj <;> cases eqC c (only3 c) <;> simp [Bool.and_assoc]
  split
  · unfold endB
    cases inObj c.obj <;> cases eqC c (only8 c) <;> simp [Bool.and_assoc]
  · rfl
abbrev capZ' : CapT := ⟨0, 0, 0, 0, 0, 0, 0, 0⟩
theorem may_zero {c : CapT} (h : mayC c = true) (hk : c.kind = 0) : c = capZ' := by
  unfold mayC at h
  rw [if_pos (.inl hk)] at h
  have := eqC_iff.1 h
  rw [this]
  show (⟨c.kind, 0, 0, 0, 0, 0, 0, 0⟩ : CapT) = capZ'
  rw [hk]
structure CapW (c : CapT) : Prop where
  badge : 0 ≤ c.badge
  guard : c.guard ≤ 9223372036854775807
theorem findE_S (a : Int) : ∀ (es : List Ent) (i : Nat), findE a es i = findS a es i
  | [], i => rfl
  | e :: es, i => by unfold findE findS; rw [findE_S a es (i + 1)]
theorem getE_S (a : Int) (es : List Ent) : getE a es = getS a es := by unfold getE getS; rw [findE_S]
theorem setE_S (a : Int) (v : Value) (clock : Nat) (es : List Ent) : setE a v clock es = setS a v clock es := by unfold setE setS; rw [findE_S]; rfl
theorem getS_key {a : Int} {es : List Ent} : a ∈ es.map (·.1) ↔ (getS a es).isSome = true := by
  unfold getS
  cases h : findS a es 0 with
  | none =>
    simp only [Option.map_none, Option.isSome_none, Bool.false_eq_true, iff_false]
    exact fun hm => by
      obtain ⟨e, he, h2⟩ := List.mem_map.1 hm
      exact findS_none.1 h e he h2
  | some p =>
    obtain ⟨A, e, B, rfl, _, h1, _⟩ := findS_some (k := p.1) (v := p.2) h
    simp [h1]
theorem find_append {α : Type} (p : α → Bool) : ∀ (A B : List α), (A ++ B).find? p = (A.find? p).or (B.find? p)
  | [], B => rfl
  | x :: A, B => by
    rw [List.cons_append, List.find?_cons, List.find?_cons]
    cases p x with
    | true => rfl
    | false => exact find_append p A B
section
variable {α : Type} {key : α → Int} {val : α → Value}
def findK (key : α → Int) (L : List α) (a : Int) : Option α := L.find? fun t => decide (key t = a)
structure MB (key : α → Int) (val : α → Value) (L : List α) (es : List Ent) (clock : Nat) : Prop where
  ok : KeysOk es clock
  get : ∀ a, getE a es = (findK key L a).map val
  asc : L.Pairwise fun x y => key x < key y
theorem MB.zero : MB key val [] [] 0 := ⟨⟨by simp, by simp, by simp⟩, fun a => rfl, by simp⟩
theorem findK_some {L : List α} {a : Int} {t : α} (h : findK key L a = some t) : t ∈ L ∧ key t = a := ⟨List.mem_of_find?_eq_some h, by simpa using List.find?_some h⟩
theorem findK_none {L : List α} {a : Int} : findK key L a = none ↔ ∀ t, t ∈ L → key t ≠ a := by unfold findK; rw [List.find?_eq_none]; simp
theorem MB.nd {L : List α} {es : List Ent} {clock : Nat} (h : MB key val L es clock) : (L.map key).Nodup := by
  refine (List.pairwise_map.2 (h.asc.imp fun hxy => ?_))
  omega
theorem MB.keys {L : List α} {es : List Ent} {clock : Nat} (h : MB key val L es clock) : (es.map (·.1)).Perm (L.map key) := by
  refine (List.perm_ext_iff_of_nodup h.ok.keys h.nd).2 fun a => ?_
  rw [getS_key, ← getE_S, h.get]
  cases hf : findK key L a with
  | none =>
    simp only [Option.map_none, Option.isSome_none, Bool.false_eq_true, false_iff]
    exact fun hm => by
      obtain ⟨t, ht, h2⟩ := List.mem_map.1 hm
      exact findK_none.1 hf t ht h2
  | some t => obtain ⟨h1, h2⟩ := findK_some hf; simp only [Option.map_some, Option.isSome_some, true_iff]; exact List.mem_map.2 ⟨t, h1, h2⟩
theorem MB.len {L : List α} {es : List Ent} {clock : Nat} (h : MB key val L es clock) : es.length = L.length := by simpa using h.keys.length_eq
theorem MB.at_ {L : List α} {es : List Ent} {clock : Nat} (h : MB key val L es clock) {t : α} (ht : t ∈ L) : findK key L (key t) = some t := by
  cases hf : findK key L (key t) with
  | none => exact absurd rfl (findK_none.1 hf t ht)
  | some u => obtain ⟨h1, h2⟩ := findK_some hf; rw [nd_stamp h.nd h1 ht h2]
def insK (key : α → Int) (L : List α) (t : α) : List α := L.takeWhile (fun x => decide (key x < key t)) ++ t :: L.dropWhile fun x => decide (key x < key t)
theorem ins_split {L : List α} {a : Int} (hs : L.Pairwise fun x y => key x < key y) (hne : ∀ x, x ∈ L → key x ≠ a) : ∃ W Z, L.takeWhile (fun x => decide (key x < a)) = W ∧ L.dropWhile (fun x => decide (key x < a)) = Z ∧ L = W ++ Z ∧ (∀ x, x ∈ W → key x < a) ∧ (∀ x, x ∈ Z → a < key x) := by
  have hL : L.takeWhile (fun x => decide (key x < a)) ++ L.dropWhile (fun x => decide (key x < a)) = L := List.takeWhile_append_dropWhile ..
  refine ⟨_, _, rfl, rfl, hL.symm, fun x hx => by simpa using List.all_eq_true.1 (List.all_takeWhile (l := L) (p := fun x => decide (key x < a))) x hx, fun x hx => ?_⟩
  rw [← hL, List.pairwise_append] at hs
  cases hd : L.dropWhile (fun x => decide (key x < a)) with
  | nil => rw [hd] at hx; cases hx
  | cons y r =>
    have hy : ¬ key y < a := by
      have := List.head?_dropWhile_not (fun x : α => decide (key x < a)) L
      rw [hd] at this; simpa using this
    have hyL : y ∈ L := (List.dropWhile_sublist _).subset (by rw [hd]; exact List.mem_cons_self)
    have := hne y hyL
    rw [hd] at hx
    rcases List.mem_cons.1 hx with rfl | hx
    · omega
    · have h2 := hs.2.1
      rw [hd] at h2
      have := (List.pairwise_cons.1 h2).1 x hx
      omega
theorem MB.add {L : List α} {es : List Ent} {clock : Nat} (h : MB key val L es clock) {t : α} (hn : findK key L (key t) = none) : MB key val (insK key L t) (setE (key t) (val t) clock es).1 (setE (key t) (val t) clock es).2 := by
  have hne := findK_none.1 hn
  obtain ⟨W, Z, e1, e2, hL, hall, hgt⟩ := ins_split h.asc hne
  have hs := h.asc
  rw [hL, List.pairwise_append] at hs
  have hi : insK key L t = W ++ t :: Z := by unfold insK; rw [e1, e2]
  rw [setE_S, hi]
  refine ⟨h.ok.set _ _, fun a => ?_, ?_⟩
  · rw [getE_S, getS_set, ← getE_S, h.get]
    unfold findK
    rw [find_append, List.find?_cons]
    have e0 : L.find? (fun t => decide (key t = a)) = (W.find? (fun t => decide (key t = a))).or (Z.find? (fun t => decide (key t = a))) := by rw [← find_append, ← hL]
    rw [e0]
    by_cases ha : a = key t
    · subst ha
      rw [if_pos rfl, decide_eq_true rfl]
      have : W.find? (fun x => decide (key x = key t)) = none := List.find?_eq_none.2 fun x hx => by have := hall x hx; simp; omega
      rw [this]; rfl
    · rw [if_neg ha, decide_eq_false fun e => ha e.symm]
  · refine List.pairwise_append.2 ⟨hs.1, List.pairwise_cons.2 ⟨fun x hx => hgt x hx, hs.2.1⟩, fun x hx y hy => ?_⟩
    have h1 := hall x hx
    rcases List.mem_cons.1 hy with rfl | hy
    · exact h1
    · have := hgt y hy; omega
theorem find_split {L : List α} {a : Int} {t : α} (h : findK key L a = some t) : ∃ A B, L = A ++ t :: B ∧ key t = a ∧ ∀ x, x ∈ A → key x ≠ a := by
  obtain ⟨h1, A, B, rfl, h2⟩ := List.find?_eq_some_iff_append.1 h
  exact ⟨A, B, rfl, by simpa using h1, fun x hx => by simpa using h2 x hx⟩
theorem MB.repl {A B : List α} {x y : α} {es : List Ent} {clock : Nat} (h : MB key val (A ++ x :: B) es clock) (hk : key y = key x) (hv : val y = val x) : MB key val (A ++ y :: B) es clock := by
  refine ⟨h.ok, fun a => ?_, ?_⟩
  · rw [h.get]
    unfold findK
    rw [find_append, find_append, List.find?_cons, List.find?_cons, hk]
    cases A.find? (fun t => decide (key t = a)) with
    | some u => rfl
    | none =>
      simp only [Option.none_or]
      split
      · rw [Option.map_some, Option.map_some, hv]
      · rfl
  · have h1 := h.asc
    obtain ⟨h2, h3, h4⟩ := List.pairwise_append.1 h1
    obtain ⟨h5, h6⟩ := List.pairwise_cons.1 h3
    refine List.pairwise_append.2 ⟨h2, List.pairwise_cons.2 ⟨fun z hz => by rw [hk]; exact h5 z hz, h6⟩, fun z hz w hw => ?_⟩
    rcases List.mem_cons.1 hw with rfl | hw
    · rw [hk]; exact h4 z hz x List.mem_cons_self
    · exact h4 z hz w (List.mem_cons_of_mem _ hw)
end
end Go.Proofs.YtcjknmpogkofpaaGreat
