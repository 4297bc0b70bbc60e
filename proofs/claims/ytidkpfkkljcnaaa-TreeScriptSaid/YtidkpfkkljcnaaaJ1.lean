/- The tree: a node put behind another one. -/
import Derived.Test.YtidkpfkkljcnaaaU0
import Derived.Test.YtidkpfkkljcnaaaJ0
set_option linter.unusedVariables false
set_option linter.unusedSimpArgs false
namespace Go.Proofs.Ytidkpfkkljcnaaa
open Go.RowKit

theorem adj_cons {F : Nat → NdT} {a b : Nat} {r : List Nat} : Adj F (a :: b :: r) ↔ (F a).nx = b ∧ (F b).pv = a ∧ Adj F (b :: r) := Iff.rfl
theorem adj_same {F F' : Nat → NdT} : ∀ {L : List Nat}, Adj F L → (∀ u, u ∈ L.dropLast → (F' u).nx = (F u).nx) → (∀ v, v ∈ L.tail → (F' v).pv = (F v).pv) → Adj F' L
  | [], _, _, _ => trivial
  | [_], _, _, _ => trivial
  | a :: b :: r, ⟨h1, h2, h3⟩, hn, hp => by
    refine ⟨by rw [hn a (by simp [List.dropLast]), h1], by rw [hp b (by simp), h2], adj_same h3 (fun u hu => hn u ?_) fun v hv => hp v ?_⟩
    · simp only [List.dropLast_cons_of_ne_nil (List.cons_ne_nil b r), List.mem_cons]; exact .inr hu
    · simp only [List.tail_cons] at hv ⊢; exact List.mem_cons_of_mem _ hv
theorem adj_insert {F F' : Nat → NdT} {p n x : Nat} {Z : List Nat} : ∀ {X : List Nat}, Adj F (X ++ p :: n :: Z) → (X ++ p :: n :: Z).dropLast.Nodup → (X ++ p :: n :: Z).tail.Nodup → x ∉ X ++ p :: n :: Z →
    (∀ u, u ≠ x → u ≠ p → (F' u).nx = (F u).nx) → (∀ v, v ≠ x → v ≠ n → (F' v).pv = (F v).pv) → (F' p).nx = x → (F' x).pv = p → (F' x).nx = n → (F' n).pv = x → Adj F' (X ++ p :: x :: n :: Z)
  | [], ⟨h1, h2, h3⟩, hs, ht, hx, hn, hp, k1, k2, k3, k4 => by
    refine ⟨k1, k2, k3, k4, adj_same h3 (fun u hu => hn u ?_ ?_) fun v hv => hp v ?_ ?_⟩
    · rintro rfl; exact hx (List.mem_cons_of_mem _ (List.dropLast_subset _ hu))
    · rintro rfl
      have : (u :: (n :: Z).dropLast).Nodup := by simpa using hs
      exact (List.nodup_cons.1 this).1 hu
    · rintro rfl; exact hx (by simp only [List.nil_append, List.mem_cons, List.tail_cons] at hv ⊢; exact .inr (.inr hv))
    · rintro rfl
      have : (v :: Z).Nodup := by simpa using ht
      exact (List.nodup_cons.1 this).1 hv
  | [a], ⟨h1, h2, h3⟩, hs, ht, hx, hn, hp, k1, k2, k3, k4 => by
    have hs1 : (a :: (p :: n :: Z).dropLast).Nodup := by simpa using hs
    have hs2 := List.nodup_cons.1 hs1
    have ht1 : (p :: n :: Z).Nodup := by simpa using ht
    have ht2 := List.nodup_cons.1 ht1
    refine ⟨by rw [hn a (fun e => hx (by simp [e])) (fun e => hs2.1 (by rw [e]; simp [List.dropLast]))]; exact h1, by rw [hp p (fun e => hx (by simp [e])) (fun e => ht2.1 (by rw [e]; simp))]; exact h2, ?_⟩
    exact adj_insert (X := []) h3 hs2.2 ht2.2 (fun h => hx (List.mem_cons_of_mem _ h)) hn hp k1 k2 k3 k4
  | a :: b :: X, ⟨h1, h2, h3⟩, hs, ht, hx, hn, hp, k1, k2, k3, k4 => by
    have hs1 : (a :: ((b :: X) ++ p :: n :: Z).dropLast).Nodup := by
      have : ((a :: b :: X) ++ p :: n :: Z).dropLast = a :: ((b :: X) ++ p :: n :: Z).dropLast := List.dropLast_cons_of_ne_nil (by simp)
      rwa [this] at hs
    have hs2 := List.nodup_cons.1 hs1
    have ht1 : (b :: (X ++ p :: n :: Z)).Nodup := ht
    have ht2 := List.nodup_cons.1 ht1
    have hpd : p ∈ ((b :: X) ++ p :: n :: Z).dropLast := by
      rw [List.dropLast_append_of_ne_nil (by simp)]
      exact List.mem_append_right _ (by simp [List.dropLast])
    refine ⟨by rw [hn a (fun e => hx (by simp [e])) (fun e => hs2.1 (by rw [e]; exact hpd))]; exact h1, by rw [hp b (fun e => hx (by simp [e])) (fun e => ht2.1 (by rw [e]; simp))]; exact h2, ?_⟩
    exact adj_insert (X := b :: X) h3 hs2.2 ht2.2 (fun h => hx (List.mem_cons_of_mem _ h)) hn hp k1 k2 k3 k4
theorem adj_at {F : Nat → NdT} {p n : Nat} {Z : List Nat} : ∀ {X : List Nat}, Adj F (X ++ p :: n :: Z) → (F p).nx = n ∧ (F n).pv = p
  | [], ⟨h1, h2, _⟩ => ⟨h1, h2⟩
  | [a], ⟨_, _, h⟩ => adj_at (X := []) h
  | a :: b :: X, ⟨_, _, h⟩ => adj_at (X := b :: X) h
theorem upd_left {l l' : List Chunk} {b : Nat} {o o' : Obj} (h : Upd l b o o' l') (r : List Chunk) : Upd (l ++ r) b o o' (l' ++ r) := by
  induction h with
  | here => exact .here
  | there _ ih => exact .there ih
theorem blk_none {F : Nat → NdT} {os : List Nat} {s : SlotT} (h : blk F os s = none) : ∀ p, p ∈ os → (F p).sl ≠ s := fun p hp e => by
  have := List.find?_eq_none.1 h p hp
  simp [e] at this
theorem fresh_nd {p : Nat} {F : Nat → NdT} {all : List Nat} {l : List Chunk} (hf : ∀ c, c ∈ l → c.1 ≠ p) (hs : ∀ c, c ∈ chs F all → c ∈ l) : p ∉ all := fun h => hf _ (hs _ (chs_mem h)) rfl
set_option pp.deepTerms false
set_option pp.deepTerms.threshold 4
set_option maxHeartbeats 400000
theorem put_any (b rb m : Nat) (F : Nat → NdT) (all os : List Nat) (es : List (EntS SlotT)) (clock : Nat) (lq : List Chunk) (hT : TB b rb m F all os es clock lq) (X Y : List Nat) (p : Nat) (hX : rb :: os = X ++ p :: Y) (s : SlotT) (dp : Int) (hs : blk F os s = none) (G : List Chunk) :
    Fn Try.prog 35 [.pointer (some ⟨b, 0, none⟩), .pointer (some ⟨p, 0, none⟩), .agg (List.toArray (encT s)), .int .i64 dp] (lq ++ G) fun v l' => v = .tuple #[] ∧ ∃ lq', IsT b ((dOf F os).take X.length ++ (s, dp) :: (dOf F os).drop X.length) lq' ∧ l' = lq' ++ G := by
  obtain ⟨n, Z, hnZ⟩ : ∃ n Z, Y ++ [rb] = n :: Z := by cases Y with | nil => exact ⟨_, _, rfl⟩ | cons y Y => exact ⟨_, _, rfl⟩
  have hL : rb :: (os ++ [rb]) = X ++ p :: n :: Z := by rw [← List.cons_append, hX, List.append_assoc, List.cons_append, hnZ]
  have hadj := hT.adj
  rw [hL] at hadj
  obtain ⟨hpn, hnp⟩ := adj_at hadj
  have hcyc : ∀ q, q ∈ X ++ p :: n :: Z → q ∈ all := fun q hq => by
    rw [← hL] at hq
    rcases List.mem_cons.1 hq with rfl | hq
    · exact hT.rin
    · rcases List.mem_append.1 hq with hq | hq
      · exact hT.sub q hq
      · rw [List.mem_singleton.1 hq]; exact hT.rin
  have hpa : p ∈ all := hcyc p (by simp)
  have hna : n ∈ all := hcyc n (by simp)
  refine fn_of_body Try.func35 rfl rfl fun E => ?_
  simp only [argF, Try.ntmps35]
  repeat (first | (show OpsS _ _ _ _ _ _ (_ :: _) _ _ _; first | refine ozq ?_) | refine c_seq ?_ | refine p_then ?_ | refine c_region ?_ | refine s_nil ?_ | refine c_ret ?_ | refine p_then_ret ?_ | refine p_end ?_)
  refine t_e (e_boxA rfl) rfl rfl rfl ?_
  rintro _ _ ⟨b6, hb6, rfl, rfl⟩
  have hEq := hT.eq
  have hmp : ndC p (F p) ∈ lq ++ G := List.mem_append_left _ (hT.m3 hpa)
  repeat (first | (show OpsS _ _ _ _ _ _ (_ :: _) _ _ _; first | refine ozq ?_) | refine c_seq ?_ | refine p_then ?_ | refine c_region ?_ | refine s_nil ?_ | refine c_ret ?_ | refine p_then_ret ?_ | refine p_end ?_)
  refine c_draw [(0, true), (1, true), (2, true), (3, true), (4, true), (5, true), (6, true), (7, true), (8, false), (9, true)] [[], [], [], [], [3], [3, 4], [3, 4, 5], [0, 1, 2, 3, 4, 5, 6], [0, 1, 2, 3, 4, 5, 6, 7], [0, 1, 2, 3, 4, 5, 6, 7, 8]] _ (by kernel_rfl) (by kernel_rfl) (by (repeat (first | apply Attach.nil | (apply Attach.cons; · rfl)))) (fun _ h => h) ?_
  repeat (first | refine pl_nil ?_ | (show PlanS _ _ _ _ _ _ _ _ _ _ ((_, true, _) :: _) _ _ _; first | refine pzq ?_) | (show PlanS _ _ _ _ _ _ _ _ none [] ((_, false, _) :: _) _ _ _; first | refine pzn ?_ | refine pze ?_))
  apply pl_e
  · exact e_boxA rfl
  · rfl
  · rfl
  · rfl
  · rintro _ _ ⟨x, _, _, rfl⟩ c hc; exact .tail _ hc
  rintro _ _ ⟨x, hx, rfl, rfl⟩
  repeat (first | refine pl_nil ?_ | (show PlanS _ _ _ _ _ _ _ _ _ _ ((_, true, _) :: _) _ _ _; first | refine pzq ?_) | (show PlanS _ _ _ _ _ _ _ _ none [] ((_, false, _) :: _) _ _ _; first | refine pzn ?_ | refine pze ?_))
  have hxa : x ∉ all := fun h => hx _ (.tail _ (List.mem_append_left _ (hT.m3 h))) rfl
  rw [hpn]
  obtain ⟨F1, hF1⟩ : ∃ F1, F1 = upd F x ⟨s, dp, p, n⟩ := ⟨_, rfl⟩
  have e1x : F1 x = ⟨s, dp, p, n⟩ := by rw [hF1, upd_same]
  have e1o : ∀ q, q ≠ x → F1 q = F q := fun q hq => by rw [hF1, upd_other _ _ _ _ hq]
  have hpx : p ≠ x := fun e => hxa (e ▸ hpa)
  have hnx : n ≠ x := fun e => hxa (e ▸ hna)
  have hnd1 : (x :: all).Nodup := List.nodup_cons.2 ⟨hxa, hT.nd⟩
  have hc1 : chs F1 (x :: all) = ndC x ⟨s, dp, p, n⟩ :: chs F all := by
    show ndC x (F1 x) :: chs F1 all = _
    rw [e1x, chs_congr (F := F1) (F' := F) fun q hq => e1o q fun e => hxa (e ▸ hq)]
  refine p_keep (l' := trC b rb m :: (m, mapS encT es clock) :: (chs F1 (x :: all) ++ ((b6, .cells (List.toArray (encT s)) 29 (0, 0)) :: G))) (Keep.of_perm ?_) ?_
  · rw [hEq, hc1]
    refine (List.perm_append_comm_assoc [(x, _), (b6, _)] [trC b rb m, (m, mapS encT es clock)] (chs F all ++ G)).trans ?_
    refine List.Perm.cons _ (List.Perm.cons _ (List.Perm.cons _ ?_))
    exact (List.perm_middle (l₁ := chs F all)).symm
  have hmx : ndC x (F1 x) ∈ trC b rb m :: (m, mapS encT es clock) :: (chs F1 (x :: all) ++ ((b6, .cells (List.toArray (encT s)) 29 (0, 0)) :: G)) := .tail _ (.tail _ (List.mem_append_left _ (chs_mem (.head _))))
  rw [e1x] at hmx
  repeat (first | (show OpsS _ _ _ _ _ _ (_ :: _) _ _ _; first | refine ozq ?_) | refine c_seq ?_ | refine p_then ?_ | refine c_region ?_ | refine s_nil ?_ | refine c_ret ?_ | refine p_then_ret ?_ | refine p_end ?_)
  refine c_draw [(0, true), (1, true), (2, true), (3, true), (4, true), (5, true), (6, true), (7, true), (8, true), (9, true), (10, true), (11, true), (12, false), (13, true), (14, true), (15, false)] [[], [0], [0, 1], [0, 1, 2], [], [4], [4, 5], [4, 5, 6], [], [], [0, 1, 2, 3, 4, 5, 6, 7, 8], [0, 1, 2, 3, 4, 5, 6, 7, 8, 10], [0, 1, 2, 3, 4, 5, 6, 7, 8, 10, 11], [0, 1, 2, 3, 4, 5, 6, 7, 8, 9, 10, 11, 12], [0, 1, 2, 3, 4, 5, 6, 7, 8, 9, 10, 11, 12, 13], [0, 1, 2, 3, 4, 5, 6, 7, 8, 9, 10, 11, 12, 13, 14]] ([]) (by kernel_rfl) (by kernel_rfl) (by (repeat (first | apply Attach.nil | (apply Attach.cons; · rfl)))) (List.Sublist.subset (by (repeat (first | with_reducible apply List.Sublist.refl | with_reducible apply List.nil_sublist | with_reducible apply List.Sublist.cons_cons | with_reducible apply List.Sublist.cons)))) ?_
  repeat (first | refine pl_nil ?_ | (show PlanS _ _ _ _ _ _ _ _ _ _ ((_, true, _) :: _) _ _ _; first | refine pzq ?_) | (show PlanS _ _ _ _ _ _ _ _ none [] ((_, false, _) :: _) _ _ _; first | refine pzn ?_ | refine pze ?_))
  apply pl_s (S := [ndC x ⟨s, dp, p, n⟩])
  · exact q_load rfl (.head _) rfl
  · intro c hc; cases hc with
    | head => exact hmx
    | tail _ h => cases h
  · rfl
  · rfl
  · rfl
  repeat (first | refine pl_nil ?_ | (show PlanS _ _ _ _ _ _ _ _ _ _ ((_, true, _) :: _) _ _ _; first | refine pzq ?_) | (show PlanS _ _ _ _ _ _ _ _ none [] ((_, false, _) :: _) _ _ _; first | refine pzn ?_ | refine pze ?_))
  apply pl_s (S := [ndC x ⟨s, dp, p, n⟩])
  · exact q_load rfl (.head _) rfl
  · intro c hc; cases hc with
    | head => exact hmx
    | tail _ h => cases h
  · rfl
  · rfl
  · rfl
  repeat (first | refine pl_nil ?_ | (show PlanS _ _ _ _ _ _ _ _ _ _ ((_, true, _) :: _) _ _ _; first | refine pzq ?_) | (show PlanS _ _ _ _ _ _ _ _ none [] ((_, false, _) :: _) _ _ _; first | refine pzn ?_ | refine pze ?_))
  obtain ⟨F2, hF2⟩ : ∃ F2, F2 = upd F1 p { F1 p with nx := x } := ⟨_, rfl⟩
  obtain ⟨F3, hF3⟩ : ∃ F3, F3 = upd F2 n { F2 n with pv := x } := ⟨_, rfl⟩
  apply pl_nS
  · exact e_store (b := p) (off := 4) (cs := List.toArray (F1 p).cells) rfl rfl rfl (.there (.there (upd_left (chs_upd { F1 p with nx := x } hnd1 (List.mem_cons_of_mem _ hpa)) _))) (by simp)
  · rfl
  · rfl
  · intro _ _ _ c hc; cases hc
  · exact fun _ _ _ x hx ha => anc_all (by kernel_rfl) hx ha
  rintro _ _ ⟨rfl, rfl⟩
  rw [← hF2]
  repeat (first | refine pl_nil ?_ | (show PlanS _ _ _ _ _ _ _ _ _ _ ((_, true, _) :: _) _ _ _; first | refine pzq ?_) | (show PlanS _ _ _ _ _ _ _ _ none [] ((_, false, _) :: _) _ _ _; first | refine pzn ?_ | refine pze ?_))
  apply pl_nS
  · exact e_store (b := n) (off := 3) (cs := List.toArray (F2 n).cells) rfl rfl rfl (.there (.there (upd_left (chs_upd { F2 n with pv := x } hnd1 (List.mem_cons_of_mem _ hna)) _))) (by simp)
  · rfl
  · rfl
  · intro _ _ _ c hc; cases hc
  · exact fun _ _ _ x hx ha => anc_all (by kernel_rfl) hx ha
  rintro _ _ ⟨rfl, rfl⟩
  rw [← hF3]
  repeat (first | refine pl_nil ?_ | (show PlanS _ _ _ _ _ _ _ _ _ _ ((_, true, _) :: _) _ _ _; first | refine pzq ?_) | (show PlanS _ _ _ _ _ _ _ _ none [] ((_, false, _) :: _) _ _ _; first | refine pzn ?_ | refine pze ?_))
  have hm6 : (b6, Obj.cells (List.toArray (encT s)) 29 (0, 0)) ∈ chs F3 (x :: all) ++ ((b6, .cells (List.toArray (encT s)) 29 (0, 0)) :: G) := List.mem_append_right _ (.head _)
  repeat (first | (show OpsS _ _ _ _ _ _ (_ :: _) _ _ _; first | refine ozq ?_) | refine c_seq ?_ | refine p_then ?_ | refine c_region ?_ | refine s_nil ?_ | refine c_ret ?_ | refine p_then_ret ?_ | refine p_end ?_)
  refine c_draw [(0, true), (1, true), (2, true), (3, true), (4, true), (5, true), (6, false)] [[], [0], [0, 1], [0, 1, 2], [], [], [0, 1, 2, 3, 4, 5]] ([trC b rb m]) (by kernel_rfl) (by kernel_rfl) (by (repeat (first | apply Attach.nil | (apply Attach.cons; · rfl)))) (List.Sublist.subset (by (repeat (first | with_reducible apply List.Sublist.refl | with_reducible apply List.nil_sublist | with_reducible apply List.Sublist.cons_cons | with_reducible apply List.Sublist.cons)))) ?_
  repeat (first | refine pl_nil ?_ | (show PlanS _ _ _ _ _ _ _ _ _ _ ((_, true, _) :: _) _ _ _; first | refine pzq ?_) | (show PlanS _ _ _ _ _ _ _ _ none [] ((_, false, _) :: _) _ _ _; first | refine pzn ?_ | refine pze ?_))
  apply pl_s (S := [(b6, .cells (List.toArray (encT s)) 29 (0, 0))])
  · exact q_loadL rfl (.head _) (by (repeat (first | with_reducible apply LSub.done | with_reducible apply LSub.take | with_reducible apply LSub.drop)))
  · intro c hc; cases hc with
    | head => exact .tail _ (.tail _ hm6)
    | tail _ h => cases h
  · rfl
  · rfl
  · rfl
  repeat (first | refine pl_nil ?_ | (show PlanS _ _ _ _ _ _ _ _ _ _ ((_, true, _) :: _) _ _ _; first | refine pzq ?_) | (show PlanS _ _ _ _ _ _ _ _ none [] ((_, false, _) :: _) _ _ _; first | refine pzn ?_ | refine pze ?_))
  apply pl_nS
  · apply e_mapUpdateS (enc := encT) (a := s) (es := es) (clock := clock) (ks := [some .i64, some .i64])
    · rfl
    · rfl
    · rfl
    · exact encT_ok
    · (repeat (first | apply Upd.here | apply Upd.there))
  · rfl
  · rfl
  · rintro _ _ ⟨rfl, rfl⟩ c hc
    cases hc with
    | head => exact .head _
    | tail _ h => cases h
  · exact fun _ _ _ x hx ha => anc_all (by kernel_rfl) hx ha
  rintro _ _ ⟨rfl, rfl⟩
  repeat (first | refine pl_nil ?_ | (show PlanS _ _ _ _ _ _ _ _ _ _ ((_, true, _) :: _) _ _ _; first | refine pzq ?_) | (show PlanS _ _ _ _ _ _ _ _ none [] ((_, false, _) :: _) _ _ _; first | refine pzn ?_ | refine pze ?_))
  repeat (first | (show OpsS _ _ _ _ _ _ (_ :: _) _ _ _; first | refine ozq ?_) | refine c_seq ?_ | refine p_then ?_ | refine c_region ?_ | refine s_nil ?_ | refine c_ret ?_ | refine p_then_ret ?_ | refine p_end ?_)
  obtain ⟨A, hA, hos⟩ : ∃ A, X ++ [p] = rb :: A ∧ os = A ++ Y := by
    have h : rb :: os = (X ++ [p]) ++ Y := by rw [hX]; simp
    cases hXp : X ++ [p] with
    | nil => simp at hXp
    | cons a A =>
      rw [hXp, List.cons_append, List.cons.injEq] at h
      exact ⟨A, by rw [h.1], h.2⟩
  have hAl : A.length = X.length := by have := congrArg List.length hA; simp at this; omega
  have e3 : ∀ q, (F3 q).sl = (F1 q).sl ∧ (F3 q).dp = (F1 q).dp := fun q => by
    rw [hF3, hF2]; unfold upd
    split <;> split <;> simp_all
  have e3n : ∀ q, (F3 q).nx = if q = p then x else (F1 q).nx := fun q => by
    rw [hF3, hF2]; unfold upd
    split <;> split <;> simp_all
  have e3p : ∀ q, (F3 q).pv = if q = n then x else (F1 q).pv := fun q => by
    rw [hF3, hF2]; unfold upd
    split <;> split <;> simp_all
  have hosa : ∀ q, q ∈ os → q ≠ x := fun q hq e => hxa (e ▸ hT.sub q hq)
  have eo : ∀ q, q ∈ os → (F3 q).sl = (F q).sl ∧ (F3 q).dp = (F q).dp := fun q hq => by
    rw [(e3 q).1, (e3 q).2, e1o q (hosa q hq)]; exact ⟨rfl, rfl⟩
  have ex : (F3 x).sl = s ∧ (F3 x).dp = dp := by rw [(e3 x).1, (e3 x).2, e1x]; exact ⟨rfl, rfl⟩
  have hno := blk_none hs
  obtain ⟨lq', hlq'⟩ : ∃ lq', lq' = trC b rb m :: (m, mapS encT (setS s (.pointer (some ⟨x, 0, none⟩)) clock es).1 (setS s (.pointer (some ⟨x, 0, none⟩)) clock es).2) :: chs F3 (x :: all) := ⟨_, rfl⟩
  refine k_ret [] rfl (l' := lq' ++ G) ?_ (by (repeat (first | apply ResS.nil | (apply rs_tmp; (· rfl)) | (apply rs_cell1; (· rfl); (· ((repeat (first | with_reducible apply List.mem_cons_self | with_reducible apply List.mem_cons_of_mem)); try with_reducible assumption)); (· rfl)) | (apply rs_cellA; (· rfl); (· ((repeat (first | with_reducible apply List.mem_cons_self | with_reducible apply List.mem_cons_of_mem)); try with_reducible assumption)); (· (repeat (first | with_reducible apply LSub.done | with_reducible apply LSub.take | with_reducible apply LSub.drop))))))) ⟨rfl, lq', ⟨rb, m, F3, x :: all, A ++ x :: Y, _, _, ?_, ⟨hlq', hnd1, List.mem_cons_of_mem _ hT.rin, fun q hq => ?_, ?_, ?_, ?_, hT.keys.set _ _, fun s' => ?_⟩⟩, rfl⟩
  · rw [hlq']
    refine ⟨[(b6, .cells (List.toArray (encT s)) 29 (0, 0))], ?_⟩
    refine ((List.Perm.cons _ (List.Perm.cons _ List.perm_middle)).trans ?_)
    exact List.perm_append_comm_assoc [_, _] [_] _
  · unfold dOf
    rw [hos, List.map_append, List.map_cons, List.map_append, ← hAl]
    rw [List.take_left' (by simp), List.drop_left' (by simp), ex.1, ex.2]
    congr 1
    · apply List.map_congr_left
      intro q hq
      have := eo q (by rw [hos]; exact List.mem_append_left _ hq)
      rw [this.1, this.2]
    · congr 1
      apply List.map_congr_left
      intro q hq
      have := eo q (by rw [hos]; exact List.mem_append_right _ hq)
      rw [this.1, this.2]
  · rcases List.mem_append.1 hq with hq | hq
    · exact List.mem_cons_of_mem _ (hT.sub q (by rw [hos]; exact List.mem_append_left _ hq))
    · rcases List.mem_cons.1 hq with rfl | hq
      · exact .head _
      · exact List.mem_cons_of_mem _ (hT.sub q (by rw [hos]; exact List.mem_append_right _ hq))
  · have hp2 : (rb :: (A ++ x :: Y)).Perm (x :: (rb :: os)) := by
      rw [hos]
      exact (List.Perm.cons _ List.perm_middle).trans (List.Perm.swap _ _ _)
    rw [hp2.nodup_iff, List.nodup_cons]
    refine ⟨fun h => ?_, hT.ond⟩
    rcases List.mem_cons.1 h with h | h
    · exact hxa (h ▸ hT.rin)
    · exact hosa x h rfl
  · have hL2 : rb :: ((A ++ x :: Y) ++ [rb]) = X ++ p :: x :: n :: Z := by
      have : rb :: ((A ++ x :: Y) ++ [rb]) = (rb :: A) ++ (x :: (Y ++ [rb])) := by simp
      rw [this, ← hA, hnZ]; simp
    rw [hL2]
    refine adj_insert hadj ?_ ?_ (fun h => hxa (hcyc x h)) (fun u h1 h2 => ?_) (fun v h1 h2 => ?_) ?_ ?_ ?_ ?_
    · rw [← hL, ← List.cons_append, List.dropLast_concat]; exact hT.ond
    · rw [← hL, List.tail_cons, List.nodup_append]
      have := List.nodup_cons.1 hT.ond
      exact ⟨this.2, by simp, fun a ha c hc e => this.1 (by rw [List.mem_singleton.1 hc] at e; rw [← e]; exact ha)⟩
    · rw [e3n, if_neg h2, e1o u h1]
    · rw [e3p, if_neg h2, e1o v h1]
    · rw [e3n, if_pos rfl]
    · rw [e3p, if_neg (fun e => hnx e.symm), e1x]
    · rw [e3n, if_neg (fun e => hpx e.symm), e1x]
    · rw [e3p, if_pos rfl]
  · have hmp2 : ((A ++ x :: Y).map fun q => (F3 q).sl).Perm (s :: os.map fun q => (F q).sl) := by
      rw [hos, List.map_append, List.map_cons, List.map_append, ex.1]
      have h1 : A.map (fun q => (F3 q).sl) = A.map (fun q => (F q).sl) := List.map_congr_left fun q hq => (eo q (by rw [hos]; exact List.mem_append_left _ hq)).1
      have h2 : Y.map (fun q => (F3 q).sl) = Y.map (fun q => (F q).sl) := List.map_congr_left fun q hq => (eo q (by rw [hos]; exact List.mem_append_right _ hq)).1
      rw [h1, h2]
      exact List.perm_middle
    rw [hmp2.nodup_iff, List.nodup_cons]
    exact ⟨fun h => by obtain ⟨q, hq, e⟩ := List.mem_map.1 h; exact hno q hq e, hT.snd⟩
  · rw [getS_set]
    have hfA : ∀ B : List Nat, (∀ q, q ∈ B → q ∈ os) → B.find? (fun q => decide ((F3 q).sl = s')) = B.find? (fun q => decide ((F q).sl = s')) := fun B hB => by
      induction B with
      | nil => rfl
      | cons z B ih =>
        rw [List.find?_cons, List.find?_cons, (eo z (hB z List.mem_cons_self)).1, ih fun q hq => hB q (List.mem_cons_of_mem _ hq)]
    rw [List.find?_append, hfA A (fun q hq => by rw [hos]; exact List.mem_append_left _ hq), List.find?_cons, ex.1]
    by_cases hss : s' = s
    · rw [if_pos hss, decide_eq_true hss.symm]
      have : A.find? (fun q => decide ((F q).sl = s')) = none := List.find?_eq_none.2 fun q hq => by
        have := hno q (by rw [hos]; exact List.mem_append_left _ hq)
        simpa [hss] using this
      rw [this]; rfl
    · rw [if_neg hss, decide_eq_false (fun e => hss e.symm), hT.get, hos, List.find?_append, hfA Y (fun q hq => by rw [hos]; exact List.mem_append_right _ hq)]
end Go.Proofs.Ytidkpfkkljcnaaa
