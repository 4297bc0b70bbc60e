/- Laws that the statement's proof leans on (joined out of several texts). -/
import Derived.Test.YtcjknmpogkofpaaGreatGm3
import Derived.Test.YtcjknmpogkofpaaGreatGm7
import Derived.Test.YtcjknmpogkofpaaGreatGm6
set_option linter.unusedVariables false
set_option linter.unusedSimpArgs false
namespace Go.Proofs.YtcjknmpogkofpaaGreat.Tr
open Go.RowKit
set_option maxRecDepth 20000
theorem adj_same {F F' : Nat → NdT} : ∀ {L : List Nat}, Adj F L → (∀ u, u ∈ L.dropLast → (F' u).nx = (F u).nx) → (∀ v, v ∈ L.tail → (F' v).pv = (F v).pv) → Adj F' L
  | [], _, _, _ => trivial
  | [_], _, _, _ => trivial
  | a :: b :: r, ⟨h1, h2, h3⟩, hn, hp => by
    refine ⟨by rw [hn a (by simp [List.dropLast]), h1], by rw [hp b (by simp), h2], adj_same h3 (fun u hu => hn u ?_) fun v hv => hp v ?_⟩
    · simp only [List.dropLast_cons_of_ne_nil (List.cons_ne_nil b r), List.mem_cons]; exact .inr hu
    · simp only [List.tail_cons] at hv ⊢; exact List.mem_cons_of_mem _ hv
theorem adj_insert {F F' : Nat → NdT} {p n x : Nat} {Z : List Nat} : ∀ {X : List Nat}, Adj F (X ++ p :: n :: Z) → (X ++ p :: n :: Z).dropLast.Nodup → (X ++ p :: n :: Z).tail.Nodup → x ∉ X ++ p :: n :: Z →
    (∀ u, u ≠ x → u ≠ p → (F' u).nx = (F u).nx) → (∀ v, v ≠ x → v ≠ n → (F' v).pv = (F v).pv) → (F' p).nx = x → (F' x).pv = p → (F' x).nx = n → (F' n).pv = x → Adj F' (X ++ p :: x :: n :: Z)
  | [], ⟨h1, h2, h3⟩, hs, ht, hx, hn, hp, k1, k2, k3, k4 => by
    refine ⟨k1, k2, k3, k4, adj_same h3 (fun u hu => hn u ?_ ?_) fun v hv => hp v ?_ ?_⟩
    · rintro rfl; exact hx (List.mem_cons_of_mem _ (List.dropLast_subset _ hu))
    · rintro rfl
      have : (u :: (n :: Z).dropLast).Nodup := by simpa using hs
      exact (List.nodup_cons.1 this).1 hu
    · rintro rfl; exact hx (by simp only [List.nil_append, List.mem_cons, List.tail_cons] at hv ⊢; exact .inr (.inr hv))
    · rintro rfl
      have : (v :: Z).Nodup := by simpa using ht
      exact (List.nodup_cons.1 this).1 hv
  | [a], ⟨h1, h2, h3⟩, hs, ht, hx, hn, hp, k1, k2, k3, k4 => by
    have hs1 : (a :: (p :: n :: Z).dropLast).Nodup := by simpa using hs
    have hs2 := List.nodup_cons.1 hs1
    have ht1 : (p :: n :: Z).Nodup := by simpa using ht
    have ht2 := List.nodup_cons.1 ht1
    refine ⟨by rw [hn a (fun e => hx (by simp [e])) (fun e => hs2.1 (by rw [e]; simp [List.dropLast]))]; exact h1, by rw [hp p (fun e => hx (by simp [e])) (fun e => ht2.1 (by rw [e]; simp))]; exact h2, ?_⟩
    exact adj_insert (X := []) h3 hs2.2 ht2.2 (fun h => hx (List.mem_cons_of_mem _ h)) hn hp k1 k2 k3 k4
  | a :: b :: X, ⟨h1, h2, h3⟩, hs, ht, hx, hn, hp, k1, k2, k3, k4 => by
    have hs1 : (a :: ((b :: X) ++ p :: n :: Z).dropLast).Nodup := by
      have : ((a :: b :: X) ++ p :: n :: Z).dropLast = a :: ((b :: X) ++ p :: n :: Z).dropLast := List.dropLast_cons_of_ne_nil (by simp)
      rwa [this] at hs
    have hs2 := List.nodup_cons.1 hs1
    have ht1 : (b :: (X ++ p :: n :: Z)).Nodup := ht
    have ht2 := List.nodup_cons.1 ht1
    have hpd : p ∈ ((b :: X) ++ p :: n :: Z).dropLast := by
      rw [List.dropLast_append_of_ne_nil (by simp)]
      exact List.mem_append_right _ (by simp [List.dropLast])
    refine ⟨by rw [hn a (fun e => hx (by simp [e])) (fun e => hs2.1 (by rw [e]; exact hpd))]; exact h1, by rw [hp b (fun e => hx (by simp [e])) (fun e => ht2.1 (by rw [e]; simp))]; exact h2, ?_⟩
    exact adj_insert (X := b :: X) h3 hs2.2 ht2.2 (fun h => hx (List.mem_cons_of_mem _ h)) hn hp k1 k2 k3 k4
theorem adj_at {F : Nat → NdT} {p n : Nat} {Z : List Nat} : ∀ {X : List Nat}, Adj F (X ++ p :: n :: Z) → (F p).nx = n ∧ (F n).pv = p
  | [], ⟨h1, h2, _⟩ => ⟨h1, h2⟩
  | [a], ⟨_, _, h⟩ => adj_at (X := []) h
  | a :: b :: X, ⟨_, _, h⟩ => adj_at (X := b :: X) h
theorem upd_left {l l' : List Chunk} {b : Nat} {o o' : Obj} (h : Upd l b o o' l') (r : List Chunk) : Upd (l ++ r) b o o' (l' ++ r) := by
  induction h with
  | here => exact .here
  | there _ ih => exact .there ih
theorem blk_none {F : Nat → NdT} {os : List Nat} {s : SlotT} (h : blk F os s = none) : ∀ p, p ∈ os → (F p).sl ≠ s := fun p hp e => by
  have := List.find?_eq_none.1 h p hp
  simp [e] at this
set_option maxHeartbeats 400000
theorem put_any (b rb m : Nat) (F : Nat → NdT) (all os : List Nat) (es : List (EntS SlotT)) (clock : Nat) (lq : List Chunk) (hT : TB b rb m F all os es clock lq) (X Y : List Nat) (p : Nat) (hX : rb :: os = X ++ p :: Y) (s : SlotT) (dp : Int) (hs : blk F os s = none) (G : List Chunk) :
    Fn Tryz.prog 192 [.pointer (some ⟨b, 0, none⟩), .pointer (some ⟨p, 0, none⟩), .agg (List.toArray (encT s)), .int .i64 dp] (lq ++ G) fun v l' => v = .tuple #[] ∧ ∃ lq', IsT b ((dOf F os).take X.length ++ (s, dp) :: (dOf F os).drop X.length) lq' ∧ l' = lq' ++ G := by
  obtain ⟨n, Z, hnZ⟩ : ∃ n Z, Y ++ [rb] = n :: Z := by cases Y with | nil => exact ⟨_, _, rfl⟩ | cons y Y => exact ⟨_, _, rfl⟩
  have hL : rb :: (os ++ [rb]) = X ++ p :: n :: Z := by rw [← List.cons_append, hX, List.append_assoc, List.cons_append, hnZ]
  have hadj := hT.adj
  rw [hL] at hadj
  obtain ⟨hpn, hnp⟩ := adj_at hadj
  have hcyc : ∀ q, q ∈ X ++ p :: n :: Z → q ∈ all := fun q hq => by
    rw [← hL] at hq
    rcases List.mem_cons.1 hq with rfl | hq
    · exact hT.rin
    · rcases List.mem_append.1 hq with hq | hq
      · exact hT.sub q hq
      · rw [List.mem_singleton.1 hq]; exact hT.rin
  have hpa : p ∈ all := hcyc p (by simp)
  have hna : n ∈ all := hcyc n (by simp)
  refine fn_of_body Tryz.func192 rfl rfl fun E => ?_
  simp only [argF, Tryz.ntmps192]
  refine gz ?_
  refine t_e (e_boxA rfl) rfl rfl rfl ?_
  rintro _ _ ⟨b6, hb6, rfl, rfl⟩
  have hEq := hT.eq
  have hmp : ndC p (F p) ∈ lq ++ G := List.mem_append_left _ (hT.m3 hpa)
  refine gz ?_
  refine c_draw [(0, true), (1, true), (2, true), (3, true), (4, true), (5, true), (6, true), (7, true), (8, false), (9, true)] [[], [], [], [], [3], [3, 4], [3, 4, 5], [0, 1, 2, 3, 4, 5, 6], [0, 1, 2, 3, 4, 5, 6, 7], [0, 1, 2, 3, 4, 5, 6, 7, 8]] _ (by kernel_rfl) (by kernel_rfl) zAtt (fun _ h => h) ?_
  refine pz ?_
  apply pl_e
  · exact e_boxA rfl
  · rfl
  · rfl
  · rfl
  · rintro _ _ ⟨x, _, _, rfl⟩ c hc; exact .tail _ hc
  rintro _ _ ⟨x, hx, rfl, rfl⟩
  refine pz ?_
  have hxa : x ∉ all := fun h => hx _ (.tail _ (List.mem_append_left _ (hT.m3 h))) rfl
  rw [hpn]
  obtain ⟨F1, hF1⟩ : ∃ F1, F1 = upd F x ⟨s, dp, p, n⟩ := ⟨_, rfl⟩
  have e1x : F1 x = ⟨s, dp, p, n⟩ := by rw [hF1, upd_same]
  have e1o : ∀ q, q ≠ x → F1 q = F q := fun q hq => by rw [hF1, upd_other _ _ _ _ hq]
  have hpx : p ≠ x := fun e => hxa (e ▸ hpa)
  have hnx : n ≠ x := fun e => hxa (e ▸ hna)
  have hnd1 : (x :: all).Nodup := List.nodup_cons.2 ⟨hxa, hT.nd⟩
  have hc1 : chs F1 (x :: all) = ndC x ⟨s, dp, p, n⟩ :: chs F all := by
    show ndC x (F1 x) :: chs F1 all = _
    rw [e1x, chs_congr (F := F1) (F' := F) fun q hq => e1o q fun e => hxa (e ▸ hq)]
  refine p_keep (l' := trC b rb m :: (m, mapS encT es clock) :: (chs F1 (x :: all) ++ ((b6, .cells (List.toArray (encT s)) 109 (0, 0)) :: G))) (Keep.of_perm ?_) ?_
  · rw [hEq, hc1]
    refine (List.perm_append_comm_assoc [(x, _), (b6, _)] [trC b rb m, (m, mapS encT es clock)] (chs F all ++ G)).trans ?_
    refine List.Perm.cons _ (List.Perm.cons _ (List.Perm.cons _ ?_))
    exact (List.perm_middle (l₁ := chs F all)).symm
  have hmx : ndC x (F1 x) ∈ trC b rb m :: (m, mapS encT es clock) :: (chs F1 (x :: all) ++ ((b6, .cells (List.toArray (encT s)) 109 (0, 0)) :: G)) := .tail _ (.tail _ (List.mem_append_left _ (chs_mem (.head _))))
  rw [e1x] at hmx
  refine gz ?_
  refine c_draw [(0, true), (1, true), (2, true), (3, true), (4, true), (5, true), (6, true), (7, true), (8, true), (9, true), (10, true), (11, true), (12, false), (13, true), (14, true), (15, false)] [[], [0], [0, 1], [0, 1, 2], [], [4], [4, 5], [4, 5, 6], [], [], [0, 1, 2, 3, 4, 5, 6, 7, 8], [0, 1, 2, 3, 4, 5, 6, 7, 8, 10], [0, 1, 2, 3, 4, 5, 6, 7, 8, 10, 11], [0, 1, 2, 3, 4, 5, 6, 7, 8, 9, 10, 11, 12], [0, 1, 2, 3, 4, 5, 6, 7, 8, 9, 10, 11, 12, 13], [0, 1, 2, 3, 4, 5, 6, 7, 8, 9, 10, 11, 12, 13, 14]] ([]) (by kernel_rfl) (by kernel_rfl) zAtt zHR ?_
  refine pz ?_
  apply pl_s (S := [ndC x ⟨s, dp, p, n⟩])
  · exact q_load rfl (.head _) rfl
  · intro c hc; cases hc with
    | head => exact hmx
    | tail _ h => cases h
  · rfl
  · rfl
  · rfl
  refine pz ?_
  apply pl_s (S := [ndC x ⟨s, dp, p, n⟩])
  · exact q_load rfl (.head _) rfl
  · intro c hc; cases hc with
    | head => exact hmx
    | tail _ h => cases h
  · rfl
  · rfl
  · rfl
  refine pz ?_
  obtain ⟨F2, hF2⟩ : ∃ F2, F2 = upd F1 p { F1 p with nx := x } := ⟨_, rfl⟩
  obtain ⟨F3, hF3⟩ : ∃ F3, F3 = upd F2 n { F2 n with pv := x } := ⟨_, rfl⟩
  apply pl_nS
  · exact e_store (b := p) (off := 4) (cs := List.toArray (F1 p).cells) rfl rfl rfl (.there (.there (upd_left (chs_upd { F1 p with nx := x } hnd1 (List.mem_cons_of_mem _ hpa)) _))) (by simp)
  · rfl
  · rfl
  · intro _ _ _ c hc; cases hc
  · exact fun _ _ _ x hx ha => anc_all (by kernel_rfl) hx ha
  rintro _ _ ⟨rfl, rfl⟩
  rw [← hF2]
  refine pz ?_
  apply pl_nS
  · exact e_store (b := n) (off := 3) (cs := List.toArray (F2 n).cells) rfl rfl rfl (.there (.there (upd_left (chs_upd { F2 n with pv := x } hnd1 (List.mem_cons_of_mem _ hna)) _))) (by simp)
  · rfl
  · rfl
  · intro _ _ _ c hc; cases hc
  · exact fun _ _ _ x hx ha => anc_all (by kernel_rfl) hx ha
  rintro _ _ ⟨rfl, rfl⟩
  rw [← hF3]
  refine pz ?_
  have hm6 : (b6, Obj.cells (List.toArray (encT s)) 109 (0, 0)) ∈ chs F3 (x :: all) ++ ((b6, .cells (List.toArray (encT s)) 109 (0, 0)) :: G) := List.mem_append_right _ (.head _)
  refine gz ?_
  refine c_draw [(0, true), (1, true), (2, true), (3, true), (4, true), (5, true), (6, false)] [[], [0], [0, 1], [0, 1, 2], [], [], [0, 1, 2, 3, 4, 5]] ([trC b rb m]) (by kernel_rfl) (by kernel_rfl) zAtt zHR ?_
  refine pz ?_
  apply pl_s (S := [(b6, .cells (List.toArray (encT s)) 109 (0, 0))])
  · exact q_loadL rfl (.head _) (by (repeat (first | with_reducible apply LSub.done | with_reducible apply LSub.take | with_reducible apply LSub.drop)))
  · intro c hc; cases hc with
    | head => exact .tail _ (.tail _ hm6)
    | tail _ h => cases h
  · rfl
  · rfl
  · rfl
  refine pz ?_
  apply pl_nS
  · apply e_mapUpdateS (enc := encT) (a := s) (es := es) (clock := clock) (ks := [some .i64, some .i64])
    · rfl
    · rfl
    · rfl
    · exact encT_ok
    · exact zUpd
  · rfl
  · rfl
  · rintro _ _ ⟨rfl, rfl⟩ c hc
    cases hc with
    | head => exact .head _
    | tail _ h => cases h
  · exact fun _ _ _ x hx ha => anc_all (by kernel_rfl) hx ha
  rintro _ _ ⟨rfl, rfl⟩
  refine pz ?_
  refine gz ?_
  obtain ⟨A, hA, hos⟩ : ∃ A, X ++ [p] = rb :: A ∧ os = A ++ Y := by
    have h : rb :: os = (X ++ [p]) ++ Y := by rw [hX]; simp
    cases hXp : X ++ [p] with
    | nil => simp at hXp
    | cons a A =>
      rw [hXp, List.cons_append, List.cons.injEq] at h
      exact ⟨A, by rw [h.1], h.2⟩
  have hAl : A.length = X.length := by have := congrArg List.length hA; simp at this; omega
  have e3 : ∀ q, (F3 q).sl = (F1 q).sl ∧ (F3 q).dp = (F1 q).dp := fun q => by
    rw [hF3, hF2]; unfold upd
    split <;> split <;> simp_all
  have e3n : ∀ q, (F3 q).nx = if q = p then x else (F1 q).nx := fun q => by
    rw [hF3, hF2]; unfold upd
    split <;> split <;> simp_all
  have e3p : ∀ q, (F3 q).pv = if q = n then x else (F1 q).pv := fun q => by
    rw [hF3, hF2]; unfold upd
    split <;> split <;> simp_all
  have hosa : ∀ q, q ∈ os → q ≠ x := fun q hq e => hxa (e ▸ hT.sub q hq)
  have eo : ∀ q, q ∈ os → (F3 q).sl = (F q).sl ∧ (F3 q).dp = (F q).dp := fun q hq => by
    rw [(e3 q).1, (e3 q).2, e1o q (hosa q hq)]; exact ⟨rfl, rfl⟩
  have ex : (F3 x).sl = s ∧ (F3 x).dp = dp := by rw [(e3 x).1, (e3 x).2, e1x]; exact ⟨rfl, rfl⟩
  have hno := blk_none hs
  obtain ⟨lq', hlq'⟩ : ∃ lq', lq' = trC b rb m :: (m, mapS encT (setS s (.pointer (some ⟨x, 0, none⟩)) clock es).1 (setS s (.pointer (some ⟨x, 0, none⟩)) clock es).2) :: chs F3 (x :: all) := ⟨_, rfl⟩
  refine k_ret [] rfl (l' := lq' ++ G) ?_ (by exact zRes) ⟨rfl, lq', ⟨rb, m, F3, x :: all, A ++ x :: Y, _, _, ?_, ⟨hlq', hnd1, List.mem_cons_of_mem _ hT.rin, fun q hq => ?_, ?_, ?_, ?_, hT.keys.set _ _, fun s' => ?_⟩⟩, rfl⟩
  · rw [hlq']
    refine ⟨[(b6, .cells (List.toArray (encT s)) 109 (0, 0))], ?_⟩
    refine ((List.Perm.cons _ (List.Perm.cons _ List.perm_middle)).trans ?_)
    exact List.perm_append_comm_assoc [_, _] [_] _
  · unfold dOf
    rw [hos, List.map_append, List.map_cons, List.map_append, ← hAl]
    rw [List.take_left' (by simp), List.drop_left' (by simp), ex.1, ex.2]
    congr 1
    · apply List.map_congr_left
      intro q hq
      have := eo q (by rw [hos]; exact List.mem_append_left _ hq)
      rw [this.1, this.2]
    · congr 1
      apply List.map_congr_left
      intro q hq
      have := eo q (by rw [hos]; exact List.mem_append_right _ hq)
      rw [this.1, this.2]
  · rcases List.mem_append.1 hq with hq | hq
    · exact List.mem_cons_of_mem _ (hT.sub q (by rw [hos]; exact List.mem_append_left _ hq))
    · rcases List.mem_cons.1 hq with rfl | hq
      · exact .head _
      · exact List.mem_cons_of_mem _ (hT.sub q (by rw [hos]; exact List.mem_append_right _ hq))
  · have hp2 : (rb :: (A ++ x :: Y)).Perm (x :: (rb :: os)) := by
      rw [hos]
      exact (List.Perm.cons _ List.perm_middle).trans (List.Perm.swap _ _ _)
    rw [hp2.nodup_iff, List.nodup_cons]
    refine ⟨fun h => ?_, hT.ond⟩
    rcases List.mem_cons.1 h with h | h
    · exact hxa (h ▸ hT.rin)
    · exact hosa x h rfl
  · have hL2 : rb :: ((A ++ x :: Y) ++ [rb]) = X ++ p :: x :: n :: Z := by
      have : rb :: ((A ++ x :: Y) ++ [rb]) = (rb :: A) ++ (x :: (Y ++ [rb])) := by simp
      rw [this, ← hA, hnZ]; simp
    rw [hL2]
    refine adj_insert hadj ?_ ?_ (fun h => hxa (hcyc x h)) (fun u h1 h2 => ?_) (fun v h1 h2 => ?_) ?_ ?_ ?_ ?_
    · rw [← hL, ← List.cons_append, List.dropLast_concat]; exact hT.ond
    · rw [← hL, List.tail_cons, List.nodup_append]
      have := List.nodup_cons.1 hT.ond
      exact ⟨this.2, by simp, fun a ha c hc e => this.1 (by rw [List.mem_singleton.1 hc] at e; rw [← e]; exact ha)⟩
    · rw [e3n, if_neg h2, e1o u h1]
    · rw [e3p, if_neg h2, e1o v h1]
    · rw [e3n, if_pos rfl]
    · rw [e3p, if_neg (fun e => hnx e.symm), e1x]
    · rw [e3n, if_neg (fun e => hpx e.symm), e1x]
    · rw [e3p, if_pos rfl]
  · have hmp2 : ((A ++ x :: Y).map fun q => (F3 q).sl).Perm (s :: os.map fun q => (F q).sl) := by
      rw [hos, List.map_append, List.map_cons, List.map_append, ex.1]
      have h1 : A.map (fun q => (F3 q).sl) = A.map (fun q => (F q).sl) := List.map_congr_left fun q hq => (eo q (by rw [hos]; exact List.mem_append_left _ hq)).1
      have h2 : Y.map (fun q => (F3 q).sl) = Y.map (fun q => (F q).sl) := List.map_congr_left fun q hq => (eo q (by rw [hos]; exact List.mem_append_right _ hq)).1
      rw [h1, h2]
      exact List.perm_middle
    rw [hmp2.nodup_iff, List.nodup_cons]
    exact ⟨fun h => by obtain ⟨q, hq, e⟩ := List.mem_map.1 h; exact hno q hq e, hT.snd⟩
  · rw [getS_set]
    have hfA : ∀ B : List Nat, (∀ q, q ∈ B → q ∈ os) → B.find? (fun q => decide ((F3 q).sl = s')) = B.find? (fun q => decide ((F q).sl = s')) := fun B hB => by
      induction B with
      | nil => rfl
      | cons z B ih =>
        rw [List.find?_cons, List.find?_cons, (eo z (hB z List.mem_cons_self)).1, ih fun q hq => hB q (List.mem_cons_of_mem _ hq)]
    rw [List.find?_append, hfA A (fun q hq => by rw [hos]; exact List.mem_append_left _ hq), List.find?_cons, ex.1]
    by_cases hss : s' = s
    · rw [if_pos hss, decide_eq_true hss.symm]
      have : A.find? (fun q => decide ((F q).sl = s')) = none := List.find?_eq_none.2 fun q hq => by
        have := hno q (by rw [hos]; exact List.mem_append_left _ hq)
        simpa [hss] using this
      rw [this]; rfl
    · rw [if_neg hss, decide_eq_false (fun e => hss e.symm), hT.get, hos, List.find?_append, hfA Y (fun q hq => by rw [hos]; exact List.mem_append_right _ hq)]
section
variable {P : Program} {ro : Option Nat} {N : Nat} {E : World} {ops : Array Oper} {Q : Exit → Act → World → Prop} {R : List Chunk} {tbl : List (List Nat)} {sw : Sw} {sp : Spec} {pl : List PlanOp} {o : Oper} {fr fr' : Fr} {ds : List Deferred} {l l' : List Chunk} {K : Value → List Chunk → Prop} {v : Value} {i : Nat} {k : Bool}
end
theorem nep_t {q r : Nat} (h : q ≠ r) : (!decide ((⟨q, 0, none⟩ : Addr) = ⟨r, 0, none⟩)) = true := by
  rw [decide_eq_false (fun e => h (by injection e))]; rfl
theorem nep_f (q : Nat) : (!decide ((⟨q, 0, none⟩ : Addr) = ⟨q, 0, none⟩)) = false := by
  rw [decide_eq_true rfl]; rfl
theorem TB.nxt {b rb m : Nat} {F : Nat → NdT} {all os : List Nat} {es : List (EntS SlotT)} {clock : Nat} {lq : List Chunk} (h : TB b rb m F all os es clock lq) {X Y : List Nat} {p : Nat} (hX : rb :: os = X ++ p :: Y) : (F p).nx = Y.headD rb := by
  have hadj := h.adj
  rw [show rb :: (os ++ [rb]) = X ++ p :: (Y ++ [rb]) by rw [← List.cons_append, hX, List.append_assoc, List.cons_append]] at hadj
  cases Y with
  | nil => exact (adj_at (Z := []) hadj).1
  | cons y Y => exact (adj_at (Z := Y ++ [rb]) hadj).1
theorem TB.prv {b rb m : Nat} {F : Nat → NdT} {all os : List Nat} {es : List (EntS SlotT)} {clock : Nat} {lq : List Chunk} (h : TB b rb m F all os es clock lq) {X Y : List Nat} {p : Nat} (hX : rb :: os = X ++ p :: Y) : (F (Y.headD rb)).pv = p := by
  have hadj := h.adj
  rw [show rb :: (os ++ [rb]) = X ++ p :: (Y ++ [rb]) by rw [← List.cons_append, hX, List.append_assoc, List.cons_append]] at hadj
  cases Y with
  | nil => exact (adj_at (Z := []) hadj).2
  | cons y Y => exact (adj_at (Z := Y ++ [rb]) hadj).2
def splitD (s : SlotT) : DT → Option (DT × Int × DT)
  | [] => none
  | x :: r => if x.1 = s then some ([], x.2, r) else (splitD s r).map fun y => (x :: y.1, y.2.1, y.2.2)
theorem split_blk {F : Nat → NdT} {s : SlotT} : ∀ {os : List Nat} {p : Nat}, blk F os s = some p → ∃ A B, os = A ++ p :: B ∧ splitD s (dOf F os) = some (dOf F A, (F p).dp, dOf F B)
  | [], _, h => by cases h
  | q :: os, p, h => by
    unfold blk at h
    rw [List.find?_cons] at h
    by_cases e : (F q).sl = s
    · rw [decide_eq_true e] at h
      cases h
      exact ⟨[], os, rfl, by show splitD s (((F q).sl, (F q).dp) :: dOf F os) = _; unfold splitD; rw [if_pos e]; rfl⟩
    · rw [decide_eq_false e] at h
      obtain ⟨A, B, rfl, h2⟩ := split_blk (os := os) h
      exact ⟨q :: A, B, rfl, by show splitD s (((F q).sl, (F q).dp) :: dOf F _) = _; unfold splitD; rw [if_neg e, h2]; rfl⟩
theorem split_none {F : Nat → NdT} {s : SlotT} : ∀ {os : List Nat}, blk F os s = none → splitD s (dOf F os) = none
  | [], _ => rfl
  | q :: os, h => by
    unfold blk at h
    rw [List.find?_cons] at h
    by_cases e : (F q).sl = s
    · rw [decide_eq_true e] at h; cases h
    · rw [decide_eq_false e] at h
      show splitD s (((F q).sl, (F q).dp) :: dOf F os) = none
      unfold splitD; rw [if_neg e, split_none (os := os) h]; rfl
abbrev bxT (B b : Nat) : Chunk := (B, .cells #[.pointer (some ⟨b, 0, none⟩)] 229 (0, 0))
abbrev bxL (B p : Nat) : Chunk := (B, .cells #[.pointer (some ⟨p, 0, none⟩)] 318 (0, 0))
theorem behind_any (b p : Nat) (l : List Chunk) : Fn Tryz.prog 176 [.pointer (some ⟨b, 0, none⟩), .pointer (some ⟨p, 0, none⟩)] l fun v l' => ∃ B1 B2, v = .func (.func 208) #[] #[.pointer (some ⟨B1, 0, none⟩), .pointer (some ⟨B2, 0, none⟩)] ∧ l' = bxL B1 p :: bxT B2 b :: l := by
  refine fn_of_body Tryz.func176 rfl rfl fun E => ?_
  simp only [argF, Tryz.ntmps176]
  refine gz ?_
  (first | refine t_e (e_box1 rfl rfl) rfl rfl rfl ?_ | refine t_e (e_boxA rfl) rfl rfl rfl ?_); rintro _ _ ⟨b2, _, rfl, rfl⟩
  refine gz ?_
  (first | refine t_e (e_box1 rfl rfl) rfl rfl rfl ?_ | refine t_e (e_boxA rfl) rfl rfl rfl ?_); rintro _ _ ⟨b3, _, rfl, rfl⟩
  refine gz ?_
  exact k_ret [] rfl .refl (by exact zRes) ⟨b3, b2, rfl, rfl⟩
def Nxs (F : Nat → NdT) (L : List Nat) (l : List Chunk) : Prop := ∀ q, q ∈ L → ∃ x : NdT, ndC q x ∈ l ∧ x.nx = (F q).nx
theorem behind_iter (B1 B2 b rb m p : Nat) (F : Nat → NdT) (all os : List Nat) (es : List (EntS SlotT)) (clock : Nat) (lq : List Chunk) (hT : TB b rb m F all os es clock lq) (X Y : List Nat) (hX : rb :: os = X ++ p :: Y) :
    IterS Tryz.prog 208 [.pointer (some ⟨B1, 0, none⟩), .pointer (some ⟨B2, 0, none⟩)] (fun q : Nat => [.pointer (some ⟨q, 0, none⟩)]) (fun xs => xs = Y) (fun pre => pre <+: Y)
      (fun pre l => bxL B1 p ∈ l ∧ bxT B2 b ∈ l ∧ trC b rb m ∈ l ∧ Nxs F (rb :: os) l) := by
  refine ⟨fun r I Ix G0 hneed hY l G hG h0 => ?_⟩
  have hpc : p ∈ rb :: os := by rw [hX]; simp
  obtain ⟨n1, n2, n3, n4⟩ := hneed _ _ G hG h0
  obtain ⟨xp, hxp, hxn⟩ := n4 p hpc
  refine fn_of_body Tryz.func208 rfl rfl fun E => ?_
  simp only [argF, Tryz.ntmps208]
  refine gz ?_
  rw [hxn, hT.nxt hX]
  refine gz ?_
  refine k_loop (α := List Nat × List Nat × List Chunk) (fun x => [(0, .func (.yield r) #[] #[]), (1, .pointer (some ⟨B1, 0, none⟩)), (2, .pointer (some ⟨B2, 0, none⟩)), (4, .pointer (some ⟨x.2.1.headD rb, 0, none⟩))]) (fun x => x.2.2 ++ G) (fun x => x.1 ++ x.2.1 = Y ∧ I x.1 x.2.2) (fun x => x.2.1.length) ([], Y, l) ⟨rfl, h0⟩ ⟨rfl, rfl, rfl, rfl, trivial⟩ .refl ?_
  rintro ⟨pre, suf, l⟩ ⟨hps, hI⟩
  simp only at hps hI ⊢
  obtain ⟨n1, n2, n3, n4⟩ := hneed _ _ G hG hI
  obtain ⟨xr, hxr, hxrn⟩ := n4 rb List.mem_cons_self
  cases suf with
  | nil =>
    rw [List.append_nil] at hps
    subst hps
    simp only [List.headD_nil]
    refine gz ?_
    refine t_q (q_neptr rfl rfl (by decide) hxr hxr) rfl rfl rfl ?_
    rw [nep_f]
    refine gz ?_
    exact k_ret [] rfl .refl (by exact zRes) ⟨l, rfl, .inl ⟨_, rfl, hI⟩⟩
  | cons q suf =>
    have hX2 : rb :: os = (X ++ p :: pre) ++ q :: suf := by rw [hX, ← hps]; simp
    have hqc : q ∈ rb :: os := by rw [hX2]; simp
    have hqr : q ≠ rb := fun e => by
      have hnd := hT.ond
      cases X with
      | nil => rw [List.nil_append, List.cons.injEq] at hX; rw [hX.2, ← hps, ← e] at hnd; simp at hnd
      | cons x X => rw [List.cons_append, List.cons.injEq] at hX; rw [hX.2, ← hps, ← e] at hnd; simp at hnd
    obtain ⟨xq, hxq, hxqn⟩ := n4 q hqc
    simp only [List.headD_cons]
    refine gz ?_
    refine t_q (q_neptr rfl rfl (by decide) hxq hxr) rfl rfl rfl ?_
    rw [nep_t hqr]
    refine gz ?_
    have hsp : pre ++ [q] <+: Y := ⟨suf, by rw [← hps]; simp⟩
    refine t_e (e_yield rfl rfl (hY pre q l G hG hI hsp)) rfl rfl rfl ?_
    rintro v l' ⟨l1, rfl, ⟨rfl, hI'⟩ | ⟨rfl, hx⟩⟩
    · obtain ⟨k1, k2, k3, k4⟩ := hneed _ _ G hG hI'
      obtain ⟨xq2, hxq2, hxqn2⟩ := k4 q hqc
      refine gz ?_
      rw [hxqn2, hT.nxt hX2]
      refine gz ?_
      exact k_next (pre ++ [q], suf, l1) ⟨by rw [← hps]; simp, hI'⟩ (by simp) ⟨rfl, rfl, rfl, rfl, trivial⟩ .refl
    · refine gz ?_
      exact k_ret [] rfl .refl (by exact zRes) ⟨l1, rfl, .inr ⟨_, hsp, hx⟩⟩
abbrev nV (x : SlotT × Int) : List Value := [.int .i64 x.1.1, .int .i64 x.1.2, .int .i64 x.2]
def ncs (D : DT) : List Value := D.flatMap nV
theorem ncs_snoc (D : DT) (x : SlotT × Int) : ncs (D ++ [x]) = ncs D ++ nV x := by simp [ncs]
theorem dOf_snoc (F : Nat → NdT) (pre : List Nat) (y : Nat) : dOf F (pre ++ [y]) = dOf F pre ++ [((F y).sl, (F y).dp)] := by simp [dOf]
theorem all_any (b : Nat) (D : DT) (lq : List Chunk) (hq : IsT b D lq) (hn : D.length ≤ 1000000) (l : List Chunk) (hsub : ∀ c, c ∈ lq → c ∈ l) :
    Fn Tryz.prog 127 [.pointer (some ⟨b, 0, none⟩)] l fun v l' => ∃ cs, OwnSl 222 3 v D.length (ncs D) cs ∧ l' = cs ++ l := by
  obtain ⟨rb, m, F, all, os, es, clock, rfl, hT⟩ := hq
  have hnl : os.length ≤ 1000000 := by simpa [dOf] using hn
  have h1 := hsub _ hT.m1
  have hnod : ∀ q, q ∈ rb :: os → ndC q (F q) ∈ l := fun q hq => by
    rcases List.mem_cons.1 hq with rfl | hq
    · exact hsub _ (hT.m3 hT.rin)
    · exact hsub _ (hT.m3 (hT.sub q hq))
  refine fn_of_body Tryz.func127 rfl rfl fun E => ?_
  simp only [argF, Tryz.ntmps127]
  refine gz ?_
  refine t_e e_alloc rfl rfl rfl ?_; rintro _ _ ⟨b3, _, rfl, rfl⟩
  refine gz ?_
  refine t_e (e_call rfl rfl (behind_any _ _ _)) rfl rfl rfl ?_
  rintro v l' ⟨C1, C2, rfl, rfl⟩
  refine gz ?_
  refine c_range (α := Nat) (ps := [13]) (lb := [.pointer (some ⟨C1, 0, none⟩), .pointer (some ⟨C2, 0, none⟩)]) rfl (behind_iter C1 C2 b rb m rb F all os es clock lq hT [] os rfl) (fun _ => rfl) rfl
    (fun pre l => ∃ v cs, OwnSl 222 3 v pre.length (ncs (dOf F pre)) cs ∧ l = [bxL C1 rb, bxT C2 b, (b3, .cells #[v] 42 (0, 0))] ++ cs)
    (fun c pre l => False)
    _ l (fun pre l2 X2 hX h => by obtain ⟨v, cs, _, rfl⟩ := h; exact ⟨.head _, .tail _ (.head _), List.mem_append_right _ (hX _ h1), fun q hq => ⟨F q, List.mem_append_right _ (hX _ (hnod q hq)), rfl⟩⟩) (by exact zKeep) ⟨_, [], OwnSl.nil _ _, rfl⟩ ?_ ?_ ?_
  · rintro E r0 rec pre y l' T ⟨fn, tmps, Dd, rfl⟩ hT0 ⟨v, cs', hown, rfl⟩ hsp
    have hy : y ∈ rb :: os := List.mem_cons_of_mem _ (hsp.subset (by simp))
    have hyT := hT0 _ (hnod y hy)
    have hpl : pre.length ≤ 1000000 := by have := hsp.length_le; simp at this; omega
    simp only [putPs, List.cons_append, List.nil_append]
    refine gz ?_
    refine p_begin (.there (.there (.there (upd_mid _ _ _ _ _)))) ?_
    generalize hX1 : (r0, Obj.loop (recOf fn tmps _ _ _ Dd .busy none)) :: T = X1
    have hyX : ndC y (F y) ∈ X1 := by rw [← hX1]; exact .tail _ hyT
    refine gz ?_
    refine c_draw [(0, true), (1, true), (2, true), (3, true), (4, true), (5, true), (6, true), (7, true), (8, true), (9, true), (10, false), (11, false), (12, false)] [[], [], [1], [1, 2], [1, 2, 3], [], [5], [5, 6], [5, 6, 7], [1, 2, 3, 4, 5, 6, 7, 8], [1, 2, 3, 4, 5, 6, 7, 8, 9], [0, 1, 2, 3, 4, 5, 6, 7, 8, 9, 10], [0, 1, 2, 3, 4, 5, 6, 7, 8, 9, 10, 11]] ([]) (by kernel_rfl) (by kernel_rfl) zAtt zHR ?_
    refine pz ?_
    apply pl_s (S := [(b3, .cells #[v] 42 (0, 0))])
    · exact q_load rfl (.head _) rfl
    · intro c hc; cases hc with
      | head => exact .tail _ (.tail _ (.head _))
      | tail _ h => cases h
    · rfl
    · rfl
    · rfl
    refine pz ?_
    apply pl_s (S := [ndC y (F y)])
    · exact q_loadL rfl (.head _) (by (repeat (first | with_reducible apply LSub.done | with_reducible apply LSub.take | with_reducible apply LSub.drop)))
    · intro c hc; cases hc with
      | head => exact .tail _ (.tail _ (.tail _ (List.mem_append_right _ hyX)))
      | tail _ h => cases h
    · rfl
    · rfl
    · rfl
    refine pz ?_
    apply pl_s (S := [ndC y (F y)])
    · exact q_load rfl (.head _) rfl
    · intro c hc; cases hc with
      | head => exact .tail _ (.tail _ (.tail _ (List.mem_append_right _ hyX)))
      | tail _ h => cases h
    · rfl
    · rfl
    · rfl
    refine pz ?_
    apply pl_eS
    · apply e_litA (ws := nV ((F y).sl, (F y).dp)) (k := 3)
      · rfl
      · rfl
      · rfl
      · decide
      · decide
    · rfl
    · rfl
    · rfl
    · intro _ _ _ c hc; cases hc
    · rintro _ _ ⟨bl, _, rfl, rfl⟩ x hx _ c hc
      have h3 : ∀ o : Obj, (b3, o) ∈ (bl, Obj.cells (List.toArray (nV ((F y).sl, (F y).dp))) 222 (0, 0)) :: bxL C1 rb :: bxT C2 b :: (b3, o) :: (cs' ++ X1) := fun o => .tail _ (.tail _ (.tail _ (.head _)))
      simp only [List.mem_cons, List.not_mem_nil, or_false] at hx
      rcases hx with rfl | rfl | rfl <;> simp only [List.mem_cons, List.not_mem_nil, or_false] at hc <;> subst hc
      · exact .tail _ (.tail _ (.tail _ (.tail _ (List.mem_append_right _ hyX))))
      · exact .tail _ (.tail _ (.tail _ (.tail _ (List.mem_append_right _ hyX))))
      · exact h3 _
    rintro _ _ ⟨bl, _, rfl, rfl⟩
    refine pz ?_
    apply pl_eS
    · apply e_appX (k := 3) (X := [bxL C1 rb, bxT C2 b, (b3, .cells #[v] 42 (0, 0))]) (cs := cs') (xs := ncs (dOf F pre)) (n := pre.length) (zs := [.int .i64 0, .int .i64 0, .int .i64 0]) (ws := nV ((F y).sl, (F y).dp))
      · rfl
      · rfl
      · rfl
      · exact hown
      · rfl
      · simp [Value.oneCell']
      · omega
      · decide
    · rfl
    · rfl
    · rfl
    · intro _ _ _ c hc; cases hc
    · exact fun _ _ _ x hx ha => anc_all (by kernel_rfl) hx ha
    rintro v' _ ⟨c2, ho2, rfl⟩
    have hv1 : v'.oneCell' = true := ho2.one
    simp only [List.cons_append, List.nil_append]
    apply pl_nS
    · apply e_storeL (cs := [v])
      · rfl
      · rfl
      · exact hv1
      · exact zMem
      · exact .zero
      · exact zUpd
    · rfl
    · rfl
    · intro _ _ _ c hc; cases hc
    · exact fun _ _ _ x hx ha => anc_all (by kernel_rfl) hx ha
    rintro _ _ ⟨rfl, rfl⟩
    refine pz ?_
    refine gz ?_
    rw [← hX1]
    refine p_round _ (.refl) ⟨v', c2, ?_, rfl⟩
    rw [dOf_snoc, ncs_snoc, List.length_append]; exact ho2
  · rintro Dd xs l' rfl ⟨v, cs', hown, rfl⟩
    have hv1 : v.oneCell' = true := hown.one
    simp only [List.cons_append, List.nil_append]
    refine gz ?_
    refine k_ret2 [Dd] (cs' ++ l) rfl (l' := cs' ++ l) (by exact zKeep) (by exact zRes) .refl ?_
    exact ⟨cs', by rw [show (dOf F xs).length = xs.length by simp [dOf]]; exact hown, rfl⟩
  · rintro Dd c pre l' hsp h
    exact h.elim
theorem sing_mem {c : Chunk} {l : List Chunk} (h : c ∈ l) : ∀ x, x ∈ [c] → x ∈ l := fun x hx => by rw [List.mem_singleton.1 hx]; exact h
abbrev slC (B : Nat) (s : SlotT) : Chunk := (B, .cells (List.toArray (encT s)) 109 (0, 0))
def hasD (D : DT) (s : SlotT) : Bool := (splitD s D).isSome
def rootD (D : DT) (s : SlotT) : Int × DT := if hasD D s = true then (11, D) else (0, D ++ [(s, 0)])
def childD (D : DT) (par s : SlotT) : Int × DT := match splitD par D with
  | none => (10, D)
  | some (A, d, B) => if hasD D s = true then (11, D) else (0, A ++ (par, d) :: (s, d + 1) :: B)
theorem has_blk {F : Nat → NdT} {os : List Nat} {s : SlotT} : hasD (dOf F os) s = (blk F os s).isSome := by
  unfold hasD
  cases h : blk F os s with
  | none => rw [split_none h]; rfl
  | some p => obtain ⟨A, B, _, h2⟩ := split_blk h; rw [h2]; rfl
def SmallD (D : DT) : Prop := ∀ x, x ∈ D → -1000000 ≤ x.2 ∧ x.2 ≤ 1000000
theorem dOf_take {F : Nat → NdT} {A B : List Nat} (p : Nat) : (dOf F (A ++ p :: B)).take (A.length + 1) = dOf F A ++ [((F p).sl, (F p).dp)] := by
  unfold dOf
  rw [List.map_append, List.map_cons, List.take_append, List.take_of_length_le (by simp)]
  simp
theorem dOf_drop {F : Nat → NdT} {A B : List Nat} (p : Nat) : (dOf F (A ++ p :: B)).drop (A.length + 1) = dOf F B := by
  unfold dOf
  rw [List.map_append, List.map_cons, List.drop_append, List.drop_of_length_le (by simp)]
  simp
theorem root_any (b : Nat) (D : DT) (lq : List Chunk) (hq : IsT b D lq) (s : SlotT) (G : List Chunk) :
    Fn Tryz.prog 146 [.pointer (some ⟨b, 0, none⟩), .agg (List.toArray (encT s))] (lq ++ G) fun v l' => v = .int .i64 (rootD D s).1 ∧ ∃ lq', IsT b (rootD D s).2 lq' ∧ l' = lq' ++ G := by
  obtain ⟨rb, m, F, all, os, es, clock, rfl, hT⟩ := hq
  refine fn_of_body Tryz.func146 rfl rfl fun E => ?_
  simp only [argF, Tryz.ntmps146]
  refine gz ?_
  refine t_e (e_boxA rfl) rfl rfl rfl ?_
  rintro _ _ ⟨b3, hb3, rfl, rfl⟩
  refine s_keep (Keep.of_perm (l' := lq ++ (slC b3 s :: G)) List.perm_middle.symm) ?_
  have hsub : ∀ c, c ∈ lq → c ∈ lq ++ (slC b3 s :: G) := fun c hc => List.mem_append_left _ hc
  have hbm : slC b3 s ∈ lq ++ (slC b3 s :: G) := List.mem_append_right _ (.head _)
  refine gz ?_
  refine t_q (q_call (R := lq ++ (slC b3 s :: G)) rfl rfl fun l2 hl2 => of_any b rb m F all os es clock lq s hT l2 fun c hc => hl2 c (hsub c hc)) rfl rfl rfl ?_
  cases hbk : blk F os s with
  | some p =>
    rw [show rootD (dOf F os) s = (11, dOf F os) by unfold rootD; rw [has_blk, hbk]; rfl]
    simp only [ptrO]
    refine gz ?_
    exact k_ret [] rfl (l' := lq ++ G) (Keep.trans (.of_perm List.perm_middle) (.drop .refl)) (by exact zRes) ⟨rfl, lq, ⟨rb, m, F, all, os, es, clock, rfl, hT⟩, rfl⟩
  | none =>
    rw [show rootD (dOf F os) s = (0, dOf F os ++ [(s, 0)]) by unfold rootD; rw [has_blk, hbk]; rfl]
    simp only [ptrO]
    obtain ⟨X, p, hX⟩ : ∃ X p, rb :: os = X ++ [p] := ⟨_, _, (List.dropLast_concat_getLast (List.cons_ne_nil rb os)).symm⟩
    have hpv : (F rb).pv = p := hT.prv (Y := []) hX
    have hXl : X.length = os.length := by have := congrArg List.length hX; simp at this; omega
    refine gz ?_
    refine c_draw [(0, true), (1, true), (2, true), (3, true), (4, true), (5, true), (6, true), (7, true), (8, true), (9, false)] [[], [], [1], [1, 2], [1, 2, 3], [1, 2, 3, 4], [1, 2, 3, 4, 5], [1, 2, 3, 4, 5, 6], [], [0, 1, 2, 3, 4, 5, 6, 7, 8]] ([]) (by kernel_rfl) (by kernel_rfl) zAtt zHR ?_
    refine pz ?_
    apply pl_s (S := [trC b rb m]); (· exact zLd); (· exact sing_mem (hsub _ hT.m1)); (· rfl); (· rfl); (· rfl)
    refine pz ?_
    apply pl_s (S := [ndC rb (F rb)]); (· exact zLd); (· exact sing_mem (hsub _ (hT.m3 hT.rin))); (· rfl); (· rfl); (· rfl)
    refine pz ?_
    rw [hpv]
    apply pl_s (S := [slC b3 s]); (· exact zLd); (· exact sing_mem (hbm)); (· rfl); (· rfl); (· rfl)
    refine pz ?_
    apply pl_eS
    · exact e_call0 rfl rfl (put_any b rb m F all os es clock lq hT X [] p hX s 0 hbk (slC b3 s :: G))
    (· rfl); (· rfl); (· rfl); (· intro _ _ _ c hc; cases hc); (· exact fun _ _ _ x hx ha => anc_all (by kernel_rfl) hx ha)
    rintro _ _ ⟨rfl, lq', hq', rfl⟩
    refine pz ?_
    refine gz ?_
    refine k_ret [] rfl (l' := lq' ++ G) (Keep.trans (.of_perm List.perm_middle) (.drop .refl)) (by exact zRes) ⟨rfl, lq', ?_, rfl⟩
    rw [hXl, List.take_of_length_le (by simp [dOf]), List.drop_of_length_le (by simp [dOf])] at hq'
    exact hq'
theorem child_any (b : Nat) (D : DT) (lq : List Chunk) (hq : IsT b D lq) (hd : SmallD D) (par s : SlotT) (G : List Chunk) :
    Fn Tryz.prog 215 [.pointer (some ⟨b, 0, none⟩), .agg (List.toArray (encT par)), .agg (List.toArray (encT s))] (lq ++ G) fun v l' => v = .int .i64 (childD D par s).1 ∧ ∃ lq', IsT b (childD D par s).2 lq' ∧ l' = lq' ++ G := by
  obtain ⟨rb, m, F, all, os, es, clock, rfl, hT⟩ := hq
  refine fn_of_body Tryz.func215 rfl rfl fun E => ?_
  simp only [argF, Tryz.ntmps215]
  refine gz ?_
  refine t_e (e_boxA rfl) rfl rfl rfl ?_
  rintro _ _ ⟨b4, hb4, rfl, rfl⟩
  refine gz ?_
  refine t_e (e_boxA rfl) rfl rfl rfl ?_
  rintro _ _ ⟨b5, hb5, rfl, rfl⟩
  have hk2 : ∀ lq : List Chunk, Keep (lq ++ (slC b5 s :: slC b4 par :: G)) (lq ++ G) := fun lq => Keep.trans (.of_perm (List.perm_append_comm_assoc lq [slC b5 s, slC b4 par] G)) (.drop (.drop .refl))
  refine s_keep (Keep.of_perm (l' := lq ++ (slC b5 s :: slC b4 par :: G)) (List.perm_append_comm_assoc [slC b5 s, slC b4 par] lq G)) ?_
  have hsub : ∀ c, c ∈ lq → c ∈ lq ++ (slC b5 s :: slC b4 par :: G) := fun c hc => List.mem_append_left _ hc
  have hm4 : slC b4 par ∈ lq ++ (slC b5 s :: slC b4 par :: G) := List.mem_append_right _ (.tail _ (.head _))
  have hm5 : slC b5 s ∈ lq ++ (slC b5 s :: slC b4 par :: G) := List.mem_append_right _ (.head _)
  refine gz ?_
  refine t_q (q_call (R := lq ++ (slC b5 s :: slC b4 par :: G)) rfl rfl fun l2 hl2 => of_any b rb m F all os es clock lq par hT l2 fun c hc => hl2 c (hsub c hc)) rfl rfl rfl ?_
  cases hbp : blk F os par with
  | none =>
    rw [show childD (dOf F os) par s = (10, dOf F os) by unfold childD; rw [split_none hbp]]
    simp only [ptrO]
    refine gz ?_
    exact k_ret [] rfl (l' := lq ++ G) (hk2 lq) (by exact zRes) ⟨rfl, lq, ⟨rb, m, F, all, os, es, clock, rfl, hT⟩, rfl⟩
  | some p =>
    simp only [ptrO]
    refine gz ?_
    refine t_q (q_call (R := lq ++ (slC b5 s :: slC b4 par :: G)) rfl rfl fun l2 hl2 => of_any b rb m F all os es clock lq s hT l2 fun c hc => hl2 c (hsub c hc)) rfl rfl rfl ?_
    cases hbk : blk F os s with
    | some q =>
      rw [show childD (dOf F os) par s = (11, dOf F os) by unfold childD; obtain ⟨A, B, _, h2⟩ := split_blk hbp; rw [h2]; simp only; rw [has_blk, hbk]; rfl]
      simp only [ptrO]
      refine gz ?_
      exact k_ret [] rfl (l' := lq ++ G) (hk2 lq) (by exact zRes) ⟨rfl, lq, ⟨rb, m, F, all, os, es, clock, rfl, hT⟩, rfl⟩
    | none =>
      obtain ⟨A, B, hos, h2⟩ := split_blk hbp
      have hps := (blk_some hbp).2
      have hpo := (blk_some hbp).1
      rw [show childD (dOf F os) par s = (0, dOf F A ++ (par, (F p).dp) :: (s, (F p).dp + 1) :: dOf F B) by unfold childD; rw [h2]; simp only; rw [has_blk, hbk]; rfl]
      have hX : rb :: os = (rb :: A) ++ p :: B := by rw [hos]; rfl
      have hr := hd _ (List.mem_map.2 ⟨p, hpo, rfl⟩)
      simp only at hr
      simp only [ptrO]
      refine gz ?_
      refine c_draw [(0, true), (1, true), (2, true), (3, true), (4, true), (5, true), (6, true), (7, true), (8, false)] [[], [], [], [], [3], [3, 4], [3, 4, 5], [3, 4, 5, 6], [0, 1, 2, 3, 4, 5, 6, 7]] ([]) (by kernel_rfl) (by kernel_rfl) zAtt zHR ?_
      refine pz ?_
      apply pl_s (S := [slC b5 s]); (· exact zLd); (· exact sing_mem (hm5)); (· rfl); (· rfl); (· rfl)
      refine pz ?_
      apply pl_s (S := [ndC p (F p)]); (· exact zLd); (· exact sing_mem (hsub _ (hT.m3 (hT.sub p hpo)))); (· rfl); (· rfl); (· rfl)
      refine pz ?_
      apply pl_eS
      · exact e_call0 rfl rfl (put_any b rb m F all os es clock lq hT (rb :: A) B p hX s _ hbk (slC b5 s :: slC b4 par :: G))
      (· rfl); (· rfl); (· rfl); (· intro _ _ _ c hc; cases hc); (· exact fun _ _ _ x hx ha => anc_all (by kernel_rfl) hx ha)
      rintro _ _ ⟨rfl, lq', hq', rfl⟩
      refine pz ?_
      refine gz ?_
      refine k_ret [] rfl (l' := lq' ++ G) (hk2 lq') (by exact zRes) ⟨rfl, lq', ?_, rfl⟩
      rw [List.length_cons, hos, dOf_take, dOf_drop, hps] at hq'
      simpa using hq'
section
variable {P : Program} {ro : Option Nat} {N : Nat} {fr : Fr} {R : List Chunk} {d : Option Nat} {ty t t2 : TypeId} {pos : String} {aft : Array Edge} {g : Option (Nat × Bool)} {x y : Operand}
end
def DepOk : Int → DT → Prop
  | _, [] => True
  | e, x :: r => 0 ≤ x.2 ∧ x.2 ≤ e ∧ DepOk (x.2 + 1) r
theorem DepOk.mono : ∀ {D : DT} {e f : Int}, DepOk e D → e ≤ f → DepOk f D
  | [], _, _, _, _ => trivial
  | x :: r, e, f, ⟨h1, h2, h3⟩, h => ⟨h1, by omega, h3⟩
theorem DepOk.bound : ∀ {D : DT} {e : Int}, DepOk e D → ∀ x, x ∈ D → 0 ≤ x.2 ∧ x.2 ≤ e + D.length
  | [], _, _, x, hx => by cases hx
  | y :: r, e, ⟨h1, h2, h3⟩, x, hx => by
    rw [List.length_cons]
    rcases List.mem_cons.1 hx with rfl | hx
    · exact ⟨h1, by omega⟩
    · have := DepOk.bound h3 x hx
      exact ⟨this.1, by omega⟩
def lastE : Int → DT → Int
  | e, [] => e
  | _, x :: r => lastE (x.2 + 1) r
theorem DepOk.app : ∀ {A B : DT} {e : Int}, DepOk e (A ++ B) ↔ DepOk e A ∧ DepOk (lastE e A) B
  | [], B, e => ⟨fun h => ⟨trivial, h⟩, fun h => h.2⟩
  | x :: A, B, e => by
    show 0 ≤ x.2 ∧ x.2 ≤ e ∧ DepOk (x.2 + 1) (A ++ B) ↔ (0 ≤ x.2 ∧ x.2 ≤ e ∧ DepOk (x.2 + 1) A) ∧ DepOk (lastE (x.2 + 1) A) B
    rw [DepOk.app (A := A)]
    exact ⟨fun ⟨h1, h2, h3, h4⟩ => ⟨⟨h1, h2, h3⟩, h4⟩, fun ⟨⟨h1, h2, h3⟩, h4⟩ => ⟨h1, h2, h3, h4⟩⟩
theorem DepOk.last : ∀ {A : DT} {e : Int}, DepOk e A → 0 ≤ e → 0 ≤ lastE e A
  | [], _, _, h => h
  | x :: A, e, ⟨h1, _, h3⟩, _ => by show 0 ≤ lastE (x.2 + 1) A; exact DepOk.last h3 (by omega)
structure GoodT (D : DT) (n : Nat) : Prop where
  nd : (D.map Prod.fst).Nodup
  dep : DepOk 0 D
  len : D.length ≤ n
theorem GoodT.small {D : DT} {n : Nat} (h : GoodT D n) (hn : n ≤ 1000000) : SmallD D := fun x hx => by
  have := h.dep.bound x hx
  have := h.len
  omega
theorem splitD_some {s : SlotT} : ∀ {D A B : DT} {d : Int}, splitD s D = some (A, d, B) → D = A ++ (s, d) :: B ∧ ∀ x, x ∈ A → x.1 ≠ s
  | [], _, _, _, h => by cases h
  | y :: r, A, B, d, h => by
    unfold splitD at h
    by_cases e : y.1 = s
    · rw [if_pos e] at h
      cases h
      refine ⟨by rw [← e]; rfl, by simp⟩
    · rw [if_neg e] at h
      cases h2 : splitD s r with
      | none => rw [h2] at h; cases h
      | some z =>
        rw [h2] at h
        obtain ⟨A', d', B'⟩ := z
        cases h
        obtain ⟨rfl, h3⟩ := splitD_some h2
        refine ⟨rfl, fun x hx => ?_⟩
        rcases List.mem_cons.1 hx with rfl | hx
        · exact e
        · exact h3 x hx
theorem splitD_none {s : SlotT} : ∀ {D : DT}, splitD s D = none ↔ ∀ x, x ∈ D → x.1 ≠ s
  | [] => ⟨fun _ x hx => (by cases hx), fun _ => rfl⟩
  | y :: r => by
    unfold splitD
    by_cases e : y.1 = s
    · rw [if_pos e]; exact ⟨fun h => (by cases h), fun h => absurd e (h y List.mem_cons_self)⟩
    · rw [if_neg e]
      constructor
      · intro h x hx
        have h2 : splitD s r = none := by cases h2 : splitD s r with | none => rfl | some z => rw [h2] at h; cases h
        rcases List.mem_cons.1 hx with rfl | hx
        · exact e
        · exact splitD_none.1 h2 x hx
      · intro h
        rw [splitD_none.2 fun x hx => h x (List.mem_cons_of_mem _ hx)]; rfl
theorem splitD_of {s : SlotT} {d : Int} {A B : DT} (h : ∀ x, x ∈ A → x.1 ≠ s) : splitD s (A ++ (s, d) :: B) = some (A, d, B) := by
  induction A with
  | nil => show splitD s ((s, d) :: B) = _; unfold splitD; rw [if_pos rfl]
  | cons y A ih =>
    show splitD s (y :: (A ++ (s, d) :: B)) = _
    unfold splitD
    rw [if_neg (h y List.mem_cons_self), ih fun x hx => h x (List.mem_cons_of_mem _ hx)]; rfl
theorem hasD_no {D : DT} {s : SlotT} : hasD D s = false ↔ ∀ x, x ∈ D → x.1 ≠ s := by
  unfold hasD
  rw [← splitD_none]
  cases splitD s D <;> simp
theorem hasD_yes {D : DT} {s : SlotT} : hasD D s = true ↔ s ∈ D.map Prod.fst := by
  constructor
  · intro h
    unfold hasD at h
    cases h2 : splitD s D with
    | none => rw [h2] at h; cases h
    | some z =>
      obtain ⟨A, d, B⟩ := z
      rw [(splitD_some h2).1]; simp
  · intro h
    cases h2 : hasD D s with
    | true => rfl
    | false =>
      obtain ⟨x, hx, rfl⟩ := List.mem_map.1 h
      exact absurd rfl (hasD_no.1 h2 x hx)
theorem GoodT.mono {D : DT} {n m : Nat} (h : GoodT D n) (hm : n ≤ m) : GoodT D m := ⟨h.nd, h.dep, Nat.le_trans h.len hm⟩
theorem GoodT.root {D : DT} {n : Nat} (h : GoodT D n) (s : SlotT) : GoodT (rootD D s).2 (n + 1) := by
  unfold rootD
  by_cases hs : hasD D s = true
  · rw [if_pos hs]; exact h.mono (by omega)
  · rw [if_neg hs]
    have hno := hasD_no.1 (by simpa using hs)
    refine ⟨?_, DepOk.app.2 ⟨h.dep, by simp only; omega, h.dep.last (by omega), trivial⟩, by have := h.len; simp; omega⟩
    rw [List.map_append, List.nodup_append]
    refine ⟨h.nd, by simp, fun a ha c hc e => ?_⟩
    obtain ⟨x, hx, rfl⟩ := List.mem_map.1 ha
    exact hno x hx (by rw [e]; simpa using hc)
theorem GoodT.child {D : DT} {n : Nat} (h : GoodT D n) (p s : SlotT) : GoodT (childD D p s).2 (n + 1) := by
  unfold childD
  cases h2 : splitD p D with
  | none => exact h.mono (by omega)
  | some z =>
    obtain ⟨A, d, B⟩ := z
    simp only
    by_cases hs : hasD D s = true
    · rw [if_pos hs]; exact h.mono (by omega)
    · rw [if_neg hs]
      have hno := hasD_no.1 (by simpa using hs)
      obtain ⟨rfl, hA⟩ := splitD_some h2
      obtain ⟨h3, h4, h5, h6⟩ := DepOk.app.1 h.dep
      refine ⟨?_, DepOk.app.2 ⟨h3, h4, h5, by simp only; omega, by simp only; omega, h6.mono (by simp only; omega)⟩, by have := h.len; simp at this ⊢; omega⟩
      have hp : ((A ++ (p, d) :: (s, d + 1) :: B).map Prod.fst).Perm (s :: (A ++ (p, d) :: B).map Prod.fst) := by
        have : (A ++ (p, d) :: (s, d + 1) :: B).Perm ((s, d + 1) :: (A ++ (p, d) :: B)) := by
          have e : A ++ (p, d) :: (s, d + 1) :: B = (A ++ [(p, d)]) ++ (s, d + 1) :: B := by simp
          have e2 : A ++ (p, d) :: B = (A ++ [(p, d)]) ++ B := by simp
          rw [e, e2]; exact List.perm_middle
        exact this.map _
      rw [hp.nodup_iff, List.nodup_cons]
      refine ⟨fun hm => ?_, h.nd⟩
      obtain ⟨x, hx, e⟩ := List.mem_map.1 hm
      exact hno x hx e
theorem GoodT.none : GoodT [] 0 := ⟨by simp, trivial, by simp⟩
end Go.Proofs.YtcjknmpogkofpaaGreat.Tr
namespace Go.Proofs.YtcjknmpogkofpaaGreat
open Go.RowKit
set_option maxRecDepth 20000
abbrev HS := SD × Tr.DT
def someC (c : CapT) : Bool := mayC c && !decide (c.kind = 0)
def rootH (H : HS) (s : slT) (c : CapT) : Int × HS :=
  if okD H.1 s = false then (3, H) else if someC c = false then (5, H) else if (atD H.1 s).kind ≠ 0 then (11, H) else (0, (putD H.1 s c, (Tr.rootD H.2 s).2))
def childH (H : HS) (p s : slT) (c : CapT) : Int × HS :=
  if okD H.1 p = false ∨ okD H.1 s = false then (3, H) else if someC c = false then (5, H) else if (atD H.1 p).kind = 0 then (10, H) else if (atD H.1 s).kind ≠ 0 then (11, H) else (0, (putD H.1 s c, (Tr.childD H.2 p s).2))
def fromE (H : HS) (a b : slT) : Int :=
  if okD H.1 a = false ∨ okD H.1 b = false then 3 else if (atD H.1 a).kind = 0 then 10 else if (atD H.1 b).kind ≠ 0 then 11 else 0
def derH (H : HS) (a b : slT) (r : CapT × Int) : Int × HS := if fromE H a b ≠ 0 then (fromE H a b, H) else if r.2 ≠ 0 then (r.2, H) else childH H a b r.1
structure InvH (H : HS) (n : Nat) : Prop where
  tree : Tr.GoodT H.2 n
  asc : H.1.Pairwise fun x y => x.1 < y.1
  val : ∀ x, x ∈ H.1 → ∀ c, c ∈ x.2 → mayC c = true ∧ CapW c
  link : ∀ s, Tr.hasD H.2 s = true ↔ okD H.1 s = true ∧ (atD H.1 s).kind ≠ 0
  len : H.1.length ≤ n + 3
theorem capZ_ok : mayC capZ = true ∧ CapW capZ := ⟨rfl, by decide, by decide⟩
theorem InvH.at {H : HS} {n : Nat} (h : InvH H n) (s : slT) : mayC (atD H.1 s) = true ∧ CapW (atD H.1 s) := by
  unfold atD
  split
  · rename_i x hx
    have hm := (findK_some hx).1
    rw [List.getD_eq_getElem?_getD]
    cases hk : x.2[s.2.toNat]? with
    | none => exact capZ_ok
    | some c => exact h.val x hm c (List.mem_of_getElem? hk)
  · exact capZ_ok
theorem InvH.valD {H : HS} {n : Nat} (h : InvH H n) : ValD H.1 := fun x hx c hc hk => may_zero (h.val x hx c hc).1 hk
theorem InvH.mono {H : HS} {n m : Nat} (h : InvH H n) (hm : n ≤ m) : InvH H m := ⟨h.tree.mono hm, h.asc, h.val, h.link, Nat.le_trans h.len (by omega)⟩
theorem put_asc {D : SD} (h : D.Pairwise fun x y => x.1 < y.1) (s : slT) (c : CapT) : (putD D s c).Pairwise fun x y => x.1 < y.1 := by
  have e : (putD D s c).map Prod.fst = D.map Prod.fst := by
    unfold putD
    rw [List.map_map]
    apply List.map_congr_left
    intro x _
    show (if x.1 = s.1 then (x.1, x.2.set s.2.toNat c) else x).1 = x.1
    split <;> rfl
  have h2 : (D.map Prod.fst).Pairwise (· < ·) := List.pairwise_map.2 h
  rw [← e] at h2
  exact List.pairwise_map.1 h2
theorem put_val {D : SD} (h : ∀ x, x ∈ D → ∀ c, c ∈ x.2 → mayC c = true ∧ CapW c) (s : slT) {c : CapT} (hc : mayC c = true ∧ CapW c) : ∀ x, x ∈ putD D s c → ∀ d, d ∈ x.2 → mayC d = true ∧ CapW d := by
  intro x hx y hy
  obtain ⟨z, hz, rfl⟩ := List.mem_map.1 hx
  split at hy
  · rcases List.mem_or_eq_of_mem_set hy with hy | rfl
    · exact h z hz y hy
    · exact hc
  · exact h z hz y hy
theorem put_len (D : SD) (s : slT) (c : CapT) : (putD D s c).length = D.length := by simp [putD]
theorem ok_nn {D : SD} {s : slT} (h : okD D s = true) : 0 ≤ s.2 := by
  unfold okD at h; rw [Bool.and_eq_true, decide_eq_true_eq] at h; exact h.1
theorem at_putI {D : SD} {s t : slT} {c : CapT} (hs : okD D s = true) (ht : okD D t = true) : atD (putD D s c) t = if t = s then c else atD D t := by
  by_cases h : t = s
  · rw [if_pos h, h, at_put hs]
  · rw [if_neg h, at_put_ne (ok_nn hs) (ok_nn ht) h]
theorem set_ok {D : SD} {s : slT} {c : CapT} (h : okD D s = true) (hc : mayC c = true) : setD D s c = (0, putD D s c) := by unfold setD; rw [if_pos h, if_pos hc]
theorem InvH.put {H : HS} {n m : Nat} (h : InvH H n) (hm : n ≤ m) {s : slT} {c : CapT} (hs : okD H.1 s = true) (hc : mayC c = true ∧ CapW c) {T : Tr.DT} (hT : Tr.GoodT T m) (hl : ∀ t, Tr.hasD T t = true ↔ okD H.1 t = true ∧ (if t = s then c else atD H.1 t).kind ≠ 0) : InvH (putD H.1 s c, T) m :=
  ⟨hT, put_asc h.asc s c, put_val h.val s hc, fun t => by
    rw [hl t, ok_put]
    constructor
    · rintro ⟨h1, h2⟩; exact ⟨h1, by rw [at_putI hs h1]; exact h2⟩
    · rintro ⟨h1, h2⟩; exact ⟨h1, by rw [at_putI hs h1] at h2; exact h2⟩, by rw [put_len]; have := h.len; omega⟩
theorem some_c {c : CapT} (h : someC c = true) : mayC c = true ∧ c.kind ≠ 0 := by
  unfold someC at h; rw [Bool.and_eq_true] at h; exact ⟨h.1, by simpa using h.2⟩
/-! the tree's slots behind each call -/
theorem has_iff {D : Tr.DT} {s : slT} : Tr.hasD D s = true ↔ s ∈ D.map Prod.fst := Tr.hasD_yes
theorem has_root {D : Tr.DT} {s t : slT} (h : Tr.hasD D s = false) : (Tr.rootD D s).1 = 0 ∧ (Tr.hasD (Tr.rootD D s).2 t = true ↔ t = s ∨ Tr.hasD D t = true) := by
  have e : Tr.rootD D s = (0, D ++ [(s, 0)]) := by unfold Tr.rootD; rw [h]; rfl
  rw [e]
  refine ⟨rfl, ?_⟩
  rw [has_iff, has_iff]
  simp only [List.map_append, List.map_cons, List.map_nil, List.mem_append, List.mem_singleton]
  exact Or.comm
theorem has_child {D : Tr.DT} {p s t : slT} (hp : Tr.hasD D p = true) (h : Tr.hasD D s = false) : (Tr.childD D p s).1 = 0 ∧ (Tr.hasD (Tr.childD D p s).2 t = true ↔ t = s ∨ Tr.hasD D t = true) := by
  unfold Tr.hasD at hp
  cases h2 : Tr.splitD p D with
  | none => rw [h2] at hp; cases hp
  | some z =>
    obtain ⟨A, d, B⟩ := z
    have e : Tr.childD D p s = (0, A ++ (p, d) :: (s, d + 1) :: B) := by unfold Tr.childD; rw [h2]; simp only; rw [if_neg (by rw [h]; decide)]
    rw [e]
    refine ⟨rfl, ?_⟩
    have hD := (Tr.splitD_some h2).1
    rw [has_iff, has_iff, hD]
    simp only [List.map_append, List.map_cons, List.mem_append, List.mem_cons]
    constructor
    · rintro (h | h | h | h)
      · exact .inr (.inl h)
      · exact .inr (.inr (.inl h))
      · exact .inl h
      · exact .inr (.inr (.inr h))
    · rintro (h | h | h | h)
      · exact .inr (.inr (.inl h))
      · exact .inl h
      · exact .inr (.inl h)
      · exact .inr (.inr (.inr h))
theorem InvH.no {H : HS} {n : Nat} (h : InvH H n) {s : slT} (hk : (atD H.1 s).kind = 0) : Tr.hasD H.2 s = false := by
  cases e : Tr.hasD H.2 s with
  | false => rfl
  | true => exact absurd hk ((h.link s).1 e).2
/-! what stays so -/
theorem InvH.root {H : HS} {n : Nat} (h : InvH H n) (s : slT) (c : CapT) (hw : CapW c) : InvH (rootH H s c).2 (n + 1) := by
  unfold rootH
  by_cases h1 : okD H.1 s = false
  · rw [if_pos h1]; exact h.mono (by omega)
  rw [if_neg h1]
  by_cases h2 : someC c = false
  · rw [if_pos h2]; exact h.mono (by omega)
  rw [if_neg h2]
  by_cases h3 : (atD H.1 s).kind ≠ 0
  · rw [if_pos h3]; exact h.mono (by omega)
  rw [if_neg h3]
  obtain ⟨c1, c2⟩ := some_c (by simpa using h2)
  have hok : okD H.1 s = true := by simpa using h1
  refine h.put (by omega) hok ⟨c1, hw⟩ (h.tree.root s) fun t => ?_
  rw [(has_root (h.no (by simpa using h3))).2, h.link]
  by_cases e : t = s
  · subst e; simp [hok, c2]
  · simp [e]
theorem InvH.child {H : HS} {n : Nat} (h : InvH H n) (p s : slT) (c : CapT) (hw : CapW c) : InvH (childH H p s c).2 (n + 1) := by
  unfold childH
  by_cases h1 : okD H.1 p = false ∨ okD H.1 s = false
  · rw [if_pos h1]; exact h.mono (by omega)
  rw [if_neg h1]
  by_cases h2 : someC c = false
  · rw [if_pos h2]; exact h.mono (by omega)
  rw [if_neg h2]
  by_cases h3 : (atD H.1 p).kind = 0
  · rw [if_pos h3]; exact h.mono (by omega)
  rw [if_neg h3]
  by_cases h4 : (atD H.1 s).kind ≠ 0
  · rw [if_pos h4]; exact h.mono (by omega)
  rw [if_neg h4]
  obtain ⟨c1, c2⟩ := some_c (by simpa using h2)
  have hok : okD H.1 s = true := by cases e : okD H.1 s <;> simp_all
  have hokp : okD H.1 p = true := by cases e : okD H.1 p <;> simp_all
  refine h.put (by omega) hok ⟨c1, hw⟩ (h.tree.child p s) fun t => ?_
  rw [(has_child ((h.link p).2 ⟨hokp, h3⟩) (h.no (by simpa using h4))).2, h.link]
  by_cases e : t = s
  · subst e; simp [hok, c2]
  · simp [e]
theorem from_0 {H : HS} {a b : slT} (h : fromE H a b = 0) : okD H.1 a = true ∧ okD H.1 b = true ∧ (atD H.1 a).kind ≠ 0 ∧ (atD H.1 b).kind = 0 := by
  unfold fromE at h
  split at h
  · cases h
  rename_i h1
  split at h
  · cases h
  rename_i h2
  split at h
  · cases h
  rename_i h3
  exact ⟨by cases e : okD H.1 a <;> simp_all, by cases e : okD H.1 b <;> simp_all, h2, by simpa using h3⟩
theorem InvH.der {H : HS} {n : Nat} (h : InvH H n) (a b : slT) (r : CapT × Int) (hw : CapW r.1) : InvH (derH H a b r).2 (n + 1) := by
  unfold derH
  split
  · exact h.mono (by omega)
  split
  · exact h.mono (by omega)
  · exact h.child a b _ hw
theorem find_ins {D : SD} (h : D.Pairwise fun x y => x.1 < y.1) {x : Int × List CapT} (hn : findK Prod.fst D x.1 = none) (a : Int) : findK Prod.fst (insK Prod.fst D x) a = if a = x.1 then some x else findK Prod.fst D a := by
  have ha := ins_asc (key := Prod.fst) h hn
  by_cases e : a = x.1
  · rw [if_pos e, e]; exact asc_at ha (mem_ins.2 (.inl rfl))
  · rw [if_neg e]
    cases hf : findK Prod.fst D a with
    | none =>
      refine findK_none.2 fun y hy => ?_
      rcases mem_ins.1 hy with rfl | hy
      · exact fun e2 => e e2.symm
      · exact findK_none.1 hf y hy
    | some y =>
      obtain ⟨h1, h2⟩ := findK_some hf
      rw [← h2]; exact asc_at ha (mem_ins.2 (.inr h1))
theorem InvH.add {H : HS} {n : Nat} (h : InvH H n) (id k : Int) : InvH ((addN H.1 id k).2, H.2) (n + 1) := by
  unfold addN
  split
  · exact h.mono (by omega)
  split
  · exact h.mono (by omega)
  rename_i h1 h2
  have hn : findK Prod.fst H.1 id = none := by cases e : findK Prod.fst H.1 id <;> simp_all
  have hf := find_ins h.asc (x := (id, List.replicate k.toNat capZ)) hn
  refine ⟨h.tree.mono (by omega), ins_asc h.asc hn, fun x hx c hc => ?_, fun s => ?_, ?_⟩
  · rcases mem_ins.1 hx with rfl | hx
    · rw [List.eq_of_mem_replicate hc]; exact capZ_ok
    · exact h.val x hx c hc
  · rw [h.link]
    have e1 : sizeD H.1 id = 0 := by unfold sizeD; rw [hn]
    unfold okD sizeD atD
    simp only
    rw [hf]
    by_cases e : s.1 = id
    · rw [if_pos e, e, hn]
      simp
      intro _ _
      have : List.getD (List.replicate k.toNat capZ) s.2.toNat capZ = capZ := by
        rw [List.getD_eq_getElem?_getD]
        cases e3 : (List.replicate k.toNat capZ)[s.2.toNat]? with
        | none => rfl
        | some c => rw [List.eq_of_mem_replicate (List.mem_of_getElem? e3)]; rfl
      rw [List.getD_eq_getElem?_getD] at this
      rw [this]
    · rw [if_neg e]
  · show (insK Prod.fst H.1 (id, _)).length ≤ _
    rw [ins_len]; have := h.len; omega
abbrev hoC (b bs bt : Nat) : Chunk := (b, .cells (List.toArray [.pointer (some ⟨bs, 0, none⟩), .pointer (some ⟨bt, 0, none⟩)]) 231 (0, 0))
structure HB (b bs bt : Nat) (H : HS) (ls lt lq : List Chunk) : Prop where
  eq : lq = hoC b bs bt :: (ls ++ lt)
  s : IsS bs H.1 ls
  t : Tr.IsT bt H.2 lt
def IsH (b : Nat) (H : HS) (lq : List Chunk) : Prop := ∃ bs bt ls lt, HB b bs bt H ls lt lq
theorem HB.h {b bs bt : Nat} {H : HS} {ls lt lq : List Chunk} (h : HB b bs bt H ls lt lq) : hoC b bs bt ∈ lq := by rw [h.eq]; exact .head _
theorem HB.m1 {b bs bt : Nat} {H : HS} {ls lt lq : List Chunk} (h : HB b bs bt H ls lt lq) : ∀ c, c ∈ ls → c ∈ lq := fun c hc => by rw [h.eq]; exact .tail _ (List.mem_append_left _ hc)
theorem HB.m2 {b bs bt : Nat} {H : HS} {ls lt lq : List Chunk} (h : HB b bs bt H ls lt lq) : ∀ c, c ∈ lt → c ∈ lq := fun c hc => by rw [h.eq]; exact .tail _ (List.mem_append_right _ hc)
theorem InvH.small {H : HS} {n : Nat} (h : InvH H n) (hn : n ≤ 1000) : H.1.length ≤ 2000 ∧ H.2.length ≤ 1000 ∧ Tr.SmallD H.2 := ⟨by have := h.len; omega, by have := h.tree.len; omega, h.tree.small (by omega)⟩
set_option maxHeartbeats 400000
theorem hnew_any (l : List Chunk) : Fn Tryz.prog 67 [] l fun v l' => ∃ b, v = .pointer (some ⟨b, 0, none⟩) ∧ ∃ lq, IsH b ([], []) lq ∧ l' = lq ++ l := by
  refine fn_of_body Tryz.func67 rfl rfl fun E => ?_
  simp only [argF, Tryz.ntmps67]
  refine gzU ?_
  refine t_e (e_call0 rfl rfl (new_any _)) rfl rfl rfl ?_
  rintro _ _ ⟨bs, rfl, ls, hs, rfl⟩
  refine gzU ?_
  refine t_e (e_call0 rfl rfl (Tr.new_any _)) rfl rfl rfl ?_
  rintro _ _ ⟨bt, rfl, lt, ht, rfl⟩
  refine gzU ?_
  (first | refine t_e (e_box1 rfl rfl) rfl rfl rfl ?_ | refine t_e (e_boxA rfl) rfl rfl rfl ?_); rintro _ _ ⟨b, _, rfl, rfl⟩
  refine gzU ?_
  exact k_ret [] rfl (l' := (hoC b bs bt :: (ls ++ lt)) ++ l) (keep_ac (A := hoC b bs bt :: (lt ++ (ls ++ l))) []) (by exact zRes) ⟨b, rfl, _, ⟨bs, bt, ls, lt, rfl, hs, ht⟩, rfl⟩
theorem hslots_any (b bs bt : Nat) (l : List Chunk) (hm : hoC b bs bt ∈ l) : Fn Tryz.prog 125 [.pointer (some ⟨b, 0, none⟩)] l fun v l' => v = .pointer (some ⟨bs, 0, none⟩) ∧ l' = l := by
  refine fn_of_body Tryz.func125 rfl rfl fun E => ?_
  simp only [argF, Tryz.ntmps125]
  refine gzU ?_
  exact k_ret [] rfl .refl (by exact zRes) ⟨rfl, rfl⟩
theorem haddN_any (b : Nat) (H : HS) (lq : List Chunk) (hq : IsH b H lq) (id n : Int) (G : List Chunk) :
    Fn Tryz.prog 79 [.pointer (some ⟨b, 0, none⟩), .int .i64 id, .int .i64 n] (lq ++ G) fun v l' => v = .int .i64 (addN H.1 id n).1 ∧ ∃ lq', IsH b ((addN H.1 id n).2, H.2) lq' ∧ l' = lq' ++ G := by
  obtain ⟨bs, bt, ls, lt, rfl, hs, ht⟩ := hq
  refine fn_of_body Tryz.func79 rfl rfl fun E => ?_
  simp only [argF, Tryz.ntmps79]
  simp only [List.cons_append, List.append_assoc]
  refine gzU ?_
  refine t_q (q_call rfl rfl fun l2 hl => hslots_any b bs bt l2 (hl _ (.head _))) rfl rfl rfl ?_
  refine gzU ?_
  refine t_e (e_call rfl rfl (Fn.mvP (fun A => hoC b bs bt :: (A ++ (lt ++ G))) (add_any bs H.1 ls hs id n (hoC b bs bt :: (lt ++ G))))) rfl rfl rfl ?_
  rintro _ _ ⟨rfl, ls', hs', rfl⟩
  refine gzU ?_
  exact k_ret [] rfl (l' := (hoC b bs bt :: (ls' ++ lt)) ++ G) (.of_perm (.of_eq (by simp))) (by exact zRes) ⟨rfl, _, ⟨bs, bt, ls', lt, rfl, hs', ht⟩, rfl⟩
theorem hget_any (b : Nat) (H : HS) (lq : List Chunk) (hq : IsH b H lq) (s : slT) (l : List Chunk) (hsub : ∀ c, c ∈ lq → c ∈ l) :
    Fn Tryz.prog 61 [.pointer (some ⟨b, 0, none⟩), .agg (List.toArray (encT s))] l fun v l' => v = .tuple #[.agg (List.toArray (encC (getD' H.1 s).1)), .int .i64 (getD' H.1 s).2] ∧ l' = l := by
  obtain ⟨bs, bt, ls, lt, hb⟩ := hq
  refine fn_of_body Tryz.func61 rfl rfl fun E => ?_
  simp only [argF, Tryz.ntmps61]
  refine gzU ?_
  (first | refine t_e (e_box1 rfl rfl) rfl rfl rfl ?_ | refine t_e (e_boxA rfl) rfl rfl rfl ?_); rintro _ _ ⟨b3, _, rfl, rfl⟩
  refine gzU ?_
  refine t_e e_alloc rfl rfl rfl ?_; rintro _ _ ⟨b4, _, rfl, rfl⟩
  refine gzU ?_
  refine c_draw [(0, true), (1, true), (2, true), (3, true), (4, true), (5, true), (6, false), (7, true)] [[], [0], [], [0, 1, 2], [0, 1, 2, 3], [0, 1, 2, 3], [0, 1, 2, 3, 4, 5], [0, 1, 2, 3, 4, 5, 6]] (slC b3 s :: l) (by kernel_rfl) (by kernel_rfl) zAtt zHR ?_
  refine pzU ?_
  refine pl_h (q_call rfl rfl fun l2 hl => hslots_any b bs bt l2 (hl _ (.tail _ (hsub _ hb.h)))) rfl rfl rfl ?_
  refine pzU ?_
  refine pl_h (q_call rfl rfl fun l2 hl => get_any bs H.1 ls hb.s s l2 fun c hc => hl _ (.tail _ (hsub _ (hb.m1 c hc)))) rfl rfl rfl ?_
  refine pzU ?_
  refine gzU ?_
  exact k_ret2 [] (capC b4 (getD' H.1 s).1 :: slC b3 s :: l) rfl (l' := l) .refl (by exact zRes) (.drop (.drop .refl)) ⟨rfl, rfl⟩
def pairE (D : SD) (a c : slT) : Int := if (getD' D a).2 = 0 then (getD' D c).2 else (getD' D a).2
theorem hpair_any (b : Nat) (H : HS) (lq : List Chunk) (hq : IsH b H lq) (a c : slT) (l : List Chunk) (hsub : ∀ c, c ∈ lq → c ∈ l) :
    Fn Tryz.prog 193 [.pointer (some ⟨b, 0, none⟩), .agg (List.toArray (encT a)), .agg (List.toArray (encT c))] l fun v l' => v = .tuple #[.agg (List.toArray (encC (getD' H.1 a).1)), .agg (List.toArray (encC (getD' H.1 c).1)), .int .i64 (pairE H.1 a c)] ∧ l' = l := by
  refine fn_of_body Tryz.func193 rfl rfl fun E => ?_
  simp only [argF, Tryz.ntmps193]
  refine gzU ?_
  (first | refine t_e (e_box1 rfl rfl) rfl rfl rfl ?_ | refine t_e (e_boxA rfl) rfl rfl rfl ?_); rintro _ _ ⟨b4, _, rfl, rfl⟩
  refine gzU ?_
  (first | refine t_e (e_box1 rfl rfl) rfl rfl rfl ?_ | refine t_e (e_boxA rfl) rfl rfl rfl ?_); rintro _ _ ⟨b5, _, rfl, rfl⟩
  refine gzU ?_
  refine t_e e_alloc rfl rfl rfl ?_; rintro _ _ ⟨b6, _, rfl, rfl⟩
  refine gzU ?_
  refine t_e e_alloc rfl rfl rfl ?_; rintro _ _ ⟨b7, _, rfl, rfl⟩
  refine gzU ?_
  refine t_q (q_call rfl rfl fun l2 hl => hget_any b H lq hq a l2 fun c hc => hl c (.tail _ (.tail _ (.tail _ (.tail _ (hsub c hc)))))) rfl rfl rfl ?_
  refine gzU ?_
  refine t_e e_alloc rfl rfl rfl ?_; rintro _ _ ⟨b9, _, rfl, rfl⟩
  refine gzU ?_
  refine t_q (q_call rfl rfl fun l2 hl => hget_any b H lq hq c l2 fun c hc => hl c (.tail _ (.tail _ (.tail _ (.tail _ (.tail _ (hsub c hc))))))) rfl rfl rfl ?_
  refine gzU ?_
  refine t_e e_alloc rfl rfl rfl ?_; rintro _ _ ⟨b11, _, rfl, rfl⟩
  refine gzU ?_
  unfold pairE
  by_cases h : (getD' H.1 a).2 = 0
  case' pos => rw [if_pos h]
  case' neg => rw [if_neg h]
  all_goals
    refine gzU ?_
    refine c_draw [(0, true), (1, true), (2, true), (3, false), (4, false), (5, true)] [[], [], [], [0], [0, 1, 3], [0, 1, 2, 3, 4]] ([capC b11 (getD' H.1 c).1, capC b9 (getD' H.1 a).1]) (by kernel_rfl) (by kernel_rfl) zAtt zHR ?_
    refine pzU ?_
    refine gzU ?_
    exact k_ret2 [] (capC b7 (getD' H.1 c).1 :: capC b6 (getD' H.1 a).1 :: l) rfl (l' := l) (.drop (.drop (.pick .here (.pick .here (.drop (.drop .refl)))))) (by exact zRes) (.drop (.drop .refl)) ⟨rfl, rfl⟩
theorem hused_any (b : Nat) (H : HS) (lq : List Chunk) (hq : IsH b H lq) (hn : H.1.length ≤ 2000) (l : List Chunk) (hsub : ∀ c, c ∈ lq → c ∈ l) :
    Fn Tryz.prog 48 [.pointer (some ⟨b, 0, none⟩)] l fun v l' => ∃ cs, OwnSl 220 10 v (usedD H.1).length (hcs (usedD H.1)) cs ∧ l' = cs ++ l := by
  obtain ⟨bs, bt, ls, lt, hb⟩ := hq
  refine fn_of_body Tryz.func48 rfl rfl fun E => ?_
  simp only [argF, Tryz.ntmps48]
  refine gzU ?_
  refine t_q (q_call rfl rfl fun l2 hl => hslots_any b bs bt l2 (hl _ (hsub _ hb.h))) rfl rfl rfl ?_
  refine gzU ?_
  refine t_e (e_call0 rfl rfl (all_any bs H.1 ls hb.s (by omega) _ fun c hc => hsub _ (hb.m1 c hc))) rfl rfl rfl ?_
  rintro v _ ⟨cs, ho, rfl⟩
  refine gzU ?_
  refine k_ret [] rfl (l' := cs ++ l) .refl (by exact zRes) ?_
  exact ⟨cs, ho, rfl⟩
theorem htree_any (b : Nat) (H : HS) (lq : List Chunk) (hq : IsH b H lq) (hn : H.2.length ≤ 1000) (l : List Chunk) (hsub : ∀ c, c ∈ lq → c ∈ l) :
    Fn Tryz.prog 49 [.pointer (some ⟨b, 0, none⟩)] l fun v l' => ∃ cs, OwnSl 222 3 v H.2.length (Tr.ncs H.2) cs ∧ l' = cs ++ l := by
  obtain ⟨bs, bt, ls, lt, hb⟩ := hq
  have hm := hsub _ hb.h
  refine fn_of_body Tryz.func49 rfl rfl fun E => ?_
  simp only [argF, Tryz.ntmps49]
  refine gzU ?_
  refine t_e (e_call0 rfl rfl (Tr.all_any bt H.2 lt hb.t (by omega) _ fun c hc => hsub _ (hb.m2 c hc))) rfl rfl rfl ?_
  rintro v _ ⟨cs, ho, rfl⟩
  refine gzU ?_
  refine k_ret [] rfl (l' := cs ++ l) .refl (by exact zRes) ?_
  exact ⟨cs, ho, rfl⟩
theorem get_e {D : SD} {s : slT} : (okD D s = true ∧ getD' D s = (atD D s, 0)) ∨ (okD D s = false ∧ getD' D s = (capZ, 3)) := by
  unfold getD'
  cases okD D s with
  | false => exact .inr ⟨rfl, rfl⟩
  | true => exact .inl ⟨rfl, rfl⟩
theorem get_t {D : SD} {s : slT} (h : okD D s = true) : getD' D s = (atD D s, 0) := by unfold getD'; rw [h]; rfl
theorem get_f {D : SD} {s : slT} (h : okD D s = false) : getD' D s = (capZ, 3) := by unfold getD'; rw [h]; rfl
theorem pair_t {D : SD} {a c : slT} (ha : okD D a = true) (hc : okD D c = true) : pairE D a c = 0 := by unfold pairE; rw [get_t ha, get_t hc]; rfl
theorem pair_f {D : SD} {a c : slT} (h : okD D a = false ∨ okD D c = false) : pairE D a c = 3 := by
  unfold pairE
  rcases h with h | h
  · rw [get_f h]; rfl
  · rw [get_f h]; split
    · rfl
    · rename_i h2
      rcases get_e (D := D) (s := a) with ⟨_, h3⟩ | ⟨_, h3⟩
      · rw [h3] at h2; exact absurd rfl h2
      · rw [h3]
theorem ok_or {D : SD} {a c : slT} (h : ¬ (okD D a = false ∨ okD D c = false)) : okD D a = true ∧ okD D c = true := by
  cases h1 : okD D a <;> cases h2 : okD D c <;> simp_all
theorem hroot_any (b : Nat) (H : HS) (n : Nat) (hI : InvH H n) (lq : List Chunk) (hq : IsH b H lq) (s : slT) (c : CapT) (G : List Chunk) :
    Fn Tryz.prog 84 [.pointer (some ⟨b, 0, none⟩), .agg (List.toArray (encT s)), .agg (List.toArray (encC c))] (lq ++ G) fun v l' => v = .int .i64 (rootH H s c).1 ∧ ∃ lq', IsH b (rootH H s c).2 lq' ∧ l' = lq' ++ G := by
  have hq0 := hq
  refine fn_of_body Tryz.func84 rfl rfl fun E => ?_
  simp only [argF, Tryz.ntmps84]
  refine gzU ?_
  (first | refine t_e (e_box1 rfl rfl) rfl rfl rfl ?_ | refine t_e (e_boxA rfl) rfl rfl rfl ?_); rintro _ _ ⟨b4, _, rfl, rfl⟩
  refine gzU ?_
  (first | refine t_e (e_box1 rfl rfl) rfl rfl rfl ?_ | refine t_e (e_boxA rfl) rfl rfl rfl ?_); rintro _ _ ⟨b5, _, rfl, rfl⟩
  refine gzU ?_
  refine t_q (q_call rfl rfl fun l2 hl => hget_any b H lq hq s l2 fun c hc => hl c (.tail _ (.tail _ (List.mem_append_left _ hc)))) rfl rfl rfl ?_
  have hret : ∀ (d : CapT) (B : Nat), Keep (capC B d :: capC b5 c :: slC b4 s :: (lq ++ G)) (lq ++ G) := fun _ _ => .drop (.drop (.drop .refl))
  cases hok : okD H.1 s with
  | false =>
    rw [get_f hok, show rootH H s c = (3, H) by unfold rootH; rw [if_pos hok]]
    refine gzU ?_
    refine t_e e_alloc rfl rfl rfl ?_; rintro _ _ ⟨b7, _, rfl, rfl⟩
    refine gzU ?_
    exact k_ret [] rfl (hret _ _) (by exact zRes) ⟨rfl, _, hq0, rfl⟩
  | true =>
  rw [get_t hok]
  have e0 : rootH H s c = if someC c = false then (5, H) else if (atD H.1 s).kind ≠ 0 then (11, H) else (0, (putD H.1 s c, (Tr.rootD H.2 s).2)) := by unfold rootH; rw [if_neg (by rw [hok]; decide)]
  rw [e0]
  refine gzU ?_
  refine t_e e_alloc rfl rfl rfl ?_; rintro _ _ ⟨b7, _, rfl, rfl⟩
  refine gzU ?_
  refine t_q (q_call rfl rfl fun l2 hl => mayC_any c l2) rfl rfl rfl ?_
  cases hm : mayC c with
  | false =>
    rw [if_pos (by unfold someC; rw [hm]; rfl)]
    refine gzU ?_
    exact k_ret [] rfl (hret _ _) (by exact zRes) ⟨rfl, _, hq0, rfl⟩
  | true =>
  by_cases hk : c.kind = 0
  · rw [if_pos (by unfold someC; rw [decide_eq_true hk, hm]; rfl)]
    refine gzU ?_
    exact k_ret [] rfl (hret _ _) (by exact zRes) ⟨rfl, _, hq0, rfl⟩
  rw [if_neg (by unfold someC; rw [decide_eq_false hk, hm]; decide)]
  by_cases hw : (atD H.1 s).kind ≠ 0
  · rw [if_pos hw]
    refine gzU ?_
    exact k_ret [] rfl (hret _ _) (by exact zRes) ⟨rfl, _, hq0, rfl⟩
  rw [if_neg hw]
  obtain ⟨bs, bt, ls, lt, rfl, hs, ht⟩ := hq
  have hr0 := (has_root (t := s) (hI.no (by simpa using hw))).1
  have H1 := Fn.mvP (fun A => capC b7 (atD H.1 s) :: capC b5 c :: slC b4 s :: hoC b bs bt :: (A ++ (lt ++ G))) (set_any bs H.1 ls hs s c (capC b7 (atD H.1 s) :: capC b5 c :: slC b4 s :: hoC b bs bt :: (lt ++ G)))
  have H2 := fun ls => Fn.mvP (fun A => capC b7 (atD H.1 s) :: capC b5 c :: slC b4 s :: hoC b bs bt :: (ls ++ (A ++ G))) (Tr.root_any bt H.2 lt ht s (capC b7 (atD H.1 s) :: capC b5 c :: slC b4 s :: hoC b bs bt :: (ls ++ G)))
  rw [set_ok hok hm] at H1
  rw [hr0] at H2
  simp only [List.cons_append, List.append_assoc]
  refine gzU ?_
  refine c_draw [(0, true), (1, true), (2, true), (3, true), (4, true), (5, true), (6, false)] [[], [0], [0, 1], [0, 1, 2], [], [], [0, 1, 2, 3, 4, 5]] ([capC b5 c, slC b4 s, hoC b bs bt]) (by kernel_rfl) (by kernel_rfl) zAtt zHR ?_
  refine pzU ?_
  apply pl_e
  · exact e_call rfl rfl H1
  · rfl
  · rfl
  · rfl
  · rintro _ _ ⟨_, ls', _, rfl⟩
    exact zHR
  rintro _ _ ⟨rfl, ls', hs', rfl⟩
  refine pzU ?_
  refine gzU ?_
  refine c_draw [(0, true), (1, true), (2, true), (3, true), (4, true), (5, false), (6, true)] [[], [0], [0, 1], [0, 1, 2], [], [0, 1, 2, 3, 4], [0, 1, 2, 3, 4, 5]] ([slC b4 s, hoC b bs bt]) (by kernel_rfl) (by kernel_rfl) zAtt zHR ?_
  refine pzU ?_
  apply pl_e
  · exact e_call rfl rfl (H2 ls')
  · rfl
  · rfl
  · rfl
  · rintro _ _ ⟨_, lt', _, rfl⟩
    exact zHR
  rintro _ _ ⟨rfl, lt', ht', rfl⟩
  refine pzU ?_
  refine gzU ?_
  exact k_ret [] rfl (l' := (hoC b bs bt :: (ls' ++ lt')) ++ G) (.drop (.drop (.drop (.of_perm (.of_eq (by simp)))))) (by exact zRes) ⟨rfl, _, ⟨bs, bt, ls', lt', rfl, hs', ht'⟩, rfl⟩
theorem hchild_any (b : Nat) (H : HS) (n : Nat) (hI : InvH H n) (hn : n ≤ 1000) (lq : List Chunk) (hq : IsH b H lq) (p s : slT) (c : CapT) (G : List Chunk) :
    Fn Tryz.prog 194 [.pointer (some ⟨b, 0, none⟩), .agg (List.toArray (encT p)), .agg (List.toArray (encT s)), .agg (List.toArray (encC c))] (lq ++ G) fun v l' => v = .int .i64 (childH H p s c).1 ∧ ∃ lq', IsH b (childH H p s c).2 lq' ∧ l' = lq' ++ G := by
  have hq0 := hq
  refine fn_of_body Tryz.func194 rfl rfl fun E => ?_
  simp only [argF, Tryz.ntmps194]
  refine gzU ?_
  (first | refine t_e (e_box1 rfl rfl) rfl rfl rfl ?_ | refine t_e (e_boxA rfl) rfl rfl rfl ?_); rintro _ _ ⟨b5, _, rfl, rfl⟩
  refine gzU ?_
  (first | refine t_e (e_box1 rfl rfl) rfl rfl rfl ?_ | refine t_e (e_boxA rfl) rfl rfl rfl ?_); rintro _ _ ⟨b6, _, rfl, rfl⟩
  refine gzU ?_
  (first | refine t_e (e_box1 rfl rfl) rfl rfl rfl ?_ | refine t_e (e_boxA rfl) rfl rfl rfl ?_); rintro _ _ ⟨b7, _, rfl, rfl⟩
  refine gzU ?_
  refine t_q (q_call rfl rfl fun l2 hl => hpair_any b H lq hq p s l2 fun c hc => hl c (.tail _ (.tail _ (.tail _ (List.mem_append_left _ hc))))) rfl rfl rfl ?_
  have hret : ∀ (d e : CapT) (B C : Nat), Keep (capC B d :: capC C e :: capC b7 c :: slC b6 s :: slC b5 p :: (lq ++ G)) (lq ++ G) := fun _ _ _ _ => .drop (.drop (.drop (.drop (.drop .refl))))
  by_cases hok : okD H.1 p = false ∨ okD H.1 s = false
  · rw [pair_f hok, show childH H p s c = (3, H) by unfold childH; rw [if_pos hok]]
    refine gzU ?_
    refine t_e e_alloc rfl rfl rfl ?_; rintro _ _ ⟨b9, _, rfl, rfl⟩
    refine t_e e_alloc rfl rfl rfl ?_; rintro _ _ ⟨b10, _, rfl, rfl⟩
    refine gzU ?_
    exact k_ret [] rfl (hret _ _ _ _) (by exact zRes) ⟨rfl, _, hq0, rfl⟩
  obtain ⟨okp, oks⟩ := ok_or hok
  rw [pair_t okp oks, get_t okp, get_t oks]
  have e0 : childH H p s c = if someC c = false then (5, H) else if (atD H.1 p).kind = 0 then (10, H) else if (atD H.1 s).kind ≠ 0 then (11, H) else (0, (putD H.1 s c, (Tr.childD H.2 p s).2)) := by unfold childH; rw [if_neg hok]
  rw [e0]
  refine gzU ?_
  refine t_e e_alloc rfl rfl rfl ?_; rintro _ _ ⟨b9, _, rfl, rfl⟩
  refine t_e e_alloc rfl rfl rfl ?_; rintro _ _ ⟨b10, _, rfl, rfl⟩
  refine gzU ?_
  refine t_q (q_call rfl rfl fun l2 hl => mayC_any c l2) rfl rfl rfl ?_
  cases hm : mayC c with
  | false =>
    rw [if_pos (by unfold someC; rw [hm]; rfl)]
    refine gzU ?_
    exact k_ret [] rfl (hret _ _ _ _) (by exact zRes) ⟨rfl, _, hq0, rfl⟩
  | true =>
  by_cases hk : c.kind = 0
  · rw [if_pos (by unfold someC; rw [decide_eq_true hk, hm]; rfl)]
    refine gzU ?_
    exact k_ret [] rfl (hret _ _ _ _) (by exact zRes) ⟨rfl, _, hq0, rfl⟩
  rw [if_neg (by unfold someC; rw [decide_eq_false hk, hm]; decide)]
  by_cases hp : (atD H.1 p).kind = 0
  · rw [if_pos hp]
    refine gzU ?_
    exact k_ret [] rfl (hret _ _ _ _) (by exact zRes) ⟨rfl, _, hq0, rfl⟩
  rw [if_neg hp]
  by_cases hw : (atD H.1 s).kind ≠ 0
  · rw [if_pos hw]
    refine gzU ?_
    exact k_ret [] rfl (hret _ _ _ _) (by exact zRes) ⟨rfl, _, hq0, rfl⟩
  rw [if_neg hw]
  obtain ⟨bs, bt, ls, lt, rfl, hs, ht⟩ := hq
  have hr0 := (has_child (t := s) ((hI.link p).2 ⟨okp, hp⟩) (hI.no (by simpa using hw))).1
  obtain ⟨X, hX⟩ : ∃ X, X = [capC b10 (atD H.1 s), capC b9 (atD H.1 p), capC b7 c, slC b6 s, slC b5 p, hoC b bs bt] := ⟨_, rfl⟩
  have H1 := Fn.mvP (fun A => X ++ (A ++ (lt ++ G))) (set_any bs H.1 ls hs s c (X ++ (lt ++ G)))
  have H2 := fun ls => Fn.mvP (fun A => X ++ (ls ++ (A ++ G))) (Tr.child_any bt H.2 lt ht (hI.small hn).2.2 p s (X ++ (ls ++ G)))
  rw [set_ok oks hm] at H1
  rw [hr0] at H2
  rw [hX] at H1 H2
  simp only [List.cons_append, List.append_assoc, List.nil_append] at H1 H2 ⊢
  refine gzU ?_
  refine c_draw [(0, true), (1, true), (2, true), (3, true), (4, true), (5, true), (6, false)] [[], [0], [0, 1], [0, 1, 2], [], [], [0, 1, 2, 3, 4, 5]] ([capC b7 c, slC b6 s, hoC b bs bt]) (by kernel_rfl) (by kernel_rfl) zAtt zHR ?_
  refine pzU ?_
  apply pl_e
  · exact e_call rfl rfl H1
  · rfl
  · rfl
  · rfl
  · rintro _ _ ⟨_, ls', _, rfl⟩
    exact zHR
  rintro _ _ ⟨rfl, ls', hs', rfl⟩
  refine pzU ?_
  refine gzU ?_
  refine c_draw [(0, true), (1, true), (2, true), (3, true), (4, true), (5, true), (6, false), (7, true)] [[], [0], [0, 1], [0, 1, 2], [], [], [0, 1, 2, 3, 4, 5], [0, 1, 2, 3, 4, 5, 6]] ([slC b6 s, slC b5 p, hoC b bs bt]) (by kernel_rfl) (by kernel_rfl) zAtt zHR ?_
  refine pzU ?_
  apply pl_e
  · exact e_call rfl rfl (H2 ls')
  · rfl
  · rfl
  · rfl
  · rintro _ _ ⟨_, lt', _, rfl⟩
    exact zHR
  rintro _ _ ⟨rfl, lt', ht', rfl⟩
  refine pzU ?_
  refine gzU ?_
  exact k_ret [] rfl (l' := (hoC b bs bt :: (ls' ++ lt')) ++ G) (.drop (.drop (.drop (.drop (.drop (.of_perm (.of_eq (by simp)))))))) (by exact zRes) ⟨rfl, _, ⟨bs, bt, ls', lt', rfl, hs', ht'⟩, rfl⟩
theorem hderived_any (b : Nat) (H : HS) (n : Nat) (hI : InvH H n) (hn : n ≤ 1000) (lq : List Chunk) (hq : IsH b H lq) (a c : slT) (gf : Nat) [EN Tryz.prog gf] (cs : List Value) (r : CapT → CapT × Int) (hr : ∀ d, CapW d → CapW (r d).1) (X : List Chunk)
    (hf : ∀ d l2, CapW d → (∀ x, x ∈ X → x ∈ l2) → Fn Tryz.prog gf ([.agg (List.toArray (encC d))] ++ cs) l2 fun v l' => v = .tuple #[.agg (List.toArray (encC (r d).1)), .int .i64 (r d).2] ∧ l' = l2) (G : List Chunk) (hX : ∀ x, x ∈ X → x ∈ G) :
    Fn Tryz.prog 147 [.pointer (some ⟨b, 0, none⟩), .agg (List.toArray (encT a)), .agg (List.toArray (encT c)), .func (.func gf) #[] (List.toArray cs)] (lq ++ G) fun v l' => v = .int .i64 (derH H a c (r (atD H.1 a))).1 ∧ ∃ lq', IsH b (derH H a c (r (atD H.1 a))).2 lq' ∧ l' = lq' ++ G := by
  refine fn_of_body Tryz.func147 rfl rfl fun E => ?_
  simp only [argF, Tryz.ntmps147]
  refine gzU ?_
  (first | refine t_e (e_box1 rfl rfl) rfl rfl rfl ?_ | refine t_e (e_boxA rfl) rfl rfl rfl ?_); rintro _ _ ⟨b5, _, rfl, rfl⟩
  refine gzU ?_
  (first | refine t_e (e_box1 rfl rfl) rfl rfl rfl ?_ | refine t_e (e_boxA rfl) rfl rfl rfl ?_); rintro _ _ ⟨b6, _, rfl, rfl⟩
  refine gzU ?_
  refine t_q (q_call rfl rfl fun l2 hl => hpair_any b H lq hq a c l2 fun c hc => hl c (.tail _ (.tail _ (List.mem_append_left _ hc)))) rfl rfl rfl ?_
  have hret : ∀ (d e : CapT) (B C : Nat), Keep (capC B d :: capC C e :: slC b6 c :: slC b5 a :: (lq ++ G)) (lq ++ G) := fun _ _ _ _ => .drop (.drop (.drop (.drop .refl)))
  by_cases hok : okD H.1 a = false ∨ okD H.1 c = false
  · rw [pair_f hok]
    have e1 : fromE H a c = 3 := by unfold fromE; rw [if_pos hok]
    rw [show derH H a c (r (atD H.1 a)) = (3, H) by unfold derH; rw [if_pos (by rw [e1]; decide), e1]]
    refine gzU ?_
    refine t_e e_alloc rfl rfl rfl ?_; rintro _ _ ⟨b9, _, rfl, rfl⟩
    refine t_e e_alloc rfl rfl rfl ?_; rintro _ _ ⟨b10, _, rfl, rfl⟩
    refine gzU ?_
    exact k_ret [] rfl (hret _ _ _ _) (by exact zRes) ⟨rfl, _, hq, rfl⟩
  obtain ⟨oka, okc⟩ := ok_or hok
  rw [pair_t oka okc, get_t oka, get_t okc]
  refine gzU ?_
  refine t_e e_alloc rfl rfl rfl ?_; rintro _ _ ⟨b9, _, rfl, rfl⟩
  refine t_e e_alloc rfl rfl rfl ?_; rintro _ _ ⟨b10, _, rfl, rfl⟩
  refine gzU ?_
  by_cases hp : (atD H.1 a).kind = 0
  · have e1 : fromE H a c = 10 := by unfold fromE; rw [if_neg hok, if_pos hp]
    rw [show derH H a c (r (atD H.1 a)) = (10, H) by unfold derH; rw [if_pos (by rw [e1]; decide), e1]]
    refine gzU ?_
    exact k_ret [] rfl (hret _ _ _ _) (by exact zRes) ⟨rfl, _, hq, rfl⟩
  by_cases hw : (atD H.1 c).kind ≠ 0
  · have e1 : fromE H a c = 11 := by unfold fromE; rw [if_neg hok, if_neg hp, if_pos hw]
    rw [show derH H a c (r (atD H.1 a)) = (11, H) by unfold derH; rw [if_pos (by rw [e1]; decide), e1]]
    refine gzU ?_
    exact k_ret [] rfl (hret _ _ _ _) (by exact zRes) ⟨rfl, _, hq, rfl⟩
  have e1 : fromE H a c = 0 := by unfold fromE; rw [if_neg hok, if_neg hp, if_neg hw]
  have hwa := (hI.at a).2
  have hwr := hr _ hwa
  refine gzU ?_
  refine t_q (q_callC rfl rfl fun l2 hl => by simpa using hf (atD H.1 a) l2 hwa fun x hx => hl x (.tail _ (.tail _ (.tail _ (.tail _ (List.mem_append_right _ (hX x hx))))))) rfl rfl rfl ?_
  by_cases he : (r (atD H.1 a)).2 ≠ 0
  · rw [show derH H a c (r (atD H.1 a)) = ((r (atD H.1 a)).2, H) by unfold derH; rw [if_neg (by rw [e1]; decide), if_pos he]]
    refine gzU ?_
    refine t_e e_alloc rfl rfl rfl ?_; rintro _ _ ⟨b12, _, rfl, rfl⟩
    refine gzU ?_
    exact k_ret [] rfl (.drop (hret _ _ _ _)) (by exact zRes) ⟨rfl, _, hq, rfl⟩
  have he0 : (r (atD H.1 a)).2 = 0 := by simpa using he
  rw [show derH H a c (r (atD H.1 a)) = childH H a c (r (atD H.1 a)).1 by unfold derH; rw [if_neg (by rw [e1]; decide), if_neg he]]
  rw [he0]
  refine gzU ?_
  refine t_e e_alloc rfl rfl rfl ?_; rintro _ _ ⟨b12, _, rfl, rfl⟩
  refine gzU ?_
  refine t_e (e_call rfl rfl (Fn.mvP (fun A => capC b12 (r (atD H.1 a)).1 :: capC b10 (atD H.1 c) :: capC b9 (atD H.1 a) :: slC b6 c :: slC b5 a :: (A ++ G)) (hchild_any b H n hI hn lq hq a c (r (atD H.1 a)).1 (capC b12 (r (atD H.1 a)).1 :: capC b10 (atD H.1 c) :: capC b9 (atD H.1 a) :: slC b6 c :: slC b5 a :: G)))) rfl rfl rfl ?_
  rintro _ _ ⟨rfl, lq', hq', rfl⟩
  refine gzU ?_
  exact k_ret [] rfl (l' := lq' ++ G) (.drop (.drop (.drop (.drop (.drop .refl))))) (by exact zRes) ⟨rfl, _, hq', rfl⟩
theorem hcopy1_any (c : CapT) (hw : CapW c) (b1 : Nat) (mask : Int) (l : List Chunk) (hm : inC b1 mask ∈ l) :
    Fn Tryz.prog 148 ([.agg (List.toArray (encC c))] ++ [.pointer (some ⟨b1, 0, none⟩)]) l fun v l' => v = .tuple #[.agg (List.toArray (encC (copyC c mask).1)), .int .i64 (copyC c mask).2] ∧ l' = l := by
  rw [show [Value.agg (List.toArray (encC c))] ++ [.pointer (some ⟨b1, 0, none⟩)] = [.agg (List.toArray (encC c)), .pointer (some ⟨b1, 0, none⟩)] from rfl]
  refine fn_of_body Tryz.func148 rfl rfl fun E => ?_
  simp only [argF, Tryz.ntmps148]
  refine gzU ?_
  (first | refine t_e (e_box1 rfl rfl) rfl rfl rfl ?_ | refine t_e (e_boxA rfl) rfl rfl rfl ?_); rintro _ _ ⟨b2, _, rfl, rfl⟩
  have hm2 : inC b1 mask ∈ capC b2 c :: l := .tail _ hm
  refine gzU ?_
  refine t_e e_alloc rfl rfl rfl ?_; rintro _ _ ⟨b3, _, rfl, rfl⟩
  have hm3 : inC b1 mask ∈ capC b3 capZ :: capC b2 c :: l := .tail _ (.tail _ hm)
  refine gzU ?_
  refine t_q (q_call rfl rfl fun l2 hl => copyderive_any c hw mask l2) rfl rfl rfl ?_
  refine gzU ?_
  exact k_ret2 [] (capC b3 (copyC c mask).1 :: capC b2 c :: l) rfl (l' := l) .refl (by exact zRes) (.drop (.drop .refl)) ⟨rfl, rfl⟩
theorem hmint1_any (c : CapT) (hw : CapW c) (b1 b2 : Nat) (mask : Int) (data : Nat) (hd : data < 18446744073709551616) (l : List Chunk) (hm : inC b1 mask ∈ l) (hm' : u64C b2 data ∈ l) :
    Fn Tryz.prog 153 ([.agg (List.toArray (encC c))] ++ [.pointer (some ⟨b1, 0, none⟩), .pointer (some ⟨b2, 0, none⟩)]) l fun v l' => v = .tuple #[.agg (List.toArray (encC (mintC c mask data).1)), .int .i64 (mintC c mask data).2] ∧ l' = l := by
  rw [show [Value.agg (List.toArray (encC c))] ++ [.pointer (some ⟨b1, 0, none⟩), .pointer (some ⟨b2, 0, none⟩)] = [.agg (List.toArray (encC c)), .pointer (some ⟨b1, 0, none⟩), .pointer (some ⟨b2, 0, none⟩)] from rfl]
  refine fn_of_body Tryz.func153 rfl rfl fun E => ?_
  simp only [argF, Tryz.ntmps153]
  refine gzU ?_
  (first | refine t_e (e_box1 rfl rfl) rfl rfl rfl ?_ | refine t_e (e_boxA rfl) rfl rfl rfl ?_); rintro _ _ ⟨b3, _, rfl, rfl⟩
  refine gzU ?_
  refine t_e e_alloc rfl rfl rfl ?_; rintro _ _ ⟨b4, _, rfl, rfl⟩
  have hm3 : inC b1 mask ∈ capC b4 capZ :: capC b3 c :: l := .tail _ (.tail _ hm)
  have hm4 : u64C b2 data ∈ capC b4 capZ :: capC b3 c :: l := .tail _ (.tail _ hm')
  refine gzU ?_
  refine t_q (q_call rfl rfl fun l2 hl => mint_any c hw mask data hd l2) rfl rfl rfl ?_
  refine gzU ?_
  exact k_ret2 [] (capC b4 (mintC c mask data).1 :: capC b3 c :: l) rfl (l' := l) .refl (by exact zRes) (.drop (.drop .refl)) ⟨rfl, rfl⟩
theorem hcopy_any (b : Nat) (H : HS) (n : Nat) (hI : InvH H n) (hn : n ≤ 1000) (lq : List Chunk) (hq : IsH b H lq) (a c : slT) (mask : Int) (G : List Chunk) :
    Fn Tryz.prog 85 [.pointer (some ⟨b, 0, none⟩), .agg (List.toArray (encT a)), .agg (List.toArray (encT c)), .int .i64 mask] (lq ++ G) fun v l' => v = .int .i64 (derH H a c (copyC (atD H.1 a) mask)).1 ∧ ∃ lq', IsH b (derH H a c (copyC (atD H.1 a) mask)).2 lq' ∧ l' = lq' ++ G := by
  refine fn_of_body Tryz.func85 rfl rfl fun E => ?_
  simp only [argF, Tryz.ntmps85]
  refine gzU ?_
  (first | refine t_e (e_box1 rfl rfl) rfl rfl rfl ?_ | refine t_e (e_boxA rfl) rfl rfl rfl ?_); rintro _ _ ⟨b5, _, rfl, rfl⟩
  refine gzU ?_
  (first | refine t_e (e_box1 rfl rfl) rfl rfl rfl ?_ | refine t_e (e_boxA rfl) rfl rfl rfl ?_); rintro _ _ ⟨b6, _, rfl, rfl⟩
  refine gzU ?_
  (first | refine t_e (e_box1 rfl rfl) rfl rfl rfl ?_ | refine t_e (e_boxA rfl) rfl rfl rfl ?_); rintro _ _ ⟨b7, _, rfl, rfl⟩
  refine gzU ?_
  refine t_e (e_call (vs := [.pointer (some ⟨b, 0, none⟩), .agg (List.toArray (encT a)), .agg (List.toArray (encT c)), .func (.func 148) #[] (List.toArray [.pointer (some ⟨b7, 0, none⟩)])]) rfl rfl (Fn.mvP (fun A => inC b7 mask :: slC b6 c :: slC b5 a :: (A ++ G)) (hderived_any b H n hI hn lq hq a c 148 [.pointer (some ⟨b7, 0, none⟩)] (fun d => copyC d mask) (fun d h => copy_w h mask) [inC b7 mask] (fun d l2 hd hx => hcopy1_any d hd b7 mask l2 (hx _ (.head _))) (inC b7 mask :: slC b6 c :: slC b5 a :: G) (sing_mem (.head _))))) rfl rfl rfl ?_
  rintro _ _ ⟨rfl, lq', hq', rfl⟩
  refine gzU ?_
  exact k_ret [] rfl (l' := lq' ++ G) (.drop (.drop (.drop .refl))) (by exact zRes) ⟨rfl, _, hq', rfl⟩
theorem hmint_any (b : Nat) (H : HS) (n : Nat) (hI : InvH H n) (hn : n ≤ 1000) (lq : List Chunk) (hq : IsH b H lq) (a c : slT) (mask : Int) (data : Nat) (hd : data < 18446744073709551616) (G : List Chunk) :
    Fn Tryz.prog 89 [.pointer (some ⟨b, 0, none⟩), .agg (List.toArray (encT a)), .agg (List.toArray (encT c)), .int .i64 mask, .int .u64 (data : Nat)] (lq ++ G) fun v l' => v = .int .i64 (derH H a c (mintC (atD H.1 a) mask data)).1 ∧ ∃ lq', IsH b (derH H a c (mintC (atD H.1 a) mask data)).2 lq' ∧ l' = lq' ++ G := by
  refine fn_of_body Tryz.func89 rfl rfl fun E => ?_
  simp only [argF, Tryz.ntmps89]
  refine gzU ?_
  (first | refine t_e (e_box1 rfl rfl) rfl rfl rfl ?_ | refine t_e (e_boxA rfl) rfl rfl rfl ?_); rintro _ _ ⟨b5, _, rfl, rfl⟩
  refine gzU ?_
  (first | refine t_e (e_box1 rfl rfl) rfl rfl rfl ?_ | refine t_e (e_boxA rfl) rfl rfl rfl ?_); rintro _ _ ⟨b6, _, rfl, rfl⟩
  refine gzU ?_
  (first | refine t_e (e_box1 rfl rfl) rfl rfl rfl ?_ | refine t_e (e_boxA rfl) rfl rfl rfl ?_); rintro _ _ ⟨b7, _, rfl, rfl⟩
  refine gzU ?_
  (first | refine t_e (e_box1 rfl rfl) rfl rfl rfl ?_ | refine t_e (e_boxA rfl) rfl rfl rfl ?_); rintro _ _ ⟨b8, _, rfl, rfl⟩
  refine gzU ?_
  refine t_e (e_call (vs := [.pointer (some ⟨b, 0, none⟩), .agg (List.toArray (encT a)), .agg (List.toArray (encT c)), .func (.func 153) #[] (List.toArray [.pointer (some ⟨b7, 0, none⟩), .pointer (some ⟨b8, 0, none⟩)])]) rfl rfl (Fn.mvP (fun A => u64C b8 data :: inC b7 mask :: slC b6 c :: slC b5 a :: (A ++ G)) (hderived_any b H n hI hn lq hq a c 153 [.pointer (some ⟨b7, 0, none⟩), .pointer (some ⟨b8, 0, none⟩)] (fun d => mintC d mask data) (fun d h => mint_w h mask data) [inC b7 mask, u64C b8 data] (fun d l2 hd2 hx => hmint1_any d hd2 b7 b8 mask data hd l2 (hx _ (.head _)) (hx _ (.tail _ (.head _)))) (u64C b8 data :: inC b7 mask :: slC b6 c :: slC b5 a :: G) (fun x hx => by
    rcases List.mem_cons.1 hx with rfl | hx
    · exact .tail _ (.head _)
    · rw [List.mem_singleton.1 hx]; exact .head _)))) rfl rfl rfl ?_
  rintro _ _ ⟨rfl, lq', hq', rfl⟩
  refine gzU ?_
  exact k_ret [] rfl (l' := lq' ++ G) (.drop (.drop (.drop (.drop .refl)))) (by exact zRes) ⟨rfl, _, hq', rfl⟩
theorem robj_any (x : Int) (l : List Chunk) : Fn Tryz.prog 203 [.int .i64 x] l fun v l' => v = .bool (inObj x) ∧ l' = l := by
  unfold inObj
  refine fn_of_body Tryz.func203 rfl rfl fun E => ?_
  simp only [argF, Tryz.ntmps203]
  by_cases h : 1 ≤ x
  · rw [decide_eq_true h, Bool.true_and]
    refine gzU ?_
    exact k_ret [] rfl .refl (by exact zRes) ⟨rfl, rfl⟩
  · rw [decide_eq_false h, Bool.false_and]
    refine gzU ?_
    exact k_ret [] rfl .refl (by exact zRes) ⟨rfl, rfl⟩
theorem power_any (n : Int) (h0 : 0 ≤ n) (h12 : n ≤ 12) (l : List Chunk) : Fn Tryz.prog 204 [.int .i64 n] l fun v l' => v = .int .i64 (powI n) ∧ l' = l := by
  obtain ⟨m, rfl⟩ : ∃ m : Nat, n = (m : Nat) := ⟨n.toNat, by omega⟩
  unfold powI
  rw [Int.toNat_natCast]
  refine fn_of_body Tryz.func204 rfl rfl fun E => ?_
  simp only [argF, Tryz.ntmps204]
  refine gzU ?_
  refine k_loop (α := Nat) (fun k => [(0, .int .i64 (m : Nat)), (3, .int .i64 (2 ^ k)), (4, .int .i64 k)]) (fun _ => l) (fun k => k ≤ m) (fun k => m - k) 0 (Nat.zero_le _) ⟨rfl, rfl, rfl, trivial⟩ .refl ?_
  intro k hk
  by_cases hlt : k < m
  · have hp : (2 : Int) ^ k ≤ 4096 ∧ 0 < (2 : Int) ^ k := by
      have h1 : (2 : Nat) ^ k ≤ 2 ^ 12 := Nat.pow_le_pow_right (by omega) (by omega)
      have h2 : 0 < (2 : Nat) ^ k := Nat.pow_pos (by omega)
      have h3 : ((2 ^ k : Nat) : Int) = (2 : Int) ^ k := by simp
      rw [← h3]; omega
    refine gzU ?_
    refine k_next (k + 1) (by omega) (by omega) ⟨rfl, by rw [Int.pow_succ]; rfl, rfl, trivial⟩ .refl
  · obtain rfl : k = m := by omega
    refine gzU ?_
    exact k_ret [] rfl .refl (by exact zRes) ⟨rfl, rfl⟩
set_option maxRecDepth 20000 in
theorem rmay_any (c : CapT) (l : List Chunk) : Fn Tryz.prog 164 [.agg (List.toArray (encC c))] l fun v l' => v = .bool (rmayB c) ∧ l' = l := by
  refine fn_of_body Tryz.func164 rfl rfl fun E => ?_
  simp only [argF, Tryz.ntmps164]
  refine gzU ?_
  (first | refine t_e (e_box1 rfl rfl) rfl rfl rfl ?_ | refine t_e (e_boxA rfl) rfl rfl rfl ?_); rintro _ _ ⟨b1, _, rfl, rfl⟩
  refine gzU ?_
  refine t_e e_alloc rfl rfl rfl ?_; rintro _ _ ⟨b3, _, rfl, rfl⟩
  iterate 10 refine gzSU ?_
  by_cases h0 : c.kind = 0 ∨ c.kind = 7
  · have e : rmayB c = eqC c (only0 c) := by unfold rmayB; rw [if_pos h0]
    rw [e]
    rcases h0 with h0 | h0
    · refine gzU ?_
      refine t_q (q_eqagg (ys := encC (only0 c)) rfl rfl (encC_k c) (encC_k _)) rfl rfl rfl ?_
      refine gzU ?_
      exact k_ret [] rfl (.drop (.drop .refl)) (by exact zRes) ⟨rfl, rfl⟩
    · refine gzU ?_
      refine t_q (q_eqagg (ys := encC (only0 c)) rfl rfl (encC_k c) (encC_k _)) rfl rfl rfl ?_
      refine gzU ?_
      exact k_ret [] rfl (.drop (.drop .refl)) (by exact zRes) ⟨rfl, rfl⟩
  by_cases h1 : c.kind = 1 ∨ c.kind = 4 ∨ c.kind = 5 ∨ c.kind = 6 ∨ c.kind = 9
  · have e : rmayB c = (inObj c.obj && eqC c (only1 c)) := by unfold rmayB; rw [if_neg h0, if_pos h1]
    rw [e]
    rcases h1 with h1 | h1 | h1 | h1 | h1
    · skip
      refine gzU ?_
      refine t_q (q_call rfl rfl fun l2 _ => robj_any c.obj l2) rfl rfl rfl ?_
      cases ko : inObj c.obj with
      | false =>
        rw [Bool.false_and]
        refine gzU ?_
        exact k_ret [] rfl (.drop (.drop .refl)) (by exact zRes) ⟨rfl, rfl⟩
      | true =>
        rw [Bool.true_and]
        refine gzU ?_
        refine t_h (q_eqagg (ys := encC (only1 c)) rfl rfl (encC_k c) (encC_k _)) rfl rfl rfl ?_
        rw [show eqCells (encC c) (encC (only1 c)) = eqC c (only1 c) from rfl]
        refine gzU ?_
        exact k_ret [] rfl (.drop (.drop .refl)) (by exact zRes) ⟨rfl, rfl⟩
    · skip
      refine gzU ?_
      refine t_q (q_call rfl rfl fun l2 _ => robj_any c.obj l2) rfl rfl rfl ?_
      cases ko : inObj c.obj with
      | false =>
        rw [Bool.false_and]
        refine gzU ?_
        exact k_ret [] rfl (.drop (.drop .refl)) (by exact zRes) ⟨rfl, rfl⟩
      | true =>
        rw [Bool.true_and]
        refine gzU ?_
        refine t_h (q_eqagg (ys := encC (only1 c)) rfl rfl (encC_k c) (encC_k _)) rfl rfl rfl ?_
        rw [show eqCells (encC c) (encC (only1 c)) = eqC c (only1 c) from rfl]
        refine gzU ?_
        exact k_ret [] rfl (.drop (.drop .refl)) (by exact zRes) ⟨rfl, rfl⟩
    · skip
      refine gzU ?_
      refine t_q (q_call rfl rfl fun l2 _ => robj_any c.obj l2) rfl rfl rfl ?_
      cases ko : inObj c.obj with
      | false =>
        rw [Bool.false_and]
        refine gzU ?_
        exact k_ret [] rfl (.drop (.drop .refl)) (by exact zRes) ⟨rfl, rfl⟩
      | true =>
        rw [Bool.true_and]
        refine gzU ?_
        refine t_h (q_eqagg (ys := encC (only1 c)) rfl rfl (encC_k c) (encC_k _)) rfl rfl rfl ?_
        rw [show eqCells (encC c) (encC (only1 c)) = eqC c (only1 c) from rfl]
        refine gzU ?_
        exact k_ret [] rfl (.drop (.drop .refl)) (by exact zRes) ⟨rfl, rfl⟩
    · skip
      refine gzU ?_
      refine t_q (q_call rfl rfl fun l2 _ => robj_any c.obj l2) rfl rfl rfl ?_
      cases ko : inObj c.obj with
      | false =>
        rw [Bool.false_and]
        refine gzU ?_
        exact k_ret [] rfl (.drop (.drop .refl)) (by exact zRes) ⟨rfl, rfl⟩
      | true =>
        rw [Bool.true_and]
        refine gzU ?_
        refine t_h (q_eqagg (ys := encC (only1 c)) rfl rfl (encC_k c) (encC_k _)) rfl rfl rfl ?_
        rw [show eqCells (encC c) (encC (only1 c)) = eqC c (only1 c) from rfl]
        refine gzU ?_
        exact k_ret [] rfl (.drop (.drop .refl)) (by exact zRes) ⟨rfl, rfl⟩
    · skip
      refine gzU ?_
      refine t_q (q_call rfl rfl fun l2 _ => robj_any c.obj l2) rfl rfl rfl ?_
      cases ko : inObj c.obj with
      | false =>
        rw [Bool.false_and]
        refine gzU ?_
        exact k_ret [] rfl (.drop (.drop .refl)) (by exact zRes) ⟨rfl, rfl⟩
      | true =>
        rw [Bool.true_and]
        refine gzU ?_
        refine t_h (q_eqagg (ys := encC (only1 c)) rfl rfl (encC_k c) (encC_k _)) rfl rfl rfl ?_
        rw [show eqCells (encC c) (encC (only1 c)) = eqC c (only1 c) from rfl]
        refine gzU ?_
        exact k_ret [] rfl (.drop (.drop .refl)) (by exact zRes) ⟨rfl, rfl⟩
  by_cases h2 : c.kind = 2
  · have e : rmayB c = (inObj c.obj && (eqC c (only2 c) && (decide (0 ≤ c.bits) && (decide (c.bits ≤ 12) && (decide (0 ≤ c.guard) && decide (c.guard < powI c.bits)))))) := by unfold rmayB; rw [if_neg h0, if_neg h1, if_pos h2]
    rw [e]
    refine gzU ?_
    refine c_draw [(0, true), (1, true), (2, true), (3, true), (4, true), (5, false), (6, true), (7, false)] [[], [0], [], [2], [0, 1], [0, 1, 4], [0, 1, 2, 3, 4, 5], [0, 1, 2, 3, 4, 5, 6]] ([capC b1 c]) (by kernel_rfl) (by kernel_rfl) zAtt zHR ?_
    refine pzU ?_
    refine gzU ?_
    refine c_draw [(0, true), (1, true), (2, true), (3, true), (4, true), (5, true), (6, true), (7, true), (8, true), (9, true), (10, true), (11, true), (12, true), (13, true), (14, true), (15, true), (16, true), (17, true), (18, true), (19, true), (20, true), (21, true), (22, true), (23, true), (24, true), (25, true), (26, true), (27, true), (28, true), (29, true), (30, true), (31, true)] [[], [0], [0, 1], [0, 1, 2], [0, 1, 2, 3], [0, 1, 2, 3], [0, 1, 2, 3, 4, 5], [0, 1, 2, 3, 4, 5, 6], [0, 1, 2, 3, 4, 5, 6, 7], [0, 1, 2, 3, 4, 5, 6, 7, 8], [0, 1, 2, 3, 4, 5, 6, 7, 8, 9], [0, 1, 2, 3, 4, 5, 6, 7, 8, 9, 10], [0, 1, 2, 3, 4, 5, 6, 7, 8, 9, 10, 11], [0, 1, 2, 3, 4, 5, 6, 7, 8, 9, 10, 11, 12], [0, 1, 2, 3, 4, 5, 6, 7, 8, 9, 10, 11, 12, 13], [0, 1, 2, 3, 4, 5, 6, 7, 8, 9, 10, 11, 12, 13, 14], [0, 1, 2, 3, 4, 5, 6, 7, 8, 9, 10, 11, 12, 13, 14, 15], [0, 1, 2, 3, 4, 5, 6, 7, 8, 9, 10, 11, 12, 13, 14, 15, 16], [0, 1, 2, 3, 4, 5, 6, 7, 8, 9, 10, 11, 12, 13, 14, 15, 16, 17], [0, 1, 2, 3, 4, 5, 6, 7, 8, 9, 10, 11, 12, 13, 14, 15, 16, 17, 18], [0, 1, 2, 3, 4, 5, 6, 7, 8, 9, 10, 11, 12, 13, 14, 15, 16, 17, 18, 19], [0, 1, 2, 3, 4, 5, 6, 7, 8, 9, 10, 11, 12, 13, 14, 15, 16, 17, 18, 19, 20], [0, 1, 2, 3, 4, 5, 6, 7, 8, 9, 10, 11, 12, 13, 14, 15, 16, 17, 18, 19, 20, 21], [0, 1, 2, 3, 4, 5, 6, 7, 8, 9, 10, 11, 12, 13, 14, 15, 16, 17, 18, 19, 20, 21, 22], [0, 1, 2, 3, 4, 5, 6, 7, 8, 9, 10, 11, 12, 13, 14, 15, 16, 17, 18, 19, 20, 21, 22, 23], [0, 1, 2, 3, 4, 5, 6, 7, 8, 9, 10, 11, 12, 13, 14, 15, 16, 17, 18, 19, 20, 21, 22, 23, 24], [0, 1, 2, 3, 4, 5, 6, 7, 8, 9, 10, 11, 12, 13, 14, 15, 16, 17, 18, 19, 20, 21, 22, 23], [0, 1, 2, 3, 4, 5, 6, 7, 8, 9, 10, 11, 12, 13, 14, 15, 16, 17, 18, 19, 20, 21, 22, 23, 26], [0, 1, 2, 3, 4, 5, 6, 7, 8, 9, 10, 11, 12, 13, 14, 15, 16, 17, 18, 19, 20, 21, 22, 23, 26, 27], [0, 1, 2, 3, 4, 5, 6, 7, 8, 9, 10, 11, 12, 13, 14, 15, 16, 17, 18, 19, 20, 21, 22, 23, 24, 25, 26, 27, 28], [0, 1, 2, 3, 4, 5, 6, 7, 8, 9, 10, 11, 12, 13, 14, 15, 16, 17, 18, 19, 20, 21, 22, 23, 24, 25, 26, 27, 28, 29], [0, 1, 2, 3, 4, 5, 6, 7, 8, 9, 10, 11, 12, 13, 14, 15, 16, 17, 18, 19, 20, 21, 22, 23, 24, 25, 26, 27, 28, 29, 30]] _ (by kernel_rfl) (by kernel_rfl) zAtt (fun _ h => h) ?_
    refine pzU ?_
    refine pl_h (q_call rfl rfl fun l2 _ => robj_any c.obj l2) rfl rfl rfl ?_
    cases ko : inObj c.obj with
    | false =>
      rw [Bool.false_and]
      refine pzU ?_
      refine gzU ?_
      exact k_ret [] rfl (.drop (.drop .refl)) (by exact zRes) ⟨rfl, rfl⟩
    | true =>
      rw [Bool.true_and]
      refine pzU ?_
      refine pl_h (q_eqagg (ys := encC (only2 c)) rfl rfl (encC_k c) (encC_k _)) rfl rfl rfl ?_
      rw [show eqCells (encC c) (encC (only2 c)) = eqC c (only2 c) from rfl]
      cases ke : eqC c (only2 c) with
      | false =>
        rw [Bool.false_and]
        refine pzU ?_
        refine gzU ?_
        exact k_ret [] rfl (.drop (.drop .refl)) (by exact zRes) ⟨rfl, rfl⟩
      | true =>
        rw [Bool.true_and]
        by_cases k1 : 0 ≤ c.bits
        case neg =>
          rw [decide_eq_false k1, Bool.false_and]
          refine pzU ?_
          refine gzU ?_
          exact k_ret [] rfl (.drop (.drop .refl)) (by exact zRes) ⟨rfl, rfl⟩
        rw [decide_eq_true k1, Bool.true_and]
        by_cases k2 : c.bits ≤ 12
        case neg =>
          rw [decide_eq_false k2, Bool.false_and]
          refine pzU ?_
          refine gzU ?_
          exact k_ret [] rfl (.drop (.drop .refl)) (by exact zRes) ⟨rfl, rfl⟩
        rw [decide_eq_true k2, Bool.true_and]
        by_cases k3 : 0 ≤ c.guard
        case neg =>
          rw [decide_eq_false k3, Bool.false_and]
          refine pzU ?_
          refine gzU ?_
          exact k_ret [] rfl (.drop (.drop .refl)) (by exact zRes) ⟨rfl, rfl⟩
        rw [decide_eq_true k3, Bool.true_and]
        refine pzU ?_
        refine pl_h (q_call rfl rfl fun l2 _ => power_any c.bits k1 k2 l2) rfl rfl rfl ?_
        refine pzU ?_
        refine gzU ?_
        exact k_ret [] rfl (.drop (.drop .refl)) (by exact zRes) ⟨rfl, rfl⟩
  by_cases h3 : c.kind = 3
  · have e : rmayB c = (inObj c.obj && (eqC c (only3 c) && (decide (1 ≤ c.rights) && (decide (c.rights ≤ 3) && (noneB c || someB c))))) := by unfold rmayB; rw [if_neg h0, if_neg h1, if_neg h2, if_pos h3]
    rw [e]
    refine gzU ?_
    refine c_draw [(0, true), (1, true), (2, true), (3, true), (4, true), (5, true), (6, true), (7, false), (8, true), (9, false), (10, true), (11, false)] [[], [0], [], [2], [], [4], [0, 1], [0, 1, 6], [0, 1, 2, 3, 6, 7], [0, 1, 2, 3, 6, 7, 8], [0, 1, 2, 3, 4, 5, 6, 7, 8, 9], [0, 1, 2, 3, 4, 5, 6, 7, 8, 9, 10]] ([capC b1 c]) (by kernel_rfl) (by kernel_rfl) zAtt zHR ?_
    refine pzU ?_
    iterate 1 refine gzSU ?_
    refine c_join (α := Unit) (fun _ => [(1, .pointer (some ⟨b1, 0, none⟩)), (3, .pointer (some ⟨b3, 0, none⟩)), (4, .bool (noneB c))]) (fun _ => capC b3 (only3 c) :: capC b1 c :: l) (fun _ => True) ?_ ?_
    · unfold noneB
      by_cases k1 : c.serial = 0
      case neg =>
        rw [decide_eq_false k1, Bool.false_and]
        refine gzU ?_
        exact p_join () trivial ⟨rfl, rfl, rfl, trivial⟩ .refl
      rw [decide_eq_true k1, Bool.true_and]
      refine gzU ?_
      exact p_join () trivial ⟨rfl, rfl, rfl, trivial⟩ .refl
    rintro _ _
    refine c_join (α := Unit) (fun _ => [(1, .pointer (some ⟨b1, 0, none⟩)), (3, .pointer (some ⟨b3, 0, none⟩)), (4, .bool (noneB c)), (5, .bool (someB c))]) (fun _ => capC b3 (only3 c) :: capC b1 c :: l) (fun _ => True) ?_ ?_
    · unfold someB
      by_cases k1 : 1 ≤ c.serial
      case neg =>
        rw [decide_eq_false k1, Bool.false_and]
        refine gzU ?_
        exact p_join () trivial ⟨rfl, rfl, rfl, rfl, trivial⟩ .refl
      rw [decide_eq_true k1, Bool.true_and]
      by_cases k2 : c.serial ≤ 16777215
      case neg =>
        rw [decide_eq_false k2, Bool.false_and]
        refine gzU ?_
        exact p_join () trivial ⟨rfl, rfl, rfl, rfl, trivial⟩ .refl
      rw [decide_eq_true k2, Bool.true_and]
      by_cases k3 : 0 ≤ c.page
      case neg =>
        rw [decide_eq_false k3, Bool.false_and]
        refine gzU ?_
        exact p_join () trivial ⟨rfl, rfl, rfl, rfl, trivial⟩ .refl
      rw [decide_eq_true k3, Bool.true_and]
      refine gzU ?_
      exact p_join () trivial ⟨rfl, rfl, rfl, rfl, trivial⟩ .refl
    rintro _ _
    refine gzU ?_
    refine t_q (q_call rfl rfl fun l2 _ => robj_any c.obj l2) rfl rfl rfl ?_
    cases ko : inObj c.obj with
    | false =>
      rw [Bool.false_and]
      refine gzU ?_
      exact k_ret [] rfl (.drop (.drop .refl)) (by exact zRes) ⟨rfl, rfl⟩
    | true =>
      rw [Bool.true_and]
      refine gzU ?_
      refine t_h (q_eqagg (ys := encC (only3 c)) rfl rfl (encC_k c) (encC_k _)) rfl rfl rfl ?_
      rw [show eqCells (encC c) (encC (only3 c)) = eqC c (only3 c) from rfl]
      cases ke : eqC c (only3 c) with
      | false =>
        rw [Bool.false_and]
        refine gzU ?_
        exact k_ret [] rfl (.drop (.drop .refl)) (by exact zRes) ⟨rfl, rfl⟩
      | true =>
        rw [Bool.true_and]
        by_cases k1 : 1 ≤ c.rights
        case neg =>
          rw [decide_eq_false k1, Bool.false_and]
          refine gzU ?_
          exact k_ret [] rfl (.drop (.drop .refl)) (by exact zRes) ⟨rfl, rfl⟩
        rw [decide_eq_true k1, Bool.true_and]
        by_cases k2 : c.rights ≤ 3
        case neg =>
          rw [decide_eq_false k2, Bool.false_and]
          refine gzU ?_
          exact k_ret [] rfl (.drop (.drop .refl)) (by exact zRes) ⟨rfl, rfl⟩
        rw [decide_eq_true k2, Bool.true_and]
        cases kn : noneB c with
        | true =>
          rw [Bool.true_or]
          refine gzU ?_
          exact k_ret [] rfl (.drop (.drop .refl)) (by exact zRes) ⟨rfl, rfl⟩
        | false =>
          rw [Bool.false_or]
          refine gzU ?_
          exact k_ret [] rfl (.drop (.drop .refl)) (by exact zRes) ⟨rfl, rfl⟩
  by_cases h8 : c.kind = 8
  · have e : rmayB c = (inObj c.obj && (eqC c (only8 c) && (decide (0 ≤ c.rights) && (decide (c.rights ≤ 7) && decide (c.badge ≤ 16777215))))) := by unfold rmayB; rw [if_neg h0, if_neg h1, if_neg h2, if_neg h3, if_pos h8]
    rw [e]
    refine gzU ?_
    refine c_draw [(0, true), (1, true), (2, true), (3, true), (4, true), (5, false), (6, true), (7, false)] [[], [0], [], [2], [0, 1], [0, 1, 4], [0, 1, 2, 3, 4, 5], [0, 1, 2, 3, 4, 5, 6]] ([capC b1 c]) (by kernel_rfl) (by kernel_rfl) zAtt zHR ?_
    refine pzU ?_
    refine gzU ?_
    refine t_q (q_call rfl rfl fun l2 _ => robj_any c.obj l2) rfl rfl rfl ?_
    cases ko : inObj c.obj with
    | false =>
      rw [Bool.false_and]
      refine gzU ?_
      exact k_ret [] rfl (.drop (.drop .refl)) (by exact zRes) ⟨rfl, rfl⟩
    | true =>
      rw [Bool.true_and]
      refine gzU ?_
      refine t_h (q_eqagg (ys := encC (only8 c)) rfl rfl (encC_k c) (encC_k _)) rfl rfl rfl ?_
      rw [show eqCells (encC c) (encC (only8 c)) = eqC c (only8 c) from rfl]
      cases ke : eqC c (only8 c) with
      | false =>
        rw [Bool.false_and]
        refine gzU ?_
        exact k_ret [] rfl (.drop (.drop .refl)) (by exact zRes) ⟨rfl, rfl⟩
      | true =>
        rw [Bool.true_and]
        by_cases k1 : 0 ≤ c.rights
        case neg =>
          rw [decide_eq_false k1, Bool.false_and]
          refine gzU ?_
          exact k_ret [] rfl (.drop (.drop .refl)) (by exact zRes) ⟨rfl, rfl⟩
        rw [decide_eq_true k1, Bool.true_and]
        by_cases k2 : c.rights ≤ 7
        case neg =>
          rw [decide_eq_false k2, Bool.false_and]
          refine gzU ?_
          exact k_ret [] rfl (.drop (.drop .refl)) (by exact zRes) ⟨rfl, rfl⟩
        rw [decide_eq_true k2, Bool.true_and]
        refine gzU ?_
        exact k_ret [] rfl (.drop (.drop .refl)) (by exact zRes) ⟨rfl, rfl⟩
  have e : rmayB c = false := by unfold rmayB; rw [if_neg h0, if_neg h1, if_neg h2, if_neg h3, if_neg h8]
  rw [e]
  refine gzU ?_
  exact k_ret [] rfl (.drop (.drop .refl)) (by exact zRes) ⟨rfl, rfl⟩
end Go.Proofs.YtcjknmpogkofpaaGreat
