/- Laws that the statement's proof leans on (joined out of several texts). -/
import Derived.Test.YtcjknmpogkofpaaGreatGm3
import Derived.Test.YtcjknmpogkofpaaGreatGm7
import Derived.Test.YtcjknmpogkofpaaGreatGm10
import Derived.Test.YtcjknmpogkofpaaGreatGm5
set_option linter.unusedVariables false
set_option linter.unusedSimpArgs false
namespace Go.Proofs.YtcjknmpogkofpaaGreat.Th
open Go.RowKit
set_option maxRecDepth 20000
set_option maxHeartbeats 400000
structure Came (es vis : List Ent) (seen : Array Nat) : Prop where
  eq : seen.toList = vis.map (·.2.2)
  nd : (vis.map (·.2.2)).Nodup
  sub : ∀ e, e ∈ vis → e ∈ es
theorem Came.len {es vis : List Ent} {seen : Array Nat} (h : Came es vis seen) (hn : (es.map (·.2.2)).Nodup) : vis.length ≤ es.length := by
  classical
  have hv : vis.Nodup := nodup_of_map h.nd
  have he : (es.filter fun e => decide (e ∈ vis)).Nodup := (nodup_of_map hn).filter _
  have hp : vis.Perm (es.filter fun e => decide (e ∈ vis)) := (List.perm_ext_iff_of_nodup hv he).2 fun e => by
    rw [List.mem_filter]; simp only [decide_eq_true_eq]
    exact ⟨fun hm => ⟨h.sub e hm, hm⟩, fun hm => hm.2⟩
  rw [hp.length_eq]; exact List.length_filter_le ..
theorem Came.all {es vis : List Ent} {seen : Array Nat} (h : Came es vis seen) (hn : (es.map (·.2.2)).Nodup) (ha : ∀ e, e ∈ es → e.2.2 ∈ seen.toList) : (vis.map (·.1)).Perm (es.map (·.1)) := by
  refine List.Perm.map _ ((List.perm_ext_iff_of_nodup (nodup_of_map h.nd) (nodup_of_map hn)).2 fun e => ⟨h.sub e, fun he => ?_⟩)
  have h1 := ha e he
  rw [h.eq] at h1
  obtain ⟨e', he', h2⟩ := List.mem_map.1 h1
  have h3 := nd_stamp hn (h.sub e' he') he h2
  rw [← h3]; exact he'
theorem Came.push {es vis : List Ent} {seen : Array Nat} {e : Ent} (h : Came es vis seen) (he : e ∈ es) (hs : e.2.2 ∉ seen.toList) : Came es (vis ++ [e]) (seen.push e.2.2) := by
  refine ⟨by rw [Array.toList_push, h.eq, List.map_append]; rfl, ?_, fun x hx => ?_⟩
  · rw [List.map_append, List.nodup_append]
    refine ⟨h.nd, by simp, fun a ha b hb hab => hs ?_⟩
    have : b = e.2.2 := by simpa using hb
    rw [h.eq, ← this, ← hab]; exact ha
  · rcases List.mem_append.1 hx with hx | hx
    · exact h.sub x hx
    · rw [List.mem_singleton.1 hx]; exact he
theorem keys_any (mb : Option Nat) (l : List Chunk) : Fn Tryz.prog 180 [.map mb] l fun v l' => ∃ B, v = .func (.func 211) #[] #[.pointer (some ⟨B, 0, none⟩)] ∧ l' = (B, .cells #[.map mb] 168 (0, 0)) :: l := by
  refine fn_of_body Tryz.func180 rfl rfl fun E => ?_
  simp only [argF, Tryz.ntmps180]
  refine gz ?_
  refine t_e (e_box1 rfl rfl) rfl rfl rfl ?_
  rintro _ _ ⟨B, hB, rfl, rfl⟩
  refine gz ?_
  exact k_ret [] rfl .refl (by exact zRes) ⟨B, rfl, rfl⟩
theorem keys_iter (B m clock : Nat) (es : List Ent) (hnd : (es.map (·.2.2)).Nodup) (hst : ∀ e, e ∈ es → e.2.2 < clock) :
    IterS Tryz.prog 211 [.pointer (some ⟨B, 0, none⟩)] (fun k : Int => [.int .i64 k]) (fun xs => xs.Perm (es.map (·.1))) (fun pre => pre.length ≤ es.length)
      (fun _ l => (B, .cells #[.map (some m)] 168 (0, 0)) ∈ l ∧ (m, mapO .i64 es clock) ∈ l) := by
  refine ⟨fun q I Ix G0 hneed hY l G hG h0 => ?_⟩
  refine fn_of_body Tryz.func211 rfl rfl fun E => ?_
  simp only [argF, Tryz.ntmps211]
  obtain ⟨hm1, hm2⟩ := hneed _ _ G hG h0
  refine gz ?_
  refine t_e (e_range rfl hm2) rfl rfl rfl ?_
  rintro _ _ ⟨b0, hb0, rfl, rfl⟩
  refine gz ?_
  refine k_loop (α := Array Nat × List Ent × List Chunk) (fun x => [(0, .func (.yield q) #[] #[]), (1, .pointer (some ⟨B, 0, none⟩)), (5, .pointer (some ⟨b0, 0, none⟩))]) (fun x => (b0, .mapIter (some m) clock x.1 clock) :: (x.2.2 ++ G)) (fun x => I (x.2.1.map (·.1)) x.2.2 ∧ Came es x.2.1 x.1) (fun x => es.length - x.2.1.length) (#[], [], l) ⟨h0, rfl, by simp, by simp⟩ ⟨rfl, rfl, rfl, trivial⟩ .refl ?_
  clear hm1 hm2
  rintro ⟨seen, vis, l⟩ ⟨hI, hC⟩
  simp only at hI hC ⊢
  obtain ⟨hm1, hm2⟩ := hneed _ _ G hG hI
  refine gz ?_
  refine t_e (e_next rfl hm2 (fun e he => hst e he) (Nat.le_refl _)) rfl rfl rfl ?_
  rintro _ _ (⟨rfl, rfl, hall⟩ | ⟨e, he, hns, rfl, rfl⟩)
  · refine gz ?_
    exact k_ret [] rfl (.drop .refl) (by exact zRes) ⟨l, rfl, .inl ⟨_, hC.all hnd hall, hI⟩⟩
  · have hC2 := hC.push he hns
    have hl2 := hC2.len hnd
    have hy := hY (vis.map (·.1)) e.1 l ((b0, .mapIter (some m) clock (seen.push e.2.2) clock) :: G) (fun c hc => .tail _ (hG c hc)) hI (by simp at hl2 ⊢; exact hl2)
    refine gz ?_
    refine t_q (q_entry rfl (.head _) (.tail _ hm2) he hnd) rfl rfl rfl ?_
    refine gz ?_
    refine s_keep (Keep.of_perm List.perm_middle.symm) ?_
    refine t_e (e_yield rfl rfl hy) rfl rfl rfl ?_
    rintro v l' ⟨l1, rfl, ⟨rfl, hI'⟩ | ⟨rfl, hx⟩⟩
    · refine gz ?_
      exact k_next (seen.push e.2.2, vis ++ [e], l1) ⟨by simpa using hI', hC2⟩ (by simp at hl2 ⊢; omega) ⟨rfl, rfl, rfl, trivial⟩ (.of_perm List.perm_middle)
    · refine gz ?_
      exact k_ret [] rfl (Keep.trans (.of_perm List.perm_middle) (.drop .refl)) (by exact zRes) ⟨l1, rfl, .inr ⟨_, by simp at hl2 ⊢; exact hl2, hx⟩⟩
theorem append_any (gf : Nat) [EN Tryz.prog gf] (lb : List Value) (S : List Int → Prop) (n : Nat) (Need : List Int → List Chunk → Prop) (hit : IterS Tryz.prog gf lb (fun k : Int => [.int .i64 k]) S (fun pre => pre.length ≤ n) Need) (hn : n ≤ 900000) (l : List Chunk) (hneed : ∀ pre l2, (∀ c, c ∈ l → c ∈ l2) → Need pre l2) :
    Fn Tryz.prog 220 [.slice none 0 0, .func (.func gf) #[] lb.toArray] l fun v l' => ∃ xs cs, S xs ∧ OwnSl 3 1 v xs.length (xs.map intV) cs ∧ l' = cs ++ l := by
  refine fn_of_body Tryz.func220 rfl rfl fun E => ?_
  simp only [argF, Tryz.ntmps220]
  refine gz ?_
  refine t_e (e_box1 rfl rfl) rfl rfl rfl ?_
  rintro _ _ ⟨b2, hb2, rfl, rfl⟩
  refine gz ?_
  refine c_range (α := Int) (ps := [7]) (lb := lb) rfl hit (fun _ => rfl) rfl
    (fun pre l => ∃ v cs, OwnSl 3 1 v pre.length (pre.map intV) cs ∧ pre.length ≤ n ∧ l = [(b2, .cells #[v] 25 (0, 0))] ++ cs)
    (fun c pre l => False)
    _ l (fun pre l2 X2 hX h => by obtain ⟨v, cs, _, _, rfl⟩ := h; exact hneed _ _ fun c hc => List.mem_append_right _ (hX _ hc)) (by exact zKeep) ⟨_, [], OwnSl.nil _ _, Nat.zero_le _, rfl⟩ ?_ ?_ ?_
  · rintro E r0 rec pre y l' T ⟨fn, tmps, Dd, rfl⟩ hT0 ⟨v, cs', hown, hpl, rfl⟩ hsp
    simp only [putPs, List.cons_append, List.nil_append]
    refine gz ?_
    refine p_begin (.there (upd_mid _ _ _ _ _)) ?_
    generalize hX1 : (r0, Obj.loop (recOf fn tmps _ _ _ Dd .busy none)) :: T = X1
    refine gz ?_
    refine t_e (e_lit1 rfl rfl) rfl rfl rfl ?_
    rintro _ _ ⟨bl, _, rfl, rfl⟩
    refine t_e (e_appX (k := 1) (X := [(b2, .cells #[v] 25 (0, 0))]) (cs := cs') (F := X1) (xs := pre.map intV) (n := pre.length) (zs := [.int .i64 0]) (ws := [intV y]) rfl rfl rfl hown rfl (by simp [Value.oneCell', intV]) (by omega) (by decide)) rfl rfl rfl ?_
    rintro v' _ ⟨c2, ho2, rfl⟩
    have hv1 : v'.oneCell' = true := ho2.one
    simp only [List.cons_append, List.nil_append]
    refine gz ?_
    rw [← hX1]
    refine p_round _ (.refl) ⟨v', c2, ?_, hsp, rfl⟩
    rw [List.length_append, List.map_append]; exact ho2
  · rintro Dd xs l' hS ⟨v, cs', hown, hpl, rfl⟩
    have hv1 : v.oneCell' = true := hown.one
    simp only [List.cons_append, List.nil_append]
    refine gz ?_
    refine k_ret2 [Dd] (cs' ++ l) rfl (l' := cs' ++ l) (by exact zKeep) (by exact zRes) .refl ?_
    exact ⟨xs, cs', hS, hown, rfl⟩
  · rintro Dd c pre l' hsp h
    exact h.elim
theorem collect_any (gf : Nat) [EN Tryz.prog gf] (lb : List Value) (S : List Int → Prop) (n : Nat) (Need : List Int → List Chunk → Prop) (hit : IterS Tryz.prog gf lb (fun k : Int => [.int .i64 k]) S (fun pre => pre.length ≤ n) Need) (hn : n ≤ 900000) (l : List Chunk) (hneed : ∀ pre l2, (∀ c, c ∈ l → c ∈ l2) → Need pre l2) :
    Fn Tryz.prog 209 [.func (.func gf) #[] lb.toArray] l fun v l' => ∃ xs cs, S xs ∧ OwnSl 3 1 v xs.length (xs.map intV) cs ∧ l' = cs ++ l := by
  refine fn_of_body Tryz.func209 rfl rfl fun E => ?_
  simp only [argF, Tryz.ntmps209]
  refine gz ?_
  refine t_e (e_call0 rfl rfl (append_any gf lb S n Need hit hn l hneed)) rfl rfl rfl ?_
  rintro v _ ⟨xs, cs, hS, ho, rfl⟩
  have hv1 : v.oneCell' = true := ho.one
  refine gz ?_
  refine k_ret [] rfl .refl (by exact zRes) ?_
  exact ⟨xs, cs, hS, ho, rfl⟩
theorem sorted_any (gf : Nat) [EN Tryz.prog gf] (lb : List Value) (S : List Int → Prop) (n : Nat) (Need : List Int → List Chunk → Prop) (hit : IterS Tryz.prog gf lb (fun k : Int => [.int .i64 k]) S (fun pre => pre.length ≤ n) Need) (hn : n ≤ 900000) (hS : ∀ xs, S xs → xs.length ≤ n) (l : List Chunk) (hneed : ∀ pre l2, (∀ c, c ∈ l → c ∈ l2) → Need pre l2) :
    Fn Tryz.prog 179 [.func (.func gf) #[] lb.toArray] l fun v l' => ∃ xs cs, S xs ∧ OwnSl 3 1 v (srt xs).length ((srt xs).map intV) cs ∧ l' = cs ++ l := by
  refine fn_of_body Tryz.func179 rfl rfl fun E => ?_
  simp only [argF, Tryz.ntmps179]
  refine gz ?_
  refine t_e (e_call0 rfl rfl (collect_any gf lb S n Need hit hn l hneed)) rfl rfl rfl ?_
  rintro v _ ⟨xs, cs, hSx, ho, rfl⟩
  have hv1 : v.oneCell' = true := ho.one
  have hl := hS xs hSx
  refine gz ?_
  refine t_e (e_call0 rfl rfl (sortOwn_any v xs cs l ho (by omega))) rfl rfl rfl ?_
  rintro _ _ ⟨rfl, cs', ho', rfl⟩
  refine gz ?_
  refine k_ret [] rfl .refl (by exact zRes) ?_
  exact ⟨xs, cs', hSx, ho', rfl⟩
theorem mapKeys_any (B m clock : Nat) (es : List Ent) (hnd : (es.map (·.2.2)).Nodup) (hst : ∀ e, e ∈ es → e.2.2 < clock) (hn : es.length ≤ 900000) (l : List Chunk) (h1 : (B, Obj.cells #[.map (some m)] 168 (0, 0)) ∈ l) (h2 : (m, mapO .i64 es clock) ∈ l) :
    Fn Tryz.prog 179 [.func (.func 211) #[] #[.pointer (some ⟨B, 0, none⟩)]] l fun v l' => ∃ xs cs, xs.Perm (es.map (·.1)) ∧ OwnSl 3 1 v (srt xs).length ((srt xs).map intV) cs ∧ l' = cs ++ l :=
  sorted_any 211 [.pointer (some ⟨B, 0, none⟩)] _ es.length _ (keys_iter B m clock es hnd hst) hn (fun xs h => by rw [h.length_eq]; simp) l fun _ l2 hl => ⟨hl _ h1, hl _ h2⟩
theorem XB.sorted {L : TL} {es : List Ent} {clock : Nat} (h : XB L es clock) {xs : List Int} (hx : xs.Perm (es.map (·.1))) : srt xs = L.map ThT.id := by
  have h1 : (srt xs).Perm (L.map ThT.id) := (List.mergeSort_perm ..).trans (hx.trans h.keys)
  have h2 : (srt xs).Pairwise (fun x y => x ≤ y) := by
    have := List.pairwise_mergeSort (le := fun x y : Int => decide (x ≤ y)) (fun a b c h1 h2 => by simp at *; omega) (fun a b => by simp; omega) xs
    exact this.imp fun h => by simpa using h
  have h3 : (L.map ThT.id).Pairwise (fun x y => x ≤ y) := List.pairwise_map.2 (h.asc.imp fun hxy => by omega)
  exact h1.eq_of_pairwise (fun a b _ _ h1 h2 => by omega) h2 h3
theorem OwnSl.ints {e : Nat} {v : Value} {xs : List Int} {cs l : List Chunk} (h : OwnSl e 1 v xs.length (xs.map intV) cs) (hs : ∀ c, c ∈ cs → c ∈ l) : ∃ p cap, v = .slice p xs.length cap ∧ (0 < xs.length → ∃ b cl t fz, p = some ⟨b, 0, none⟩ ∧ (b, Obj.cells cl t fz) ∈ l ∧ ∀ i x, xs[i]? = some x → cl[i * 1]? = some (.int .i64 x)) := by
  rcases h.2 with ⟨rfl, h0, rfl⟩ | ⟨b, cap, sp, rfl, rfl, _⟩
  · exact ⟨none, 0, by rw [h0], fun h => by omega⟩
  · refine ⟨_, cap, rfl, fun h0 => ⟨b, _, e, (0, 0), rfl, hs _ List.mem_cons_self, fun i x hx => ?_⟩⟩
    have hlt := (List.getElem?_eq_some_iff.1 hx).1
    rw [Nat.mul_one, List.getElem?_toArray, List.getElem?_append_left (by simpa using hlt), List.getElem?_map, hx]; rfl
theorem each_iter (B b : Nat) (L : TL) (lq : List Chunk) (hq : IsX b L lq) (hn : L.length ≤ 900000) :
    IterS Tryz.prog 178 [.pointer (some ⟨B, 0, none⟩)] (fun t : ThT => [thV t]) (fun xs => xs = L) (fun pre => pre <+: L)
      (fun _ l => xB B (.pointer (some ⟨b, 0, none⟩)) ∈ l ∧ ∀ c, c ∈ lq → c ∈ l) := by
  refine ⟨fun r I Ix G0 hneed hY l G hG h0 => ?_⟩
  obtain ⟨m, es, clock, rfl, hX⟩ := hq
  obtain ⟨n1, n2⟩ := hneed _ _ G hG h0
  have n3 := n2 _ (.head _)
  have n4 := n2 _ (.tail _ (.head _))
  refine fn_of_body Tryz.func178 rfl rfl fun E => ?_
  simp only [argF, Tryz.ntmps178]
  refine gz ?_
  refine t_e (e_call0 rfl rfl (keys_any (some m) _)) rfl rfl rfl ?_
  rintro _ _ ⟨B', rfl, rfl⟩
  refine gz ?_
  refine t_e (e_call0 rfl rfl (mapKeys_any B' m clock es hX.ok.stamps hX.ok.below (by rw [hX.len]; exact hn) _ (.head _) (.tail _ n4))) rfl rfl rfl ?_
  rintro v _ ⟨xs, cs, hxs, ho, rfl⟩
  rw [hX.sorted hxs] at ho
  have hv1 : v.oneCell' = true := ho.one
  obtain ⟨p, cap, rfl, hR⟩ := OwnSl.ints ho (l := cs) fun c hc => hc
  have hlen : (L.map ThT.id).length = L.length := List.length_map ..
  refine gz ?_
  refine k_loop (α := Nat × List Chunk) (fun x => [(0, .func (.yield r) #[] #[]), (1, .pointer (some ⟨B, 0, none⟩)), (12, .slice p (L.map ThT.id).length cap), (13, .int .i64 (L.map ThT.id).length), (14, .int .i64 x.1)]) (fun x => x.2 ++ (cs ++ G)) (fun x => x.1 ≤ L.length ∧ I (L.take x.1) x.2) (fun x => L.length - x.1) (0, l) ⟨Nat.zero_le _, h0⟩ ⟨rfl, rfl, rfl, rfl, rfl, trivial⟩ ?_ ?_
  · exact Keep.trans (Keep.in_mid cs [_] (l ++ G)) (.drop (Keep.in_mid cs l G))
  clear n1 n2 n3 n4
  rintro ⟨k, l⟩ ⟨hk, hI⟩
  simp only at hk hI ⊢
  obtain ⟨n1, n2⟩ := hneed _ _ (cs ++ G) (fun c hc => List.mem_append_right _ (hG c hc)) hI
  have n3 := n2 _ (.head _)
  have n4 := n2 _ (.tail _ (.head _))
  by_cases hlt : k < L.length
  · obtain ⟨b9, cl, t9, fz, rfl, hmc, hcl⟩ := hR (by omega)
    have hm' : (b9, Obj.cells cl t9 fz) ∈ l ++ (cs ++ G) := List.mem_append_right _ (List.mem_append_left _ hmc)
    obtain ⟨t, ht⟩ : ∃ t, L[k]? = some t := ⟨_, List.getElem?_eq_getElem hlt⟩
    have hc := hcl k t.id (by rw [List.getElem?_map, ht]; rfl)
    have htk : L.take (k + 1) = L.take k ++ [t] := by rw [List.take_add_one, ht]; rfl
    have hlk : (getE t.id es).getD (thV thZ) = thV t := by rw [hX.look, hX.at_ (List.mem_of_getElem? ht)]; rfl
    refine gz ?_
    rw [hlk]
    have hy := hY (L.take k) t l (cs ++ G) (fun c hc => List.mem_append_right _ (hG c hc)) hI (by rw [← htk]; exact List.take_prefix _ _)
    refine t_e (e_yield rfl rfl hy) rfl rfl rfl ?_
    rintro v l' ⟨l1, rfl, ⟨rfl, hI'⟩ | ⟨rfl, hx⟩⟩
    · refine gz ?_
      exact k_next (k + 1, l1) ⟨by simp only; omega, by simp only; rw [htk]; exact hI'⟩ (by simp only; omega) ⟨rfl, rfl, rfl, rfl, rfl, trivial⟩ .refl
    · refine gz ?_
      exact k_ret [] rfl (Keep.trans (Keep.in_mid l1 cs G) (Keep.dropL cs .refl)) (by exact zRes) ⟨l1, rfl, .inr ⟨_, by rw [← htk]; exact List.take_prefix _ _, hx⟩⟩
  · obtain rfl : k = L.length := by omega
    rw [List.take_length] at hI
    refine gz ?_
    exact k_ret [] rfl (Keep.trans (Keep.in_mid l cs G) (Keep.dropL cs .refl)) (by exact zRes) ⟨l, rfl, .inl ⟨_, rfl, hI⟩⟩
theorem all_any (b : Nat) (L : TL) (lq : List Chunk) (hq : IsX b L lq) (hn : L.length ≤ 900000) (l : List Chunk) (hsub : ∀ c, c ∈ lq → c ∈ l) :
    Fn Tryz.prog 50 [.pointer (some ⟨b, 0, none⟩)] l fun v l' => ∃ cs, OwnSl 76 24 v L.length (thcs L) cs ∧ l' = cs ++ l := by
  refine fn_of_body Tryz.func50 rfl rfl fun E => ?_
  simp only [argF, Tryz.ntmps50]
  refine gz ?_
  refine t_e (e_call0 rfl rfl (each_any _ rfl _)) rfl rfl rfl ?_
  rintro _ _ ⟨B, rfl, rfl⟩
  refine gz ?_
  refine t_e (e_call0 rfl rfl (collectT_any 178 [.pointer (some ⟨B, 0, none⟩)] _ _ _ (each_iter B b L lq hq hn) L.length (fun pre h => h.length_le) hn _ fun _ l2 hl => ⟨hl _ (.head _), fun c hc => hl _ (.tail _ (hsub c hc))⟩)) rfl rfl rfl ?_
  rintro v _ ⟨_, cs, rfl, ho, rfl⟩
  have hv1 : v.oneCell' = true := ho.one
  refine gz ?_
  refine k_ret [] rfl (l' := cs ++ l) (Keep.trans (.of_perm List.perm_middle) (.drop .refl)) (by exact zRes) ?_
  exact ⟨cs, ho, rfl⟩
set_option maxHeartbeats 400000 in
theorem sameThreads_any {α : Type} [DecidableEq α] (enc : α → List Value) (hin : ∀ x y, enc x = enc y → x = y) (hk : ∀ x, AllK thK (enc x)) (v u : Value) (xs ys : List α) (l : List Chunk) (h1 : RowSl l v 24 enc xs) (h2 : RowSl l u 24 enc ys) (hx : xs.length ≤ 1000000) :
    Fn Tryz.prog 46 [v, u] l fun r l' => r = .bool (decide (xs = ys)) ∧ l' = l := by
  obtain ⟨a, ca, rfl, h1⟩ := h1
  obtain ⟨a', ca', rfl, h2⟩ := h2
  refine fn_of_body Tryz.func46 rfl rfl fun E => ?_
  simp only [argF, Tryz.ntmps46]
  by_cases hl : xs.length = ys.length
  · refine gz ?_
    refine k_loop (α := Nat) (fun k => [(0, .slice a xs.length ca), (1, .slice a' ys.length ca'), (5, .int .i64 k)]) (fun k => l) (fun k => k ≤ xs.length ∧ ∀ j, j < k → xs[j]? = ys[j]?) (fun k => xs.length - k) 0 ⟨Nat.zero_le _, fun j h => by omega⟩ ⟨rfl, rfl, rfl, trivial⟩ .refl ?_
    rintro k ⟨hk2, hj⟩
    by_cases hlt : k < xs.length
    · obtain ⟨b, off, cs, t, fz, rfl, hm, hc⟩ := h1 (by omega)
      obtain ⟨b', off', cs', t', fz', rfl, hm', hc'⟩ := h2 (by omega)
      obtain ⟨x, e1⟩ : ∃ x, xs[k]? = some x := ⟨_, List.getElem?_eq_getElem hlt⟩
      obtain ⟨y, e2⟩ : ∃ y, ys[k]? = some y := ⟨_, List.getElem?_eq_getElem (show k < ys.length by omega)⟩
      obtain ⟨g1, g2⟩ := hc k x e1
      obtain ⟨g1', g2'⟩ := hc' k y e2
      refine gz ?_
      refine c_draw [(0, true), (1, true), (2, true), (3, true), (4, true), (5, true), (6, true), (7, true), (8, true)] [[], [], [0, 1], [0, 1, 2], [], [], [4, 5], [4, 5, 6], [0, 1, 2, 3, 4, 5, 6, 7]] _ (by kernel_rfl) (by kernel_rfl) zAtt (fun _ h => h) ?_
      refine pz ?_
      apply pl_q
      · exact q_loadA rfl hm g1 g2
      · rfl
      · rfl
      · rfl
      refine pz ?_
      apply pl_q
      · exact q_loadA rfl hm' g1' g2'
      · rfl
      · rfl
      · rfl
      refine pz ?_
      apply pl_q
      · exact q_neagg rfl rfl (hk x) (hk y)
      · rfl
      · rfl
      · rfl
      by_cases hxy : x = y
      · rw [show (!eqCells (enc x) (enc y)) = false by rw [hxy, eqCells_self (hk y)]; rfl]
        refine pz ?_
        refine gz ?_
        exact k_next (k + 1) ⟨by omega, fun j hjk => by
          by_cases e : j = k
          · subst e; rw [e1, e2, hxy]
          · exact hj j (by omega)⟩ (by omega) ⟨rfl, rfl, rfl, trivial⟩ .refl
      · rw [show (!eqCells (enc x) (enc y)) = true by
          cases h : eqCells (enc x) (enc y) with
          | false => rfl
          | true => exact absurd (hin _ _ ((eqCells_iff (hk x) (hk y)).1 h)) hxy]
        refine pz ?_
        refine gz ?_
        refine k_ret [] rfl .refl (by exact zRes) ⟨?_, rfl⟩
        rw [show decide (xs = ys) = false from decide_eq_false fun e => by subst e; rw [e1] at e2; exact hxy (by cases e2; rfl)]; rfl
    · obtain rfl : k = xs.length := by omega
      refine gz ?_
      refine k_ret [] rfl .refl (by exact zRes) ⟨?_, rfl⟩
      rw [show decide (xs = ys) = true from decide_eq_true (List.ext_getElem? fun j => by
        by_cases h : j < xs.length
        · exact hj j h
        · rw [List.getElem?_eq_none (by omega), List.getElem?_eq_none (by omega)])]; rfl
  · refine gz ?_
    refine k_ret [] rfl .refl (by exact zRes) ⟨?_, rfl⟩
    rw [show decide (xs = ys) = false from decide_eq_false fun e => hl (by rw [e])]; rfl
abbrev rxC (b : Nat) (v : Value) : Chunk := (b, .cells #[v] 149 (0, 0))
theorem ext_get {xs : Array Value} {o k j : Nat} {ys : List Value} (h : xs.extract o (o + k) = List.toArray ys) (hle : o + k ≤ xs.size) (hj : j < k) : xs[o + j]? = ys[j]? := by
  have e : (List.toArray ys)[j]? = ys[j]? := by simp
  rw [← e, ← h, Array.getElem?_extract, if_pos (by omega)]
theorem OwnSl_ths {v : Value} {L : TL} {cs l : List Chunk} (h : OwnSl 76 24 v L.length (thcs L) cs) (hs : ∀ c, c ∈ cs → c ∈ l) : RowSl l v 24 encH L := OwnSl.rowSl (enc := encH) h (fun _ => rfl) hs
def IsRX (b : Nat) (L : TL) (lr : List Chunk) : Prop := ∃ v cs, lr = rxC b v :: cs ∧ OwnSl 76 24 v L.length (thcs L) cs
theorem IsRX.view {b : Nat} {L : TL} {lr l : List Chunk} (h : IsRX b L lr) (hs : ∀ c, c ∈ lr → c ∈ l) : ∃ p cap, rxC b (.slice p L.length cap) ∈ l ∧ RowSl l (.slice p L.length cap) 24 encH L ∧ (0 < L.length → ∃ bB off xs t fz, p = some ⟨bB, off, none⟩ ∧ (bB, Obj.cells xs t fz) ∈ l ∧ ∀ i x, L[i]? = some x → xs[off + i * 24]? = some (.int .i64 x.id) ∧ xs[off + i * 24 + 9]? = some (.int .i64 x.ca) ∧ off + i * 24 + 24 ≤ xs.size ∧ xs.extract (off + i * 24) (off + i * 24 + 24) = List.toArray (encH x)) := by
  obtain ⟨v, cs, rfl, ho⟩ := h
  have hSN := OwnSl_ths ho (l := l) fun c hc => hs c (.tail _ hc)
  have hSN0 := hSN
  obtain ⟨p, cap, rfl, hR⟩ := hSN
  refine ⟨p, cap, hs _ (.head _), hSN0, fun h0 => ?_⟩
  obtain ⟨bB, off, xs, t, fz, h1, h2, h3⟩ := hR h0
  refine ⟨bB, off, xs, t, fz, h1, h2, fun i x hx => ?_⟩
  obtain ⟨g1, g2⟩ := h3 i x hx
  exact ⟨by have := ext_get (j := 0) g2 g1 (by omega); simpa using this, by have := ext_get (j := 9) g2 g1 (by omega); simpa using this, g1, g2⟩
def idxH (L : TL) (a : Int) : Int := if (findH L a).isSome = true then ((L.takeWhile fun t => decide (t.id ≠ a)).length : Nat) else -1
theorem idx_of {L : TL} {a : Int} {t : ThT} (h : findH L a = some t) : ∃ A B, L = A ++ t :: B ∧ idxH L a = (A.length : Nat) ∧ t.id = a ∧ (∀ x, x ∈ A → x.id ≠ a) ∧ L[A.length]? = some t := by
  obtain ⟨h1, A, B, rfl, h2⟩ := List.find?_eq_some_iff_append.1 h
  have ht : t.id = a := by simpa using h1
  have hA : ∀ x, x ∈ A → x.id ≠ a := fun x hx => by simpa using h2 x hx
  refine ⟨A, B, rfl, ?_, ht, hA, by rw [List.getElem?_append_right (Nat.le_refl _), Nat.sub_self]; rfl⟩
  unfold idxH
  rw [h, List.takeWhile_append_of_pos fun x hx => by simpa using hA x hx, List.takeWhile_cons_of_neg (by simpa using ht), List.append_nil]; rfl
theorem idx_neg {L : TL} {a : Int} (h : findH L a = none) : idxH L a = -1 := by unfold idxH; rw [h]; rfl
theorem idx_hit {L : TL} {a : Int} {k : Nat} {x : ThT} (hx : L[k]? = some x) (hs : x.id = a) (hn : ∀ j y, j < k → L[j]? = some y → y.id ≠ a) : idxH L a = (k : Nat) := by
  have hk := (List.getElem?_eq_some_iff.1 hx).1
  have hL : L = L.take k ++ x :: L.drop (k + 1) := by
    have h1 := List.take_append_drop k L
    rw [List.drop_eq_getElem_cons hk] at h1
    have h2 : L[k] = x := by rw [List.getElem?_eq_getElem hk] at hx; exact Option.some.inj hx
    rw [h2] at h1; exact h1.symm
  have hA : ∀ y, y ∈ L.take k → y.id ≠ a := fun y hy => by
    obtain ⟨j, hj⟩ := List.mem_iff_getElem?.1 hy
    rw [List.getElem?_take] at hj
    split at hj
    · exact hn j y (by assumption) hj
    · cases hj
  have hf : findH L a = some x := by
    unfold findH
    rw [hL, find_append, List.find?_eq_none.2 fun y hy => by simpa using hA y hy, Option.none_or, List.find?_cons, decide_eq_true hs]
  unfold idxH
  rw [hf]
  have : L.takeWhile (fun t => decide (t.id ≠ a)) = L.take k := by
    conv => lhs; rw [hL]
    rw [List.takeWhile_append_of_pos fun y hy => by simpa using hA y hy, List.takeWhile_cons_of_neg (by simpa using hs), List.append_nil]
  rw [this, List.length_take, Nat.min_eq_left (Nat.le_of_lt hk)]; rfl
theorem rmay_any (t : ThT) (l : List Chunk) : Fn Tryz.prog 117 [thV t] l fun v l' => v = .bool (mayH t) ∧ l' = l := by
  refine fn_of_body Tryz.func117 rfl rfl fun E => ?_
  simp only [argF, Tryz.ntmps117]
  refine gz ?_
  (first | refine t_e (e_box1 rfl rfl) rfl rfl rfl ?_ | refine t_e (e_boxA rfl) rfl rfl rfl ?_); rintro _ _ ⟨b, _, rfl, rfl⟩
  by_cases h0 : 1 ≤ t.id
  case neg =>
    have e : mayH t = false := by unfold mayH; rw [decide_eq_false h0]; simp
    rw [e]
    refine gz ?_
    exact k_ret [] rfl (.drop .refl) (by exact zRes) ⟨rfl, rfl⟩
  by_cases h1 : 0 ≤ t.st
  case neg =>
    have e : mayH t = false := by unfold mayH; rw [decide_eq_false h1]; simp
    rw [e]
    refine gz ?_
    exact k_ret [] rfl (.drop .refl) (by exact zRes) ⟨rfl, rfl⟩
  by_cases h2 : t.st ≤ 4
  case neg =>
    have e : mayH t = false := by unfold mayH; rw [decide_eq_false h2]; simp
    rw [e]
    refine gz ?_
    exact k_ret [] rfl (.drop .refl) (by exact zRes) ⟨rfl, rfl⟩
  by_cases h3 : 0 ≤ t.pr
  case neg =>
    have e : mayH t = false := by unfold mayH; rw [decide_eq_false h3]; simp
    rw [e]
    refine gz ?_
    exact k_ret [] rfl (.drop .refl) (by exact zRes) ⟨rfl, rfl⟩
  by_cases h4 : t.pr ≤ 7
  case neg =>
    have e : mayH t = false := by unfold mayH; rw [decide_eq_false h4]; simp
    rw [e]
    refine gz ?_
    exact k_ret [] rfl (.drop .refl) (by exact zRes) ⟨rfl, rfl⟩
  by_cases h5 : 0 ≤ t.ca
  case neg =>
    have e : mayH t = false := by unfold mayH; rw [decide_eq_false h5]; simp
    rw [e]
    refine gz ?_
    exact k_ret [] rfl (.drop .refl) (by exact zRes) ⟨rfl, rfl⟩
  by_cases h6 : 0 ≤ t.wa
  case neg =>
    have e : mayH t = false := by unfold mayH; rw [decide_eq_false h6]; simp
    rw [e]
    refine gz ?_
    exact k_ret [] rfl (.drop .refl) (by exact zRes) ⟨rfl, rfl⟩
  by_cases h7 : 0 ≤ t.gv
  case neg =>
    have e : mayH t = false := by unfold mayH; rw [decide_eq_false h7]; simp
    rw [e]
    refine gz ?_
    exact k_ret [] rfl (.drop .refl) (by exact zRes) ⟨rfl, rfl⟩
  by_cases h8 : t.gv ≤ 4096
  case neg =>
    have e : mayH t = false := by unfold mayH; rw [decide_eq_false h8]; simp
    rw [e]
    refine gz ?_
    exact k_ret [] rfl (.drop .refl) (by exact zRes) ⟨rfl, rfl⟩
  by_cases h9 : 0 ≤ t.inn
  case neg =>
    have e : mayH t = false := by unfold mayH; rw [decide_eq_false h9]; simp
    rw [e]
    refine gz ?_
    exact k_ret [] rfl (.drop .refl) (by exact zRes) ⟨rfl, rfl⟩
  have e : mayH t = decide (t.inn ≤ 4096) := by unfold mayH; rw [decide_eq_true h0, decide_eq_true h1, decide_eq_true h2, decide_eq_true h3, decide_eq_true h4, decide_eq_true h5, decide_eq_true h6, decide_eq_true h7, decide_eq_true h8, decide_eq_true h9]; simp
  rw [e]
  refine gz ?_
  exact k_ret [] rfl (.drop .refl) (by exact zRes) ⟨rfl, rfl⟩
theorem rat_any (b : Nat) (L : TL) (lr : List Chunk) (hr : IsRX b L lr) (hn : L.length ≤ 900000) (a : Int) (l : List Chunk) (hsub : ∀ c, c ∈ lr → c ∈ l) :
    Fn Tryz.prog 116 [.pointer (some ⟨b, 0, none⟩), .int .i64 a] l fun v l' => v = .int .i64 (idxH L a) ∧ l' = l := by
  obtain ⟨p, cap, hm, _, hR⟩ := hr.view hsub
  refine fn_of_body Tryz.func116 rfl rfl fun E => ?_
  simp only [argF, Tryz.ntmps116]
  refine gz ?_
  refine k_loop (α := Nat) (fun k => [(0, .pointer (some ⟨b, 0, none⟩)), (1, .int .i64 a), (5, .int .i64 k)]) (fun _ => l) (fun k => k ≤ L.length ∧ ∀ j y, j < k → L[j]? = some y → y.id ≠ a) (fun k => L.length - k) 0 ⟨Nat.zero_le _, fun j y h => by omega⟩ ⟨rfl, rfl, rfl, trivial⟩ .refl ?_
  rintro k ⟨hk, hj⟩
  by_cases hlt : k < L.length
  · obtain ⟨bB, off, xs, t, fz, rfl, hmr, hc⟩ := hR (by omega)
    obtain ⟨x, hx⟩ : ∃ x, L[k]? = some x := ⟨_, List.getElem?_eq_getElem hlt⟩
    obtain ⟨g0, _⟩ := hc k x hx
    refine gz ?_
    by_cases hxs : x.id = a
    · rw [idx_hit hx hxs hj]
      refine gz ?_
      exact k_ret [] rfl .refl (by exact zRes) ⟨rfl, rfl⟩
    · refine gz ?_
      refine k_next (k + 1) ⟨by omega, fun j y h1 h2 => ?_⟩ (by omega) ⟨rfl, rfl, rfl, trivial⟩ .refl
      by_cases e : j = k
      · rw [e, hx] at h2; cases h2; exact hxs
      · exact hj j y (by omega) h2
  · obtain rfl : k = L.length := by omega
    rw [idx_neg (findH_none.2 fun y hy => by
      obtain ⟨j, hjy⟩ := List.mem_iff_getElem?.1 hy
      exact hj j y (List.getElem?_eq_some_iff.1 hjy).1 hjy)]
    refine gz ?_
    exact k_ret [] rfl .refl (by exact zRes) ⟨rfl, rfl⟩
theorem rget_any (b : Nat) (L : TL) (lr : List Chunk) (hr : IsRX b L lr) (hn : L.length ≤ 900000) (a : Int) (l : List Chunk) (hsub : ∀ c, c ∈ lr → c ∈ l) :
    Fn Tryz.prog 39 [.pointer (some ⟨b, 0, none⟩), .int .i64 a] l fun v l' => v = .tuple #[thV ((findH L a).getD thZ), .bool (findH L a).isSome] ∧ l' = l := by
  obtain ⟨p, cap, hm, _, hR⟩ := hr.view hsub
  refine fn_of_body Tryz.func39 rfl rfl fun E => ?_
  simp only [argF, Tryz.ntmps39]
  refine gz ?_
  refine t_e e_alloc rfl rfl rfl ?_; rintro _ _ ⟨b4, _, rfl, rfl⟩
  refine gz ?_
  refine t_q (q_call rfl rfl fun l2 hl => rat_any b L lr hr hn a l2 fun c hc => hl c (.tail _ (hsub c hc))) rfl rfl rfl ?_
  cases hf : findH L a with
  | none =>
    rw [idx_neg hf]
    refine gz ?_
    exact k_ret2 [] (thC b4 thZ :: l) rfl (l' := l) .refl (by exact zRes) (.drop .refl) ⟨rfl, rfl⟩
  | some t =>
    obtain ⟨A, B, hL, hi, ht, hA, hAt⟩ := idx_of hf
    have hlA : A.length < L.length := (List.getElem?_eq_some_iff.1 hAt).1
    rw [hi]
    obtain ⟨bB, off, xs, ty, fz, rfl, hmr, hc⟩ := hR (by omega)
    obtain ⟨_, _, g1, g2⟩ := hc _ t hAt
    refine gz ?_
    refine t_q (q_loadA rfl (.tail _ hmr) g1 g2) rfl rfl rfl ?_
    refine gz ?_
    exact k_ret2 [] (thC b4 t :: l) rfl (l' := l) .refl (by exact zRes) (.drop .refl) ⟨rfl, rfl⟩
theorem encH_ones (t : ThT) : ∀ u ∈ encH t, u.oneCell' = true := by simp [Value.oneCell']
theorem thcs_ones {L : TL} : ∀ u ∈ thcs L, u.oneCell' = true := fun u hu => by
  obtain ⟨t, _, h⟩ := List.mem_flatMap.1 hu
  exact encH_ones t u h
theorem thcs_app (A B : TL) : thcs (A ++ B) = thcs A ++ thcs B := List.flatMap_append
theorem thcs_l (A : TL) : (thcs A).length = A.length * 24 := by
  induction A with
  | nil => rfl
  | cons x r ih => rw [show x :: r = [x] ++ r from rfl, thcs_app, List.length_append, ih, List.length_append, Nat.add_mul]; rfl
theorem setFrom_mid : ∀ (us ws X Y : List Value), us.length = ws.length → setFrom (List.toArray (X ++ (us ++ Y))) X.length ws = List.toArray (X ++ (ws ++ Y))
  | [], [], X, Y, _ => rfl
  | u :: us, w :: ws, X, Y, h => by
    have h1 : (List.toArray (X ++ (u :: us ++ Y))).setIfInBounds X.length w = List.toArray ((X ++ [w]) ++ (us ++ Y)) := by
      apply Array.toList_inj.1
      rw [Array.toList_setIfInBounds]
      show (X ++ (u :: (us ++ Y))).set X.length w = _
      rw [List.set_append_right _ _ (by omega), Nat.sub_self, List.set_cons_zero]
      simp
    unfold setFrom
    rw [h1]
    have h2 := setFrom_mid us ws (X ++ [w]) Y (by simpa using h)
    rw [List.length_append] at h2
    rw [show X.length + 1 = X.length + [w].length from rfl, h2]
    simp
theorem set_thcs {A B : TL} {x t : ThT} {sp : List Value} : setFrom (List.toArray (thcs (A ++ x :: B) ++ sp)) (A.length * 24) (encH t) = List.toArray (thcs (A ++ t :: B) ++ sp) := by
  have e : ∀ y : ThT, thcs (A ++ y :: B) ++ sp = thcs A ++ (encH y ++ (thcs B ++ sp)) := fun y => by
    rw [show A ++ y :: B = A ++ ([y] ++ B) from rfl, thcs_app, thcs_app]
    simp [thcs]
  rw [e x, e t, ← thcs_l A]
  exact setFrom_mid _ _ _ _ rfl
theorem put_split {A B : TL} {x t : ThT} (h : (A ++ x :: B).Pairwise fun x y => x.id < y.id) (hx : x.id = t.id) : putH (A ++ x :: B) t = A ++ t :: B := by
  obtain ⟨_, h2, h3⟩ := List.pairwise_append.1 h
  have h4 := (List.pairwise_cons.1 h2).1
  unfold putH
  rw [List.map_append, List.map_cons, if_pos hx]
  have e1 : A.map (fun x => if x.id = t.id then t else x) = A := by
    conv => rhs; rw [← List.map_id A]
    apply List.map_congr_left
    intro y hy
    have := h3 y hy x List.mem_cons_self
    rw [if_neg (by omega)]; rfl
  have e2 : B.map (fun x => if x.id = t.id then t else x) = B := by
    conv => rhs; rw [← List.map_id B]
    apply List.map_congr_left
    intro y hy
    have := h4 y hy
    rw [if_neg (by omega)]; rfl
  rw [e1, e2]
theorem rset_any (b : Nat) (L : TL) (lr : List Chunk) (hr : IsRX b L lr) (hn : L.length ≤ 900000) (hs : L.Pairwise fun x y => x.id < y.id) (t : ThT) (G : List Chunk) :
    Fn Tryz.prog 40 [.pointer (some ⟨b, 0, none⟩), thV t] (lr ++ G) fun v l' => v = .int .i64 (setD L t).1 ∧ ∃ lr', IsRX b (setD L t).2 lr' ∧ l' = lr' ++ G := by
  have hr0 := hr
  obtain ⟨v, cs, rfl, ho⟩ := hr
  have hv1 : v.oneCell' = true := ho.one
  refine fn_of_body Tryz.func40 rfl rfl fun E => ?_
  simp only [argF, Tryz.ntmps40]
  refine gz ?_
  (first | refine t_e (e_box1 rfl rfl) rfl rfl rfl ?_ | refine t_e (e_boxA rfl) rfl rfl rfl ?_); rintro _ _ ⟨b3, _, rfl, rfl⟩
  refine gz ?_
  refine t_q (q_call rfl rfl fun l2 hl => rat_any b L _ hr0 hn t.id l2 fun c hc => hl c (.tail _ (List.mem_append_left _ hc))) rfl rfl rfl ?_
  refine gz ?_
  refine t_q (q_call rfl rfl fun l2 _ => rmay_any t l2) rfl rfl rfl ?_
  cases hM : mayH t with
  | false =>
    rw [show setD L t = (2, L) by unfold setD; rw [hM]; simp]
    refine gz ?_
    exact k_ret [] rfl (.drop .refl) (by exact zRes) ⟨rfl, _, hr0, rfl⟩
  | true =>
    cases hf : findH L t.id with
    | none =>
      rw [idx_neg hf, show setD L t = (2, L) by unfold setD; rw [hf]; simp]
      refine gz ?_
      exact k_ret [] rfl (.drop .refl) (by exact zRes) ⟨rfl, _, hr0, rfl⟩
    | some x =>
      obtain ⟨A, B, hL, hi, hx, hA, hAt⟩ := idx_of hf
      have hlA : A.length < L.length := (List.getElem?_eq_some_iff.1 hAt).1
      rw [hi, show setD L t = (0, A ++ t :: B) by unfold setD; rw [hf, hM]; simp only [Option.isSome_some, and_self, if_true]; rw [hL, put_split (by rw [← hL]; exact hs) hx]]
      simp only [List.cons_append]
      refine gz ?_
      refine t_e (e_copy (k := 24) (e := 76) (n := L.length) (xs := thcs L) (cs := cs) rfl rfl rfl ho (fun c hc => .tail _ (.tail _ (List.mem_append_left _ hc))) thcs_ones (by omega) (by decide)) rfl rfl rfl ?_
      rintro v1 _ ⟨c1, ho1, rfl⟩
      have hv2 : v1.oneCell' = true := ho1.one
      refine gz ?_
      refine t_n (e_store (b := b) (off := 0) (l' := c1 ++ (thC b3 t :: rxC b v1 :: (cs ++ G))) rfl rfl hv2 (upd_pre (.there .here) c1) (by simp)) rfl rfl ?_
      rintro _ _ ⟨rfl, rfl⟩
      rcases ho1.2 with ⟨_, h0, _⟩ | ⟨gb, cap, sp, rfl, rfl, hnc, hcm, hcl⟩
      · omega
      simp only [List.cons_append, List.nil_append]
      refine gz ?_
      refine c_draw [(0, true), (1, true), (2, true), (3, true), (4, true), (5, true), (6, true), (7, false)] [[], [0], [0, 1], [0, 1, 2], [], [], [0, 1, 2, 3, 4, 5], [0, 1, 2, 3, 4, 5, 6]] _ (by kernel_rfl) (by kernel_rfl) zAtt (fun c hc => List.Mem.tail _ hc) ?_
      refine pz ?_
      apply pl_n
      · exact e_storeA (b := gb) (off := A.length * 24) (cs := List.toArray (thcs L ++ sp)) (n := 24) rfl rfl rfl (by simp [Value.oneCell']) .here (by rw [List.size_toArray, List.length_append, thcs_l]; omega)
      · rfl
      · rfl
      · rintro _ _ ⟨rfl, rfl⟩ c hc
        exact .tail _ hc
      rintro _ _ ⟨rfl, rfl⟩
      have hS : setFrom (List.toArray (thcs L ++ sp)) (A.length * 24) (encH t) = List.toArray (thcs (A ++ t :: B) ++ sp) := by rw [hL]; exact set_thcs
      rw [hS]
      refine pz ?_
      refine gz ?_
      have hl2 : (A ++ t :: B).length = L.length := by rw [hL]; simp
      refine k_ret [] rfl (l' := rxC b (.slice (some ⟨gb, 0, none⟩) L.length cap) :: [(gb, .cells (List.toArray (thcs (A ++ t :: B) ++ sp)) 76 (0, 0))] ++ G) (Keep.trans (Keep.of_perm (List.perm_middle (l₁ := [_]))) (.drop (keep_new _ [_] cs G))) (by exact zRes) ⟨rfl, _, ⟨_, _, rfl, ?_⟩, rfl⟩
      rw [hl2]
      refine ⟨by rw [thcs_l, hl2], .inr ⟨gb, cap, sp, rfl, rfl, hnc, hcm, ?_⟩⟩
      rw [List.length_append, thcs_l, hl2, ← hcl, List.length_append, thcs_l]
theorem radd_any (b : Nat) (L : TL) (lr : List Chunk) (hr : IsRX b L lr) (hn : L.length ≤ 900000) (hs : L.Pairwise fun x y => x.id < y.id) (a : Int) (G : List Chunk) :
    Fn Tryz.prog 102 [.pointer (some ⟨b, 0, none⟩), .int .i64 a] (lr ++ G) fun v l' => v = .int .i64 (addD L a).1 ∧ ∃ lr', IsRX b (addD L a).2 lr' ∧ l' = lr' ++ G := by
  have hr0 := hr
  refine fn_of_body Tryz.func102 rfl rfl fun E => ?_
  simp only [argF, Tryz.ntmps102]
  by_cases h1 : a < 1
  · rw [show addD L a = (2, L) by unfold addD; rw [if_pos h1]]
    refine gz ?_
    exact k_ret [] rfl .refl (by exact zRes) ⟨rfl, _, hr0, rfl⟩
  refine gz ?_
  refine t_q (q_call rfl rfl fun l2 hl => rat_any b L _ hr0 hn a l2 fun c hc => hl c (List.mem_append_left _ hc)) rfl rfl rfl ?_
  cases hf : findH L a with
  | some x =>
    obtain ⟨A, B, hL, hi, hx, hA, hAt⟩ := idx_of hf
    rw [hi, show addD L a = (11, L) by unfold addD; rw [if_neg h1, hf]; rfl]
    refine gz ?_
    exact k_ret [] rfl .refl (by exact zRes) ⟨rfl, _, hr0, rfl⟩
  | none =>
    rw [idx_neg hf, show addD L a = (0, insH L (thNew a)) by unfold addD; rw [if_neg h1, hf]; rfl]
    obtain ⟨v, cs, rfl, ho⟩ := hr
    have hv1 : v.oneCell' = true := ho.one
    obtain ⟨W, hW⟩ : ∃ W, W = L.takeWhile (fun x => decide (x.id < a)) := ⟨_, rfl⟩
    obtain ⟨Z, hZ⟩ : ∃ Z, Z = L.dropWhile (fun x => decide (x.id < a)) := ⟨_, rfl⟩
    have hL : L = W ++ Z := by rw [hW, hZ]; exact (List.takeWhile_append_dropWhile ..).symm
    have hWa : ∀ x, x ∈ W → x.id < a := fun x hx => by rw [hW] at hx; simpa using List.all_eq_true.1 (List.all_takeWhile (l := L) (p := fun x => decide (x.id < a))) x hx
    have hne := findH_none.1 hf
    have hZa : ∀ x, x ∈ Z → a < x.id := fun x hx => by
      cases hd : Z with
      | nil => rw [hd] at hx; cases hx
      | cons y r =>
        have hy : ¬ y.id < a := by
          have := List.head?_dropWhile_not (fun x : ThT => decide (x.id < a)) L
          rw [← hZ, hd] at this; simpa using this
        have h3 := hne y (by rw [hL, hd]; simp)
        have h4 := hs
        rw [hL, hd] at h4
        have h5 := (List.pairwise_cons.1 (List.pairwise_append.1 h4).2.1).1
        rw [hd] at hx
        rcases List.mem_cons.1 hx with rfl | hx
        · omega
        · have := h5 x hx; omega
    obtain ⟨R, hR⟩ : ∃ R, R = insH L (thNew a) := ⟨_, rfl⟩
    have hR2 : R = W ++ thNew a :: Z := by rw [hR]; unfold insH; rw [← hW, ← hZ]
    rw [← hR]
    have hlR : R.length = L.length + 1 := by rw [hR2, hL]; simp; omega
    have hlL : L.length = W.length + Z.length := by rw [hL]; simp
    obtain ⟨p, cap, hm, _, hRS⟩ := hr0.view (l := rxC b v :: cs ++ G) fun c hc => List.mem_append_left _ hc
    obtain ⟨cnt, hcnt⟩ : ∃ cnt : Nat → Nat, cnt = fun i => if i ≤ W.length then i else i + 1 := ⟨_, rfl⟩
    refine gz ?_
    refine t_e e_alloc rfl rfl rfl ?_; rintro _ _ ⟨b5, _, rfl, rfl⟩
    refine gz ?_
    obtain ⟨F, hF⟩ : ∃ F, F = thC b5 (thNew a) :: (rxC b v :: cs ++ G) := ⟨_, rfl⟩
    refine c_keep (Keep.of_perm (l' := F) (.of_eq (by rw [hF]))) ?_
    have hmF : thC b5 (thNew a) ∈ F := by rw [hF]; exact .head _
    have hmF2 : rxC b (.slice p L.length cap) ∈ F := by rw [hF]; exact .tail _ hm
    refine k_loop (α := Nat × Value × List Chunk) (fun x => [(0, .pointer (some ⟨b, 0, none⟩)), (1, .int .i64 a), (5, .pointer (some ⟨b5, 0, none⟩)), (6, x.2.1), (7, .bool (decide (W.length < x.1))), (8, .int .i64 x.1)]) (fun x => x.2.2 ++ F) (fun x => x.1 ≤ L.length ∧ OwnSl 76 24 x.2.1 (R.take (cnt x.1)).length (thcs (R.take (cnt x.1))) x.2.2) (fun x => L.length - x.1) (0, .slice none 0 0, []) ⟨Nat.zero_le _, by rw [hcnt]; exact OwnSl.nil _ _⟩ ⟨rfl, rfl, rfl, rfl, by rw [decide_eq_false (show ¬ W.length < 0 by omega)]; rfl, rfl, trivial⟩ .refl ?_
    rintro ⟨i, w, cv⟩ ⟨hi, hw⟩
    dsimp only at hi hw ⊢
    have hm3 : rxC b (.slice p L.length cap) ∈ cv ++ F := List.mem_append_right _ hmF2
    have hm4 : thC b5 (thNew a) ∈ cv ++ F := List.mem_append_right _ hmF
    by_cases hlt : i < L.length
    · obtain ⟨bB, off, xs, ty, fz, rfl, hmr0, hc⟩ := hRS (by omega)
      have hmr : (bB, Obj.cells xs ty fz) ∈ F := by rw [hF]; exact .tail _ hmr0
      have hmr5 : (bB, Obj.cells xs ty fz) ∈ cv ++ F := List.mem_append_right _ hmr
      obtain ⟨x, hx⟩ : ∃ x, L[i]? = some x := ⟨_, List.getElem?_eq_getElem hlt⟩
      obtain ⟨g0, _, g1, g2⟩ := hc i x hx
      rcases Nat.lt_trichotomy i W.length with k1 | k1 | k1
      · have hxa : x.id < a := hWa x (List.mem_of_getElem? (i := i) (by rw [hL, List.getElem?_append_left k1] at hx; exact hx))
        have hc1 : cnt (i + 1) = cnt i + 1 := by rw [hcnt]; simp only; rw [if_pos (by omega), if_pos (by omega)]
        have hRi : R[cnt i]? = some x := by
          rw [hcnt, hR2]; simp only; rw [if_pos (by omega), List.getElem?_append_left k1]
          rw [hL, List.getElem?_append_left k1] at hx; exact hx
        rw [decide_eq_false (show ¬ W.length < i by omega)]
        refine gz ?_
        refine t_q (q_loadA rfl (List.mem_append_right _ hmr) g1 g2) rfl rfl rfl ?_
        refine gz ?_
        refine t_e (e_litA (k := 24) (e := 76) (ws := encH x) rfl rfl rfl (by decide) (by decide)) rfl rfl rfl ?_
        rintro _ _ ⟨bl, _, rfl, rfl⟩
        refine t_e (e_appX (k := 24) (X := []) (cs := cv) (F := F) (xs := thcs (R.take (cnt i))) (n := (R.take (cnt i)).length) (ws := encH x) rfl rfl rfl hw rfl (by simp [Value.oneCell']) (by simp only [List.length_take]; omega) (by decide)) rfl rfl rfl ?_
        rintro w2 _ ⟨cv2, hw2, rfl⟩
        have hw9 : w2.oneCell' = true := hw2.one
        refine gz ?_
        refine k_next (i + 1, w2, cv2) ⟨by simp only; omega, ?_⟩ (by simp only; omega) ⟨rfl, rfl, rfl, rfl, by rw [decide_eq_false (show ¬ W.length < i + 1 by omega)]; rfl, rfl, trivial⟩ .refl
        simp only
        rw [hc1, List.take_add_one, hRi, Option.toList_some, thcs_snoc, List.length_append]; exact hw2
      · have hxa : a < x.id := hZa x (List.mem_of_getElem? (i := 0) (by rw [hL, List.getElem?_append_right (by omega), show i - W.length = 0 by omega] at hx; exact hx))
        have hc1 : cnt (i + 1) = cnt i + 1 + 1 := by rw [hcnt]; simp only; rw [if_neg (by omega), if_pos (by omega)]
        have hRi : R[cnt i]? = some (thNew a) := by
          rw [hcnt, hR2]; simp only; rw [if_pos (by omega), List.getElem?_append_right (by omega), show i - W.length = 0 by omega]; rfl
        have hRj : R[cnt i + 1]? = some x := by
          rw [hcnt, hR2]; simp only; rw [if_pos (by omega), List.getElem?_append_right (by omega), show i + 1 - W.length = 0 + 1 by omega, List.getElem?_cons_succ]
          rw [hL, List.getElem?_append_right (by omega), show i - W.length = 0 by omega] at hx; exact hx
        rw [decide_eq_false (show ¬ W.length < i by omega)]
        refine gz ?_
        refine t_e (e_litA (k := 24) (e := 76) (ws := encH (thNew a)) rfl rfl rfl (by decide) (by decide)) rfl rfl rfl ?_
        rintro _ _ ⟨bl, _, rfl, rfl⟩
        refine t_e (e_appX (k := 24) (X := []) (cs := cv) (F := F) (xs := thcs (R.take (cnt i))) (n := (R.take (cnt i)).length) (ws := encH (thNew a)) rfl rfl rfl hw rfl (by simp [Value.oneCell']) (by simp only [List.length_take]; omega) (by decide)) rfl rfl rfl ?_
        rintro w1 _ ⟨cv1, hw1, rfl⟩
        have hw8 : w1.oneCell' = true := hw1.one
        have hmF3 : rxC b (.slice (some ⟨bB, off, none⟩) L.length cap) ∈ cv1 ++ F := List.mem_append_right _ hmF2
        simp only [List.nil_append]
        refine gz ?_
        refine t_q (q_loadA rfl (List.mem_append_right _ hmr) g1 g2) rfl rfl rfl ?_
        refine gz ?_
        refine t_e (e_litA (k := 24) (e := 76) (ws := encH x) rfl rfl rfl (by decide) (by decide)) rfl rfl rfl ?_
        rintro _ _ ⟨bl, _, rfl, rfl⟩
        refine t_e (e_appX (k := 24) (X := []) (cs := cv1) (F := F) (xs := thcs (R.take (cnt i)) ++ encH (thNew a)) (n := (R.take (cnt i)).length + 1) (ws := encH x) rfl rfl rfl hw1 rfl (by simp [Value.oneCell']) (by simp only [List.length_take]; omega) (by decide)) rfl rfl rfl ?_
        rintro w2 _ ⟨cv2, hw2, rfl⟩
        have hw9 : w2.oneCell' = true := hw2.one
        refine gz ?_
        refine k_next (i + 1, w2, cv2) ⟨by simp only; omega, ?_⟩ (by simp only; omega) ⟨rfl, rfl, rfl, rfl, by rw [decide_eq_true (show W.length < i + 1 by omega)]; rfl, rfl, trivial⟩ .refl
        simp only
        rw [hc1, List.take_add_one, hRj, List.take_add_one, hRi, Option.toList_some, Option.toList_some, thcs_snoc, thcs_snoc, List.length_append, List.length_append]; exact hw2
      · have hc1 : cnt (i + 1) = cnt i + 1 := by rw [hcnt]; simp only; rw [if_neg (by omega), if_neg (by omega)]
        have hRi : R[cnt i]? = some x := by
          rw [hcnt, hR2]; simp only; rw [if_neg (by omega), List.getElem?_append_right (by omega), show i + 1 - W.length = (i - W.length) + 1 by omega, List.getElem?_cons_succ]
          rw [hL, List.getElem?_append_right (by omega)] at hx; exact hx
        rw [decide_eq_true (show W.length < i by omega)]
        refine gz ?_
        refine t_q (q_loadA rfl (List.mem_append_right _ hmr) g1 g2) rfl rfl rfl ?_
        refine gz ?_
        refine t_e (e_litA (k := 24) (e := 76) (ws := encH x) rfl rfl rfl (by decide) (by decide)) rfl rfl rfl ?_
        rintro _ _ ⟨bl, _, rfl, rfl⟩
        refine t_e (e_appX (k := 24) (X := []) (cs := cv) (F := F) (xs := thcs (R.take (cnt i))) (n := (R.take (cnt i)).length) (ws := encH x) rfl rfl rfl hw rfl (by simp [Value.oneCell']) (by simp only [List.length_take]; omega) (by decide)) rfl rfl rfl ?_
        rintro w2 _ ⟨cv2, hw2, rfl⟩
        have hw9 : w2.oneCell' = true := hw2.one
        refine gz ?_
        refine k_next (i + 1, w2, cv2) ⟨by simp only; omega, ?_⟩ (by simp only; omega) ⟨rfl, rfl, rfl, rfl, by rw [decide_eq_true (show W.length < i + 1 by omega)]; rfl, rfl, trivial⟩ .refl
        simp only
        rw [hc1, List.take_add_one, hRi, Option.toList_some, thcs_snoc, List.length_append]; exact hw2
    · obtain rfl : i = L.length := by omega
      by_cases hZ0 : W.length < L.length
      · have hcl : cnt L.length = R.length := by rw [hcnt]; simp only; rw [if_neg (by omega)]; omega
        rw [hcl, List.take_length] at hw
        have hw1 : w.oneCell' = true := hw.one
        rw [decide_eq_true hZ0]
        refine gz ?_
        rw [hF]
        refine t_n (e_store (b := b) (off := 0) (l' := cv ++ (thC b5 (thNew a) :: (rxC b w :: cs ++ G))) rfl rfl hw1 (upd_pre (.there .here) cv) (by simp)) rfl rfl ?_
        rintro _ _ ⟨rfl, rfl⟩
        refine gz ?_
        exact k_ret [] rfl (l' := rxC b w :: cv ++ G) (Keep.trans (.of_perm List.perm_middle) (.drop (keep_new _ cv cs G))) (by exact zRes) ⟨rfl, _, ⟨_, _, rfl, hw⟩, rfl⟩
      · have hcl : cnt L.length = L.length := by rw [hcnt]; simp only; rw [if_pos (by omega)]
        have hRe : R = R.take L.length ++ [thNew a] := by
          have hZn : Z = [] := List.eq_nil_of_length_eq_zero (by omega)
          rw [hR2, hZn, show L.length = W.length by omega, List.take_left' rfl]
        rw [hcl] at hw
        have hw0 : w.oneCell' = true := hw.one
        rw [decide_eq_false hZ0]
        refine gz ?_
        refine t_e (e_litA (k := 24) (e := 76) (ws := encH (thNew a)) rfl rfl rfl (by decide) (by decide)) rfl rfl rfl ?_
        rintro _ _ ⟨bl, _, rfl, rfl⟩
        refine t_e (e_appX (k := 24) (X := []) (cs := cv) (F := F) (xs := thcs (R.take L.length)) (n := (R.take L.length).length) (ws := encH (thNew a)) rfl rfl rfl hw rfl (by simp [Value.oneCell']) (by simp only [List.length_take]; omega) (by decide)) rfl rfl rfl ?_
        rintro w1 _ ⟨cv1, hw1, rfl⟩
        have hw8 : w1.oneCell' = true := hw1.one
        refine gz ?_
        rw [hF]
        refine t_n (e_store (b := b) (off := 0) (l' := cv1 ++ (thC b5 (thNew a) :: (rxC b w1 :: cs ++ G))) rfl rfl hw8 (upd_pre (.there .here) cv1) (by simp)) rfl rfl ?_
        rintro _ _ ⟨rfl, rfl⟩
        refine gz ?_
        refine k_ret [] rfl (l' := rxC b w1 :: cv1 ++ G) (Keep.trans (.of_perm List.perm_middle) (.drop (keep_new _ cv1 cs G))) (by exact zRes) ⟨rfl, _, ⟨_, _, rfl, ?_⟩, rfl⟩
        rw [hRe, List.length_append, thcs_snoc]; exact hw1
end Go.Proofs.YtcjknmpogkofpaaGreat.Th
namespace Go.Proofs.YtcjknmpogkofpaaGreat.Qu
open Go.RowKit
set_option maxRecDepth 20000
theorem idxOf_at (id : Int) : ∀ (xs : List Int) (k : Nat), xs[k]? = some id → (∀ j, j < k → xs[j]? ≠ some id) → xs.idxOf id = k ∧ id ∈ xs
  | [], k, h, _ => by simp at h
  | x :: xs, 0, h, _ => by
    simp only [List.getElem?_cons_zero, Option.some.injEq] at h
    subst h; simp
  | x :: xs, k + 1, h, hn => by
    have h0 : x ≠ id := fun e => hn 0 (by omega) (by simp [e])
    have ih := idxOf_at id xs k (by simpa using h) fun j hj => by simpa using hn (j + 1) (by omega)
    refine ⟨?_, List.mem_cons_of_mem _ ih.2⟩
    rw [List.idxOf_cons, show (x == id) = false by simpa using h0, ih.1]; rfl
def indexI (xs : List Int) (id : Int) : Int := if id ∈ xs then (xs.idxOf id : Nat) else -1
set_option maxHeartbeats 400000
theorem index_any (v : Value) (xs : List Int) (id : Int) (l : List Chunk) (h1 : IntSl l v xs) (hx : xs.length ≤ 1000000) :
    Fn Tryz.prog 198 [v, .int .i64 id] l fun r l' => r = .int .i64 (indexI xs id) ∧ l' = l := by
  obtain ⟨a, ca, rfl, h1⟩ := h1
  refine fn_of_body Tryz.func198 rfl rfl fun E => ?_
  simp only [argF, Tryz.ntmps198]
  refine gz ?_
  refine k_loop (α := Nat) (fun k => [(0, .slice a xs.length ca), (1, .int .i64 id), (7, .int .i64 xs.length), (8, .int .i64 k)]) (fun k => l) (fun k => k ≤ xs.length ∧ ∀ j, j < k → xs[j]? ≠ some id) (fun k => xs.length - k) 0 ⟨Nat.zero_le _, fun j h => by omega⟩ ⟨rfl, rfl, rfl, rfl, trivial⟩ .refl ?_
  rintro k ⟨hk, hj⟩
  by_cases hlt : k < xs.length
  · obtain ⟨b, off, cs, t, fz, rfl, hm, hc⟩ := h1 (by omega)
    have g1 := hc k _ (List.getElem?_eq_getElem hlt)
    obtain ⟨x, hx0⟩ : ∃ x, xs[k] = x := ⟨_, rfl⟩
    rw [hx0] at g1
    have e1 : xs[k]? = some x := by rw [List.getElem?_eq_getElem hlt, hx0]
    by_cases hxy : id = x
    · subst hxy
      obtain ⟨i1, i2⟩ := idxOf_at id xs k e1 hj
      refine gz ?_
      refine k_ret [] rfl .refl (by exact zRes) ⟨?_, rfl⟩
      simp only [tup, indexI, if_pos i2, i1]
    · refine gz ?_
      exact k_next (k + 1) ⟨by omega, fun j hjk => by
        by_cases e : j = k
        · subst e; rw [e1]; intro h; exact hxy (by cases h; rfl)
        · exact hj j (by omega)⟩ (by omega) ⟨rfl, rfl, rfl, rfl, trivial⟩ .refl
  · obtain rfl : k = xs.length := by omega
    refine gz ?_
    refine k_ret [] rfl .refl (by exact zRes) ⟨?_, rfl⟩
    have : id ∉ xs := fun hm => by
      obtain ⟨j, hjl, hj2⟩ := List.getElem_of_mem hm
      exact hj j hjl (by rw [List.getElem?_eq_getElem hjl, hj2])
    simp only [tup, indexI, if_neg this]
def upd {α : Type} (f : Nat → α) (k : Nat) (v : α) : Nat → α := fun i => if i = k then v else f i
theorem upd_same {α : Type} (f : Nat → α) (k : Nat) (v : α) : upd f k v k = v := if_pos rfl
theorem upd_other {α : Type} (f : Nat → α) (k i : Nat) (v : α) (h : i ≠ k) : upd f k v i = f i := if_neg h
theorem upd_upd {α : Type} (f : Nat → α) (k : Nat) (v w : α) : upd (upd f k v) k w = upd f k w := by funext i; unfold upd; split <;> rfl
abbrev qC (b : Nat) (vs : Nat → Value) : Chunk := (b, .cells (Array.ofFn (n := 8) fun i => vs i.val) 269 (0, 0))
theorem qC_get (vs : Nat → Value) (p : Nat) (hp : p < 8) : (Array.ofFn (n := 8) fun i => vs i.val)[p * 1]? = some (vs p) := by simp [hp]
theorem qC_set (vs : Nat → Value) (p : Nat) (hp : p < 8) (v : Value) : (Array.ofFn (n := 8) fun i => vs i.val).setIfInBounds (p * 1) v = Array.ofFn (n := 8) fun i => upd vs p v i.val := by
  apply Array.ext_getElem?
  intro j
  rw [Nat.mul_one]
  by_cases hj : j < 8
  · by_cases e : p = j
    · subst e; rw [Array.getElem?_setIfInBounds_self_of_lt (by simpa using hp)]; simp [hp, upd_same]
    · rw [Array.getElem?_setIfInBounds_ne e]; simp [hj, upd_other _ _ _ _ (Ne.symm e)]
  · rw [Array.getElem?_eq_none (by simpa using hj), Array.getElem?_eq_none (by simpa using hj)]
def csTo (cs : Nat → List Chunk) : Nat → List Chunk
  | 0 => []
  | k + 1 => cs k ++ csTo cs k
theorem csTo_congr {cs cs' : Nat → List Chunk} : ∀ k, (∀ i, i < k → cs i = cs' i) → csTo cs k = csTo cs' k
  | 0, _ => rfl
  | k + 1, h => by rw [csTo, csTo, h k (by omega), csTo_congr k fun i hi => h i (by omega)]
theorem csTo_split (cs : Nat → List Chunk) (p : Nat) : ∀ k, p < k → (csTo cs k).Perm (cs p ++ csTo (upd cs p []) k)
  | 0, h => by omega
  | k + 1, h => by
    by_cases e : p = k
    · subst e
      rw [csTo, csTo, upd_same, List.nil_append, csTo_congr p fun i hi => (upd_other cs p i [] (by omega)).symm]
    · rw [csTo, csTo, upd_other _ _ _ _ (Ne.symm e)]
      exact ((csTo_split cs p k (by omega)).append_left _).trans (List.perm_append_comm_assoc _ _ _)
theorem csTo_mem (cs : Nat → List Chunk) (p : Nat) (c : Chunk) (hc : c ∈ cs p) : ∀ k, p < k → c ∈ csTo cs k
  | 0, h => by omega
  | k + 1, h => by
    rw [csTo, List.mem_append]
    by_cases e : p = k
    · subst e; exact .inl hc
    · exact .inr (csTo_mem cs p c hc k (by omega))
structure QS (X : Nat → List Int) (vs : Nat → Value) (cs : Nat → List Chunk) : Prop where
  own : ∀ p, p < 8 → OwnSl 3 1 (vs p) (X p).length ((X p).map intQ) (cs p)
theorem QS.upd {X : Nat → List Int} {vs : Nat → Value} {cs : Nat → List Chunk} (h : QS X vs cs) (p : Nat) (ys : List Int) (v : Value) (c : List Chunk) (ho : OwnSl 3 1 v ys.length (ys.map intQ) c) : QS (upd X p ys) (upd vs p v) (upd cs p c) := ⟨fun q hq => by
  by_cases e : q = p
  · subst e; rw [upd_same, upd_same, upd_same]; exact ho
  · rw [upd_other _ _ _ _ e, upd_other _ _ _ _ e, upd_other _ _ _ _ e]; exact h.own q hq⟩
def IsQ (b : Nat) (X : Nat → List Int) (lq : List Chunk) : Prop := ∃ vs cs, QS X vs cs ∧ lq = qC b vs :: csTo cs 8
theorem QS.ints {X : Nat → List Int} {vs : Nat → Value} {cs : Nat → List Chunk} (h : QS X vs cs) (p : Nat) (hp : p < 8) (l : List Chunk) (hs : ∀ c, c ∈ csTo cs 8 → c ∈ l) : IntSl l (vs p) (X p) := (h.own p hp).intsQ fun c hc => hs c (csTo_mem cs p c hc 8 hp)
def fallT (ne : Nat → Bool) (m : Nat) : List Nat := ((List.range (8 - m)).map (7 - ·)).filter ne
theorem fallT_succ (ne : Nat → Bool) (p : Nat) (hp : p < 8) : fallT ne p = fallT ne (p + 1) ++ if ne p then [p] else [] := by
  unfold fallT
  rw [show 8 - p = (8 - (p + 1)) + 1 by omega, List.range_succ, List.map_append, List.filter_append]
  congr 1
  simp only [List.map_cons, List.map_nil, show 7 - (8 - (p + 1)) = p by omega, List.filter_cons, List.filter_nil]
theorem fallT_pre (ne : Nat → Bool) : ∀ (d m : Nat), m + d ≤ 8 → fallT ne (m + d) <+: fallT ne m
  | 0, m, _ => List.prefix_rfl
  | d + 1, m, h => by
    rw [← Nat.add_assoc, show m + d + 1 = (m + d) + 1 from rfl]
    refine List.IsPrefix.trans ?_ (fallT_pre ne d m (by omega))
    rw [fallT_succ ne (m + d) (by omega)]
    exact List.prefix_append _ _
theorem fallT_mem (ne : Nat → Bool) (m p : Nat) : p ∈ fallT ne m ↔ m ≤ p ∧ p < 8 ∧ ne p = true := by
  unfold fallT
  simp only [List.mem_filter, List.mem_map, List.mem_range]
  constructor
  · rintro ⟨⟨i, hi, rfl⟩, h⟩; exact ⟨by omega, by omega, h⟩
  · rintro ⟨h1, h2, h3⟩; exact ⟨⟨7 - p, by omega, by omega⟩, h3⟩
theorem falling_any (pv : Option Addr) (l : List Chunk) : Fn Tryz.prog 130 [.pointer pv] l fun v l' => ∃ B, (∀ c, c ∈ l → c.1 ≠ B) ∧ v = .func (.func 181) #[] #[.pointer (some ⟨B, 0, none⟩)] ∧ l' = (B, .cells #[.pointer pv] 125 (0, 0)) :: l := by
  refine fn_of_body Tryz.func130 rfl rfl fun E => ?_
  simp only [argF, Tryz.ntmps130]
  refine gz ?_
  refine t_e (e_box1 rfl rfl) rfl rfl rfl ?_
  rintro _ _ ⟨B, hB, rfl, rfl⟩
  refine gz ?_
  exact k_ret [] rfl .refl (by exact zRes) ⟨B, hB, rfl, rfl⟩
theorem fall_iter (B b : Nat) (vs : Nat → Value) (ns : Nat → Nat) (hv : ∀ p, p < 8 → ∃ a cap, vs p = .slice a (ns p) cap) : IterS Tryz.prog 181 [.pointer (some ⟨B, 0, none⟩)] (fun p : Nat => [.int .i64 (p : Nat), vs p]) (fun xs => xs = fallT (fun p => ns p != 0) 0) (fun pre => pre <+: fallT (fun p => ns p != 0) 0)
    (fun _ l => (B, .cells #[.pointer (some ⟨b, 0, none⟩)] 125 (0, 0)) ∈ l ∧ qC b vs ∈ l) := by
  obtain ⟨ne, hne⟩ : ∃ ne, (fun p => ns p != 0) = ne := ⟨_, rfl⟩
  rw [hne]
  have hne' : ∀ p, ne p = (ns p != 0) := fun p => by rw [← hne]
  refine ⟨fun r I Ix G0 hneed hY l G hG h0 => ?_⟩
  refine fn_of_body Tryz.func181 rfl rfl fun E => ?_
  simp only [argF, Tryz.ntmps181]
  obtain ⟨hm1, hm2⟩ := hneed _ _ G hG h0
  refine gz ?_
  refine k_loop (α := Nat × List Chunk) (fun x => [(0, .func (.yield r) #[] #[]), (1, .pointer (some ⟨B, 0, none⟩)), (3, .int .i64 ((x.1 : Nat) - 1))]) (fun x => x.2 ++ G) (fun x => x.1 ≤ 8 ∧ I (fallT ne x.1) x.2) (fun x => x.1) (8, l) ⟨by simp, h0⟩ ⟨rfl, rfl, rfl, trivial⟩ .refl ?_
  clear hm1 hm2
  rintro ⟨k, l⟩ ⟨hk, hI⟩
  simp only at hk hI ⊢
  cases k with
  | zero =>
    refine gz ?_
    exact k_ret [] rfl .refl (by exact zRes) ⟨l, rfl, .inl ⟨_, rfl, hI⟩⟩
  | succ p =>
    rw [show ((p + 1 : Nat) : Int) - 1 = (p : Int) by omega]
    obtain ⟨hm1, hm2⟩ := hneed _ _ G hG hI
    obtain ⟨a, cap, hvp⟩ := hv p (by omega)
    have hg := qC_get vs p (by omega)
    rw [hvp] at hg
    have e1 := fallT_succ ne p (by omega)
    by_cases hz : ns p = 0
    · rw [show ne p = false by rw [hne', hz]; rfl] at e1
      simp only [Bool.false_eq_true, if_false, List.append_nil] at e1
      refine gz ?_
      exact k_next (p, l) ⟨by simp only; omega, by simp only; rw [e1]; exact hI⟩ (by simp) ⟨rfl, rfl, rfl, trivial⟩ .refl
    · rw [show ne p = true by rw [hne']; simpa using hz] at e1
      simp only [if_true] at e1
      have hsp : fallT ne (p + 1) ++ [p] <+: fallT ne 0 := by
        rw [← e1]; have := fallT_pre ne p 0 (by omega); rwa [Nat.zero_add] at this
      have hy := hY (fallT ne (p + 1)) p l G hG hI hsp
      rw [← e1, hvp] at hy
      refine gz ?_
      refine t_e (e_yield rfl rfl hy) rfl rfl rfl ?_
      rintro v l' ⟨l1, rfl, ⟨rfl, hI'⟩ | ⟨rfl, hx⟩⟩
      · refine gz ?_
        exact k_next (p, l1) ⟨by simp only; omega, hI'⟩ (by simp) ⟨rfl, rfl, rfl, trivial⟩ .refl
      · refine gz ?_
        exact k_ret [] rfl .refl (by exact zRes) ⟨l1, rfl, .inr ⟨_, by rw [e1]; exact hsp, hx⟩⟩
theorem find_prefix {α : Type} (f : α → Bool) (pre l : List α) (i : α) (h : pre ++ [i] <+: l) (hp : ∀ j ∈ pre, f j = false) (hi : f i = true) : l.find? f = some i := by
  obtain ⟨rest, rfl⟩ := h
  rw [List.append_assoc, List.find?_append, List.find?_eq_none.2 (fun j hj => by simp [hp j hj])]
  simp [hi]
def neX (X : Nat → List Int) : Nat → Bool := fun p => (X p).length != 0
def findP (X : Nat → List Int) (id : Int) : Option Nat := (fallT (neX X) 0).find? fun p => decide (id ∈ X p)
def atQ (X : Nat → List Int) (id : Int) : Int × Int := match findP X id with | some p => ((p : Nat), ((X p).idxOf id : Nat)) | none => (-1, -1)
theorem QS.shape {X : Nat → List Int} {vs : Nat → Value} {cs : Nat → List Chunk} (h : QS X vs cs) : ∀ p, p < 8 → ∃ a cap, vs p = .slice a ((fun p => (X p).length) p) cap := fun p hp => (h.own p hp).shape
theorem at_any (b : Nat) (X : Nat → List Int) (lq : List Chunk) (id : Int) (hq : IsQ b X lq) (hb : ∀ p, p < 8 → (X p).length ≤ 1000000) (l : List Chunk) (hsub : ∀ c, c ∈ lq → c ∈ l) :
    Fn Tryz.prog 156 [.pointer (some ⟨b, 0, none⟩), .int .i64 id] l fun v l' => v = .tuple #[.int .i64 (atQ X id).1, .int .i64 (atQ X id).2] ∧ l' = l := by
  obtain ⟨vs, cs, hqs, rfl⟩ := hq
  have hsub2 : ∀ c, c ∈ csTo cs 8 → c ∈ l := fun c hc => hsub c (List.mem_cons_of_mem _ hc)
  refine fn_of_body Tryz.func156 rfl rfl fun E => ?_
  simp only [argF, Tryz.ntmps156]
  refine gz ?_
  (first | refine t_e (e_box1 rfl rfl) rfl rfl rfl ?_ | refine t_e (e_boxA rfl) rfl rfl rfl ?_); rintro _ _ ⟨b3, _, rfl, rfl⟩
  refine gz ?_
  refine t_e e_alloc rfl rfl rfl ?_; rintro _ _ ⟨b4, _, rfl, rfl⟩
  refine gz ?_
  refine t_e e_alloc rfl rfl rfl ?_; rintro _ _ ⟨b5, _, rfl, rfl⟩
  refine gz ?_
  refine t_e (e_call rfl rfl (falling_any _ _)) rfl rfl rfl ?_
  rintro v l' ⟨B, hB, rfl, rfl⟩
  refine gz ?_
  refine c_range (α := Nat) (ps := [11, 12]) (lb := [.pointer (some ⟨B, 0, none⟩)]) rfl (fall_iter B b vs (fun p => (X p).length) hqs.shape) (fun _ => rfl) rfl
    (fun pre l => l = [(B, .cells #[.pointer (some ⟨b, 0, none⟩)] 125 (0, 0)), (b5, .cells #[.int .i64 0] 3 (0, 0)), (b4, .cells #[.int .i64 0] 3 (0, 0)), (b3, .cells #[.int .i64 id] 3 (0, 0))] ∧ ∀ j ∈ pre, id ∉ X j)
    (fun c pre l => c = .ret ∧ ∃ (pre' : List Nat) (p : Nat), pre = pre' ++ [p] ∧ (∀ j ∈ pre', id ∉ X j) ∧ id ∈ X p ∧ l = [(b4, .cells #[.int .i64 (p : Nat)] 3 (0, 0)), (b5, .cells #[.int .i64 ((X p).idxOf id : Nat)] 3 (0, 0))])
    _ l (fun pre l2 X2 hX h => ⟨by rw [h.1]; exact List.Mem.head _, List.mem_append_right _ (hX _ (hsub _ List.mem_cons_self))⟩) (by exact zKeep) ⟨rfl, by simp⟩ ?_ ?_ ?_
  · rintro E r0 rec pre y l' T ⟨fn, tmps, D, rfl⟩ hT ⟨rfl, hpre⟩ hsp
    have hy := (fallT_mem _ _ _).1 (List.IsPrefix.subset hsp (List.mem_append_right _ List.mem_cons_self))
    simp only [putPs, List.cons_append, List.nil_append]
    refine gz ?_
    refine p_begin (by exact zUpd) ?_
    refine gz ?_
    refine t_q (q_call rfl rfl (fun l2 hl => index_any (vs y) (X y) id l2 (hqs.ints y hy.2.1 l2 fun c hc => hl c (by simp [hT c (hsub2 c hc)])) (hb y hy.2.1))) rfl rfl rfl ?_
    by_cases hin : id ∈ X y
    · rw [show indexI (X y) id = ((X y).idxOf id : Nat) from if_pos hin]
      refine gz ?_
      refine p_round_ret [(b4, .cells #[.int .i64 (y : Nat)] 3 (0, 0)), (b5, .cells #[.int .i64 ((X y).idxOf id : Nat)] 3 (0, 0))] (by exact zKeep) ⟨rfl, pre, y, rfl, hpre, hin, rfl⟩
    · rw [show indexI (X y) id = -1 from if_neg hin]
      refine gz ?_
      refine p_round _ .refl ⟨rfl, fun j hj => ?_⟩
      rcases List.mem_append.1 hj with hj | hj
      · exact hpre j hj
      · simp at hj; subst hj; exact hin
  · rintro D xs l' rfl ⟨rfl, hpre⟩
    have hno : findP X id = none := List.find?_eq_none.2 fun j hj => by simp [hpre j hj]
    simp only [List.cons_append, List.nil_append]
    refine gz ?_
    exact k_ret2 [D] ((b4, .cells #[.int .i64 (-1)] 3 (0, 0)) :: (b5, .cells #[.int .i64 (-1)] 3 (0, 0)) :: l) rfl (l' := l) (by exact zKeep) (by exact zRes) (by exact zKeep) ⟨by simp [tup, atQ, hno], rfl⟩
  · rintro D c pre l' hsp ⟨rfl, pre', p, rfl, hp', hi, rfl⟩
    have hfd : findP X id = some p := find_prefix _ pre' _ p hsp (fun j hj => by simp [hp' j hj]) (by simp [hi])
    simp only [List.cons_append, List.nil_append]
    refine gz ?_
    exact k_ret2 [D] ((b4, .cells #[.int .i64 (p : Nat)] 3 (0, 0)) :: (b5, .cells #[.int .i64 ((X p).idxOf id : Nat)] 3 (0, 0)) :: l) rfl (l' := l) (by exact zKeep) (by exact zRes) (by exact zKeep) ⟨by simp [tup, atQ, hfd], rfl⟩
theorem has_any (b : Nat) (X : Nat → List Int) (lq : List Chunk) (id : Int) (hq : IsQ b X lq) (hb : ∀ p, p < 8 → (X p).length ≤ 1000000) (l : List Chunk) (hsub : ∀ c, c ∈ lq → c ∈ l) :
    Fn Tryz.prog 155 [.pointer (some ⟨b, 0, none⟩), .int .i64 id] l fun v l' => v = .bool (findP X id).isSome ∧ l' = l := by
  have H := at_any b X lq id hq hb
  refine fn_of_body Tryz.func155 rfl rfl fun E => ?_
  simp only [argF, Tryz.ntmps155]
  refine gz ?_
  cases hf : findP X id with
  | none =>
    rw [show atQ X id = (-1, -1) by unfold atQ; rw [hf]] at H
    dsimp only at H
    refine t_q (q_call rfl rfl (fun l2 hl => H l2 fun c hc => hl c (hsub c hc))) rfl rfl rfl ?_
    refine gz ?_
    exact k_ret [] rfl .refl (by exact zRes) ⟨rfl, rfl⟩
  | some p =>
    rw [show atQ X id = (((p : Nat) : Int), (((X p).idxOf id : Nat) : Int)) by unfold atQ; rw [hf]] at H
    dsimp only at H
    refine t_q (q_call rfl rfl (fun l2 hl => H l2 fun c hc => hl c (hsub c hc))) rfl rfl rfl ?_
    refine gz ?_
    refine k_ret [] rfl .refl (by exact zRes) ⟨?_, rfl⟩
    simp [tup]
def allX (X : Nat → List Int) (pre : List Nat) : List Int := pre.flatMap X
theorem allX_snoc (X : Nat → List Int) (pre : List Nat) (y : Nat) : allX X (pre ++ [y]) = allX X pre ++ X y := by simp [allX]
theorem allX_len (X : Nat → List Int) (N : Nat) : ∀ (pre : List Nat), (∀ p ∈ pre, (X p).length ≤ N) → (allX X pre).length ≤ pre.length * N
  | [], _ => by simp [allX]
  | p :: pre, h => by
    have h1 := h p List.mem_cons_self
    have h2 := allX_len X N pre fun q hq => h q (List.mem_cons_of_mem _ hq)
    unfold allX at h2 ⊢
    rw [List.flatMap_cons, List.length_append, List.length_cons, Nat.succ_mul]; omega
theorem fallT_len (ne : Nat → Bool) : (fallT ne 0).length ≤ 8 := by
  unfold fallT; refine Nat.le_trans (List.length_filter_le _ _) ?_; simp
theorem all_any (b : Nat) (X : Nat → List Int) (lq : List Chunk) (hq : IsQ b X lq) (hb : ∀ p, p < 8 → (X p).length ≤ 1000000) (l : List Chunk) (hsub : ∀ c, c ∈ lq → c ∈ l) :
    Fn Tryz.prog 52 [.pointer (some ⟨b, 0, none⟩)] l fun v l' => ∃ cs, OwnSl 3 1 v (allX X (fallT (neX X) 0)).length ((allX X (fallT (neX X) 0)).map intQ) cs ∧ l' = cs ++ l := by
  obtain ⟨vs, cs, hqs, rfl⟩ := hq
  have hsub2 : ∀ c, c ∈ csTo cs 8 → c ∈ l := fun c hc => hsub c (List.mem_cons_of_mem _ hc)
  refine fn_of_body Tryz.func52 rfl rfl fun E => ?_
  simp only [argF, Tryz.ntmps52]
  refine gz ?_
  refine t_e e_alloc rfl rfl rfl ?_; rintro _ _ ⟨b3, _, rfl, rfl⟩
  refine gz ?_
  refine t_e (e_call rfl rfl (falling_any _ _)) rfl rfl rfl ?_
  rintro v l' ⟨B, hB, rfl, rfl⟩
  refine gz ?_
  refine c_range (α := Nat) (ps := [8, 9]) (lb := [.pointer (some ⟨B, 0, none⟩)]) rfl (fall_iter B b vs (fun p => (X p).length) hqs.shape) (fun _ => rfl) rfl
    (fun pre l => ∃ v cs, OwnSl 3 1 v (allX X pre).length ((allX X pre).map intQ) cs ∧ l = [(B, .cells #[.pointer (some ⟨b, 0, none⟩)] 125 (0, 0)), (b3, .cells #[v] 25 (0, 0))] ++ cs)
    (fun c pre l => False)
    _ l (fun pre l2 X2 hX h => by obtain ⟨v, cs, _, rfl⟩ := h; exact ⟨List.Mem.head _, List.mem_append_right _ (hX _ (hsub _ List.mem_cons_self))⟩) (by exact zKeep) ⟨_, [], OwnSl.nil _ _, rfl⟩ ?_ ?_ ?_
  · rintro E r0 rec pre y l' T ⟨fn, tmps, D, rfl⟩ hT ⟨v, cs', hown, rfl⟩ hsp
    have hy := (fallT_mem _ _ _).1 (List.IsPrefix.subset hsp (List.mem_append_right _ List.mem_cons_self))
    have hn0 : 0 < (X y).length := by have := hy.2.2; simp at this; exact List.length_pos_iff.2 this
    have hplen : pre.length < 8 := by have h1 := List.IsPrefix.length_le hsp; have h2 := fallT_len (fun p => (X p).length != 0); simp at h1; omega
    have hlen : (allX X pre).length ≤ 8000000 := by
      refine Nat.le_trans (allX_len X 1000000 pre fun p hp => hb p ?_) (by omega)
      exact ((fallT_mem _ _ _).1 (List.IsPrefix.subset hsp (List.mem_append_left _ hp))).2.1
    have hby := hb y hy.2.1
    obtain ⟨a, cap, hv, hI⟩ := hqs.ints y hy.2.1 (csTo cs 8) (fun _ h => h)
    obtain ⟨gb, off, cc, t, fz, rfl, hm, hc⟩ := hI hn0
    have hmT : (gb, Obj.cells cc t fz) ∈ T := hT _ (hsub2 _ hm)
    simp only [putPs, List.cons_append, List.nil_append]
    rw [hv]
    refine gz ?_
    refine p_begin (.there (.there (upd_mid _ _ _ _ _))) ?_
    refine gz ?_
    refine s_keep (Keep.of_perm (List.perm_append_comm_assoc [(B, .cells #[.pointer (some ⟨b, 0, none⟩)] 125 (0, 0)), (b3, .cells #[v] 25 (0, 0))] cs' _)) ?_
    apply t_e
    · apply ce_append (xs := (allX X pre).map intQ) (news := (X y).map intQ) (zs := [.int .i64 0]) (cl := cc)
      · rfl
      · rfl
      · rfl
      · exact hown
      · exact List.mem_append_right _ (.tail _ (.tail _ (.tail _ hmT)))
      · intro j u hj
        rw [List.getElem?_map, Option.map_eq_some_iff] at hj
        obtain ⟨x, hx, rfl⟩ := hj
        have := hc j x hx; rwa [Nat.mul_one] at this
      · simp
      · intro u hu; rw [List.mem_map] at hu; obtain ⟨a, _, rfl⟩ := hu; rfl
      · unfold maxLen; omega
      · omega
    · rfl
    · rfl
    · rfl
    rintro v' _ ⟨cs2, hown', rfl⟩
    have hv1 : v'.oneCell' = true := hown'.one
    refine s_keep (Keep.of_perm (List.perm_append_comm_assoc cs2 [(B, .cells #[.pointer (some ⟨b, 0, none⟩)] 125 (0, 0)), (b3, .cells #[v] 25 (0, 0))] _)) ?_
    simp only [List.cons_append, List.nil_append]
    refine gz ?_
    refine p_round _ (.refl) ⟨v', cs2, ?_, rfl⟩
    rw [allX_snoc, List.length_append, List.map_append]; exact hown'
  · rintro D xs l' rfl ⟨v, cs', hown, rfl⟩
    simp only [List.cons_append, List.nil_append]
    refine gz ?_
    refine k_ret2 [D] (cs' ++ l) rfl (l' := cs' ++ l) (by exact zKeep) (by exact zRes) .refl ?_
    exact ⟨cs', hown, rfl⟩
  · rintro D c pre l' hsp h
    exact h.elim
def noX : Nat → List Int := fun _ => []
theorem noX_own : QS noX (fun _ => .slice none 0 0) (fun _ => []) := ⟨fun p hp => OwnSl.nil _ _⟩
theorem noX_cells (v : Value) : (Array.ofFn (n := 8) fun i => (fun _ => v) i.val) = List.toArray [v, v, v, v, v, v, v, v] := by kernel_rfl
theorem new_any (l : List Chunk) : Fn Tryz.prog 70 [] l fun v l' => ∃ b, v = .pointer (some ⟨b, 0, none⟩) ∧ ∃ lq, IsQ b noX lq ∧ l' = lq ++ l := by
  refine fn_of_body Tryz.func70 rfl rfl fun E => ?_
  simp only [argF, Tryz.ntmps70]
  refine gz ?_
  refine t_e (e_boxA rfl) rfl rfl rfl ?_
  rintro _ _ ⟨b, hb, rfl, rfl⟩
  refine gz ?_
  exact k_ret [] rfl .refl (by exact zRes) ⟨b, rfl, [qC b fun _ => .slice none 0 0], ⟨_, _, noX_own, rfl⟩, by rw [qC, noX_cells]; rfl⟩
theorem OpE.re {P : Program} {ro : Option Nat} {N : Nat} {fr : Fr} {l l2 : List Chunk} {o : Oper} {K K' : Value → List Chunk → Prop} (k : Keep l l2) (h : OpE P ro N fr l2 o K) (hk : ∀ v l', K v l' → ∃ l3, Keep l' l3 ∧ K' v l3) : OpE P ro N fr l o K' :=
  ⟨h.nodef, fun E a W hf hs => (h.val E a W hf (k.sat hs)).mono fun v W' ⟨l', h1, h2⟩ => by
    obtain ⟨l3, h3, h4⟩ := hk v l' h1
    exact ⟨l3, h4, h3.sat h2⟩⟩
theorem csTo_join (cs : Nat → List Chunk) (p : Nat) (hp : p < 8) (c : List Chunk) : (c ++ csTo (upd cs p []) 8).Perm (csTo (upd cs p c) 8) := by
  have h := csTo_split (upd cs p c) p 8 hp
  rw [upd_same, upd_upd] at h
  exact h.symm
section
variable {ro : Option Nat} {N : Nat} {fr : Fr} {d : Option Nat} {ty : TypeId} {pos : String} {aft : Array Edge} {g : Option (Nat × Bool)}
theorem e_qapp {s x : Operand} {X : Nat → List Int} {vs : Nat → Value} {cs : Nat → List Chunk} {p b bl : Nat} {id : Int} {F : List Chunk} (hqs : QS X vs cs) (hp : p < 8) (hlen : (X p).length ≤ 1000000) (hx : ev fr s = some (vs p)) (hy : ev fr x = some (.slice (some ⟨bl, 0, none⟩) 1 1)) :
    OpE Tryz.prog ro N fr ((bl, .cells (List.toArray [.int .i64 id]) 3 (0, 0)) :: qC b vs :: (csTo cs 8 ++ F)) ⟨d, .call { callee := .builtin .append, args := #[s, x], argTypes := #[25, 25] }, ty, pos, aft, g⟩
      (fun v' l' => ∃ c2, OwnSl 3 1 v' (X p ++ [id]).length ((X p ++ [id]).map intQ) c2 ∧ l' = qC b vs :: (csTo (upd cs p c2) 8 ++ F)) := by
  have hpm : ((bl, Obj.cells (List.toArray [.int .i64 id]) 3 (0, 0)) :: qC b vs :: (csTo cs 8 ++ F)).Perm (cs p ++ ((bl, Obj.cells (List.toArray [.int .i64 id]) 3 (0, 0)) :: qC b vs :: (csTo (upd cs p []) 8 ++ F))) := by
    refine (List.Perm.cons _ (List.Perm.cons _ ((csTo_split cs p 8 hp).append_right F))).trans ?_
    rw [List.append_assoc]
    exact List.perm_append_comm_assoc [(bl, Obj.cells (List.toArray [.int .i64 id]) 3 (0, 0)), qC b vs] (cs p) _
  refine OpE.re (Keep.of_perm hpm) (ce_append (k := 1) (yb := 8) (xs := (X p).map intQ) (news := [.int .i64 id]) (zs := [.int .i64 0]) hx hy rfl (hqs.own p hp) (List.mem_append_right _ List.mem_cons_self) (fun j u hj => by simpa using hj) rfl (by simp [Value.oneCell']) (by unfold maxLen; omega) (by omega)) ?_
  rintro v' _ ⟨c2, ho, rfl⟩
  refine ⟨_, ?_, c2, by rw [List.length_append, List.map_append]; exact ho, rfl⟩
  refine Keep.trans (Keep.of_perm (List.perm_append_comm_assoc c2 [(bl, Obj.cells (List.toArray [.int .i64 id]) 3 (0, 0)), qC b vs] _)) (.drop (.of_perm ?_))
  refine List.Perm.cons _ ?_
  show List.Perm (c2 ++ (csTo (upd cs p []) 8 ++ F)) _
  rw [← List.append_assoc]
  exact (csTo_join cs p hp c2).append_right F
end
def addQ (X : Nat → List Int) (id prio : Int) : Int × (Nat → List Int) :=
  if id < 1 ∨ prio < 0 ∨ 7 < prio then (2, X) else if (findP X id).isSome then (16, X) else (0, upd X prio.toNat (X prio.toNat ++ [id]))
theorem add_any (b : Nat) (X : Nat → List Int) (lq : List Chunk) (id prio : Int) (hq : IsQ b X lq) (hb : ∀ p, p < 8 → (X p).length ≤ 1000000) (F : List Chunk) :
    Fn Tryz.prog 91 [.pointer (some ⟨b, 0, none⟩), .int .i64 id, .int .i64 prio] (lq ++ F) fun v l' => v = .int .i64 (addQ X id prio).1 ∧ ∃ lq', IsQ b (addQ X id prio).2 lq' ∧ l' = lq' ++ F := by
  have H := has_any b X lq id hq hb
  obtain ⟨vs, cs, hqs, rfl⟩ := hq
  refine fn_of_body Tryz.func91 rfl rfl fun E => ?_
  simp only [argF, Tryz.ntmps91]
  simp only [List.cons_append]
  by_cases h0 : id < 1 ∨ prio < 0 ∨ 7 < prio
  · have e : addQ X id prio = (2, X) := if_pos h0
    rw [e]
    rcases h0 with h0 | h0 | h0
    · refine gz ?_
      exact k_ret [] rfl .refl (by exact zRes) ⟨rfl, _, ⟨vs, cs, hqs, rfl⟩, rfl⟩
    · by_cases h1 : id < 1
      · refine gz ?_
        exact k_ret [] rfl .refl (by exact zRes) ⟨rfl, _, ⟨vs, cs, hqs, rfl⟩, rfl⟩
      · refine gz ?_
        exact k_ret [] rfl .refl (by exact zRes) ⟨rfl, _, ⟨vs, cs, hqs, rfl⟩, rfl⟩
    · by_cases h1 : id < 1
      · refine gz ?_
        exact k_ret [] rfl .refl (by exact zRes) ⟨rfl, _, ⟨vs, cs, hqs, rfl⟩, rfl⟩
      · refine gz ?_
        exact k_ret [] rfl .refl (by exact zRes) ⟨rfl, _, ⟨vs, cs, hqs, rfl⟩, rfl⟩
  · obtain ⟨p, rfl⟩ : ∃ p : Nat, prio = p := ⟨prio.toNat, by omega⟩
    have hp : p < 8 := by omega
    refine gz ?_
    refine t_q (q_call rfl rfl (fun l2 hl => H l2 fun c hc => hl c (List.mem_append_left F hc))) rfl rfl rfl ?_
    cases hf : (findP X id).isSome with
    | true =>
      have e : addQ X id p = (16, X) := by unfold addQ; rw [if_neg h0, if_pos hf]
      rw [e]
      refine gz ?_
      exact k_ret [] rfl .refl (by exact zRes) ⟨rfl, _, ⟨vs, cs, hqs, rfl⟩, rfl⟩
    | false =>
      have e : addQ X id p = (0, upd X p (X p ++ [id])) := by unfold addQ; rw [if_neg h0, if_neg (by rw [hf]; simp), Int.toNat_natCast]
      rw [e]
      have hg := qC_get vs p hp
      obtain ⟨v, hv⟩ : ∃ v, vs p = v := ⟨_, rfl⟩
      rw [hv] at hg
      refine gz ?_
      refine c_draw [(0, true), (1, true), (2, true), (3, true), (4, true), (5, true), (6, true), (7, true), (8, true), (11, true), (12, true), (9, false), (10, false), (13, true), (14, false)] [[], [], [], [], [2], [2, 4], [2, 3, 4, 5], [2, 3, 4, 5, 6], [], [8], [2, 3, 4, 5, 6, 7, 8, 9], [0], [0, 11], [0, 1, 2, 3, 4, 5, 6, 7, 8, 9, 10, 11, 12], [0, 1, 2, 3, 4, 5, 6, 7, 8, 9, 10, 11, 12, 13]] ([]) (by kernel_rfl) (by kernel_rfl) zAtt zHR ?_
      refine pz ?_
      apply pl_s (S := [qC b vs])
      · exact q_load rfl List.mem_cons_self hg
      · intro c hc; cases hc with
        | head => exact List.mem_cons_self
        | tail _ h => cases h
      · rfl
      · rfl
      · rfl
      refine pz ?_
      apply pl_eS
      · exact e_lit1 rfl rfl
      · rfl
      · rfl
      · rfl
      · intro _ _ _ c hc; cases hc
      · rintro _ _ ⟨bl, _, rfl, rfl⟩ x hx _ c hc
        cases hx with
        | head => cases hc with
          | head => exact .tail _ (.head _)
          | tail _ h => cases h
        | tail _ h => cases h
      rintro _ _ ⟨bl, _, rfl, rfl⟩
      refine pz ?_
      apply pl_eS
      · exact e_qapp hqs hp (hb p hp) (by rw [hv]; rfl) rfl
      · rfl
      · rfl
      · rfl
      · intro _ _ _ c hc; cases hc
      · exact fun _ _ _ x hx ha => anc_all (by kernel_rfl) hx ha
      rintro v' _ ⟨c2, ho, rfl⟩
      have hv1 : v'.oneCell' = true := ho.one
      refine pz ?_
      apply pl_nS
      · exact e_store rfl rfl hv1 .here (by simp [hp])
      · rfl
      · rfl
      · intro _ _ _ c hc; cases hc
      · exact fun _ _ _ x hx ha => anc_all (by kernel_rfl) hx ha
      rintro _ _ ⟨rfl, rfl⟩
      rw [qC_set vs p hp v']
      refine pz ?_
      refine gz ?_
      refine k_ret [] rfl .refl (by exact zRes) ⟨rfl, _, ⟨_, _, hqs.upd p _ v' c2 ho, rfl⟩, rfl⟩
def oneC (L : List (Int × Int)) : List Value := L.flatMap fun y => [.int .i64 y.1, .int .i64 y.2]
theorem oneC_append (L M : List (Int × Int)) : oneC (L ++ M) = oneC L ++ oneC M := by simp [oneC]
theorem oneC_cons (y : Int × Int) (L : List (Int × Int)) : oneC (y :: L) = .int .i64 y.1 :: .int .i64 y.2 :: oneC L := rfl
theorem oneC_len (L : List (Int × Int)) : (oneC L).length = L.length * 2 := by
  induction L with
  | nil => rfl
  | cons y L ih => rw [oneC_cons, List.length_cons, List.length_cons, ih, List.length_cons]; omega
theorem oneC_get : ∀ (L : List (Int × Int)) (i : Nat) (y : Int × Int), L[i]? = some y → (oneC L)[i * 2]? = some (.int .i64 y.1) ∧ (oneC L)[i * 2 + 1]? = some (.int .i64 y.2)
  | [], i, y, h => by simp at h
  | z :: L, 0, y, h => by
    simp only [List.getElem?_cons_zero, Option.some.injEq] at h
    subst h; exact ⟨rfl, rfl⟩
  | z :: L, i + 1, y, h => by
    obtain ⟨h1, h2⟩ := oneC_get L i y (by simpa using h)
    rw [oneC_cons, Nat.succ_mul]
    exact ⟨by simpa using h1, by simpa using h2⟩
def OneSl (l : List Chunk) (v : Value) (L : List (Int × Int)) : Prop :=
  ∃ a cap, v = .slice a L.length cap ∧ (0 < L.length → ∃ b off cs t fz, a = some ⟨b, off, none⟩ ∧ (b, Obj.cells cs t fz) ∈ l ∧ ∀ i y, L[i]? = some y → cs[off + i * 2]? = some (.int .i64 y.1) ∧ cs[off + i * 2 + 1]? = some (.int .i64 y.2) ∧ off + i * 2 + 2 ≤ cs.size ∧ cs.extract (off + i * 2) (off + i * 2 + 2) = List.toArray [.int .i64 y.1, .int .i64 y.2])
theorem ext2 {cs : Array Value} {k : Nat} {x y : Value} (h1 : cs[k]? = some x) (h2 : cs[k + 1]? = some y) : k + 2 ≤ cs.size ∧ cs.extract k (k + 2) = List.toArray [x, y] := by
  have hlt := (Array.getElem?_eq_some_iff.1 h2).1
  refine ⟨by omega, ?_⟩
  apply Array.ext_getElem?
  intro j
  rw [Array.getElem?_extract]
  by_cases hj : j < 2
  · rw [if_pos (by omega)]
    match j, hj with
    | 0, _ => simpa using h1
    | 1, _ => simpa using h2
  · rw [if_neg (by omega)]
    simp; omega
theorem OwnSl.ones {e : Nat} {v : Value} {L : List (Int × Int)} {cs l : List Chunk} (h : OwnSl e 2 v L.length (oneC L) cs) (hs : ∀ c, c ∈ cs → c ∈ l) : OneSl l v L := by
  rcases h.2 with ⟨rfl, h0, rfl⟩ | ⟨b, cap, sp, rfl, rfl, _⟩
  · exact ⟨none, 0, by rw [h0], fun h => by omega⟩
  · refine ⟨_, cap, rfl, fun h0 => ⟨b, 0, _, e, (0, 0), rfl, hs _ List.mem_cons_self, fun i y hy => ?_⟩⟩
    have hlt := (List.getElem?_eq_some_iff.1 hy).1
    obtain ⟨h1, h2⟩ := oneC_get L i y hy
    have k1 : (List.toArray (oneC L ++ sp))[0 + i * 2]? = some (.int .i64 y.1) := by
      rw [Nat.zero_add, List.getElem?_toArray, List.getElem?_append_left (by rw [oneC_len]; omega)]; exact h1
    have k2 : (List.toArray (oneC L ++ sp))[0 + i * 2 + 1]? = some (.int .i64 y.2) := by
      rw [Nat.zero_add, List.getElem?_toArray, List.getElem?_append_left (by rw [oneC_len]; omega)]; exact h2
    obtain ⟨k3, k4⟩ := ext2 k1 k2
    exact ⟨k1, k2, k3, k4⟩
abbrev rqC (b : Nat) (v : Value) : Chunk := (b, .cells #[v] 203 (0, 0))
def IsR (b : Nat) (L : List (Int × Int)) (lr : List Chunk) : Prop := ∃ v cs, OwnSl 249 2 v L.length (oneC L) cs ∧ lr = rqC b v :: cs
def fsts (L : List (Int × Int)) : List Int := L.map Prod.fst
theorem fsts_len (L : List (Int × Int)) : (fsts L).length = L.length := by simp [fsts]
theorem fsts_get (L : List (Int × Int)) (i : Nat) (y : Int × Int) (h : L[i]? = some y) : (fsts L)[i]? = some y.1 := by simp [fsts, h]
theorem rat_any (b : Nat) (L : List (Int × Int)) (lr : List Chunk) (id : Int) (hr : IsR b L lr) (hn : L.length ≤ 1000000) (l : List Chunk) (hsub : ∀ c, c ∈ lr → c ∈ l) :
    Fn Tryz.prog 168 [.pointer (some ⟨b, 0, none⟩), .int .i64 id] l fun v l' => v = .int .i64 (indexI (fsts L) id) ∧ l' = l := by
  obtain ⟨v, cs, ho, rfl⟩ := hr
  have hq : rqC b v ∈ l := hsub _ List.mem_cons_self
  obtain ⟨a, cap, rfl, hI⟩ := (OwnSl.ones ho) fun c hc => hsub c (List.mem_cons_of_mem _ hc)
  refine fn_of_body Tryz.func168 rfl rfl fun E => ?_
  simp only [argF, Tryz.ntmps168]
  refine gz ?_
  refine k_loop (α := Nat) (fun k => [(0, .pointer (some ⟨b, 0, none⟩)), (1, .int .i64 id), (5, .int .i64 k)]) (fun k => l) (fun k => k ≤ L.length ∧ ∀ j, j < k → (fsts L)[j]? ≠ some id) (fun k => L.length - k) 0 ⟨Nat.zero_le _, fun j h => by omega⟩ ⟨rfl, rfl, rfl, trivial⟩ .refl ?_
  rintro k ⟨hk, hj⟩
  by_cases hlt : k < L.length
  · obtain ⟨gb, off, cc, t, fz, rfl, hm, hc⟩ := hI (by omega)
    obtain ⟨y, hy⟩ : ∃ y, L[k]? = some y := ⟨_, List.getElem?_eq_getElem hlt⟩
    have e1 := fsts_get L k y hy
    obtain ⟨g1, g2, _, _⟩ := hc k y hy
    by_cases hxy : y.1 = id
    · rw [hxy] at e1
      obtain ⟨i1, i2⟩ := idxOf_at id _ k e1 hj
      refine gz ?_
      refine k_ret [] rfl .refl (by exact zRes) ⟨?_, rfl⟩
      simp only [tup, indexI, if_pos i2, i1]
    · refine gz ?_
      exact k_next (k + 1) ⟨by omega, fun j hjk => by
        by_cases e : j = k
        · subst e; rw [e1]; intro h; exact hxy (by cases h; rfl)
        · exact hj j (by omega)⟩ (by omega) ⟨rfl, rfl, rfl, trivial⟩ .refl
  · obtain rfl : k = L.length := by omega
    refine gz ?_
    refine k_ret [] rfl .refl (by exact zRes) ⟨?_, rfl⟩
    have : id ∉ fsts L := fun hm => by
      obtain ⟨j, hjl, hj2⟩ := List.getElem_of_mem hm
      exact hj j (by rw [fsts_len] at hjl; exact hjl) (by rw [List.getElem?_eq_getElem hjl, hj2])
    simp only [tup, indexI, if_neg this]
theorem rhas_any (b : Nat) (L : List (Int × Int)) (lr : List Chunk) (id : Int) (hr : IsR b L lr) (hn : L.length ≤ 1000000) (l : List Chunk) (hsub : ∀ c, c ∈ lr → c ∈ l) :
    Fn Tryz.prog 119 [.pointer (some ⟨b, 0, none⟩), .int .i64 id] l fun v l' => v = .bool (decide (id ∈ fsts L)) ∧ l' = l := by
  have H := rat_any b L lr id hr hn
  refine fn_of_body Tryz.func119 rfl rfl fun E => ?_
  simp only [argF, Tryz.ntmps119]
  refine gz ?_
  by_cases hin : id ∈ fsts L
  · rw [show indexI (fsts L) id = (((fsts L).idxOf id : Nat) : Int) from if_pos hin] at H
    refine t_q (q_call rfl rfl (fun l2 hl => H l2 fun c hc => hl c (hsub c hc))) rfl rfl rfl ?_
    refine gz ?_
    refine k_ret [] rfl .refl (by exact zRes) ⟨?_, rfl⟩
    simp [tup, hin]
  · rw [show indexI (fsts L) id = -1 from if_neg hin] at H
    refine t_q (q_call rfl rfl (fun l2 hl => H l2 fun c hc => hl c (hsub c hc))) rfl rfl rfl ?_
    refine gz ?_
    refine k_ret [] rfl .refl (by exact zRes) ⟨?_, rfl⟩
    simp [tup, hin]
theorem rall_any (b : Nat) (L : List (Int × Int)) (lr : List Chunk) (hr : IsR b L lr) (hn : L.length ≤ 1000000) (l : List Chunk) (hsub : ∀ c, c ∈ lr → c ∈ l) :
    Fn Tryz.prog 55 [.pointer (some ⟨b, 0, none⟩)] l fun v l' => ∃ cs, OwnSl 3 1 v (fsts L).length ((fsts L).map intQ) cs ∧ l' = cs ++ l := by
  obtain ⟨v, cs, ho, rfl⟩ := hr
  have hq : rqC b v ∈ l := hsub _ List.mem_cons_self
  obtain ⟨a, cap, rfl, hI⟩ := (OwnSl.ones ho) fun c hc => hsub c (List.mem_cons_of_mem _ hc)
  refine fn_of_body Tryz.func55 rfl rfl fun E => ?_
  simp only [argF, Tryz.ntmps55]
  refine gz ?_
  refine k_loop (α := Nat × Value × List Chunk) (fun x => [(0, .pointer (some ⟨b, 0, none⟩)), (3, x.2.1), (4, .int .i64 x.1)]) (fun x => x.2.2 ++ l) (fun x => x.1 ≤ L.length ∧ OwnSl 3 1 x.2.1 x.1 (((fsts L).take x.1).map intQ) x.2.2) (fun x => L.length - x.1) (0, .slice none 0 0, []) ⟨Nat.zero_le _, OwnSl.nil _ _⟩ ⟨rfl, rfl, rfl, trivial⟩ .refl ?_
  rintro ⟨k, u, cs2⟩ ⟨hk, hown⟩
  simp only at hk hown ⊢
  have hq' : rqC b (.slice a L.length cap) ∈ cs2 ++ l := List.mem_append_right _ hq
  by_cases hlt : k < L.length
  · obtain ⟨gb, off, cc, t, fz, rfl, hm, hc⟩ := hI (by omega)
    obtain ⟨y, hy⟩ : ∃ y, L[k]? = some y := ⟨_, List.getElem?_eq_getElem hlt⟩
    have e1 := fsts_get L k y hy
    obtain ⟨g1, g2, _, _⟩ := hc k y hy
    have hm' : (gb, Obj.cells cc t fz) ∈ cs2 ++ l := List.mem_append_right _ hm
    refine gz ?_
    refine t_e (e_lit1 rfl rfl) rfl rfl rfl ?_
    rintro _ _ ⟨bl, _, rfl, rfl⟩
    refine s_keep (Keep.of_perm List.perm_middle.symm) ?_
    apply t_e
    · apply ce_append (xs := ((fsts L).take k).map intQ) (news := [.int .i64 y.1]) (zs := [.int .i64 0])
      · rfl
      · rfl
      · rfl
      · exact hown
      · exact List.mem_append_right _ List.mem_cons_self
      · intro j u hj; simpa using hj
      · rfl
      · simp [Value.oneCell']
      · unfold maxLen; omega
      · omega
    · rfl
    · rfl
    · rfl
    rintro v' _ ⟨cs3, ho3, rfl⟩
    have hv1 : v'.oneCell' = true := ho3.one
    refine gz ?_
    refine k_next (k + 1, v', cs3) ⟨hlt, ?_⟩ (by simp only; omega) ⟨rfl, rfl, rfl, trivial⟩ (Keep.trans (Keep.of_perm List.perm_middle) (.drop .refl))
    simp only
    rw [List.take_add_one, e1, List.map_append]
    exact ho3
  · obtain rfl : k = L.length := by omega
    refine gz ?_
    refine k_ret [] rfl .refl (by exact zRes) ?_
    refine ⟨cs2, ?_, rfl⟩
    rw [← fsts_len, List.take_length] at hown
    exact hown
def insF (id prio : Int) (s : List (Int × Int) × Bool) (y : Int × Int) : List (Int × Int) × Bool :=
  if s.2 = false ∧ y.2 < prio then (s.1 ++ [(id, prio)] ++ [y], true) else (s.1 ++ [y], s.2)
def insL (L : List (Int × Int)) (id prio : Int) : List (Int × Int) :=
  if (L.foldl (insF id prio) ([], false)).2 = true then (L.foldl (insF id prio) ([], false)).1 else (L.foldl (insF id prio) ([], false)).1 ++ [(id, prio)]
def raddQ (L : List (Int × Int)) (id prio : Int) : Int × List (Int × Int) :=
  if id < 1 ∨ prio < 0 ∨ 7 < prio then (2, L) else if id ∈ fsts L then (16, L) else (0, insL L id prio)
theorem fold_succ (L : List (Int × Int)) (id prio : Int) (k : Nat) (y : Int × Int) (h : L[k]? = some y) : (L.take (k + 1)).foldl (insF id prio) ([], false) = insF id prio ((L.take k).foldl (insF id prio) ([], false)) y := by
  rw [List.take_add_one, h, List.foldl_append]; rfl
theorem keep_swap (x : Chunk) (c0 c2 F : List Chunk) : Keep (c2 ++ x :: (c0 ++ F)) (x :: (c2 ++ F)) :=
  ⟨c0, (List.perm_middle.trans ((List.perm_append_comm_assoc c2 c0 F).cons x)).trans List.perm_middle.symm⟩
section
variable {ro : Option Nat} {N : Nat} {fr : Fr} {d : Option Nat} {ty : TypeId} {pos : String} {aft : Array Edge} {g : Option (Nat × Bool)}
theorem e_rapp {s x : Operand} {v : Value} {acc : List (Int × Int)} {y : Int × Int} {cs F : List Chunk} {bl : Nat} (hx : ev fr s = some v) (hy : ev fr x = some (.slice (some ⟨bl, 0, none⟩) 1 1)) (hown : OwnSl 249 2 v acc.length (oneC acc) cs) (hlen : acc.length ≤ 1000000) :
    OpE Tryz.prog ro N fr ((bl, .cells (List.toArray [.int .i64 y.1, .int .i64 y.2]) 249 (0, 0)) :: (cs ++ F)) ⟨d, .call { callee := .builtin .append, args := #[s, x], argTypes := #[201, 201] }, ty, pos, aft, g⟩
      (fun v' l' => ∃ c2, OwnSl 249 2 v' (acc ++ [y]).length (oneC (acc ++ [y])) c2 ∧ l' = c2 ++ F) := by
  refine OpE.re (Keep.of_perm List.perm_middle.symm) (ce_append (k := 2) (yb := 16) (m := 1) (xs := oneC acc) (news := [.int .i64 y.1, .int .i64 y.2]) (zs := [.int .i64 0, .int .i64 0]) hx hy rfl hown (List.mem_append_right _ List.mem_cons_self) (fun j u hj => by simpa using hj) rfl (by simp [Value.oneCell']) (by unfold maxLen; omega) (by omega)) ?_
  rintro v' _ ⟨c2, ho, rfl⟩
  exact ⟨_, Keep.trans (Keep.of_perm List.perm_middle) (.drop .refl), c2, by rw [List.length_append, oneC_append]; exact ho, rfl⟩
end
theorem radd_any (b : Nat) (L : List (Int × Int)) (lr : List Chunk) (id prio : Int) (hr : IsR b L lr) (hn : L.length ≤ 900000) (F : List Chunk) :
    Fn Tryz.prog 120 [.pointer (some ⟨b, 0, none⟩), .int .i64 id, .int .i64 prio] (lr ++ F) fun v l' => v = .int .i64 (raddQ L id prio).1 ∧ ∃ lr', IsR b (raddQ L id prio).2 lr' ∧ l' = lr' ++ F := by
  have H := rat_any b L lr id hr (by omega)
  refine fn_of_body Tryz.func120 rfl rfl fun E => ?_
  simp only [argF, Tryz.ntmps120]
  by_cases h0 : id < 1 ∨ prio < 0 ∨ 7 < prio
  · have e : raddQ L id prio = (2, L) := if_pos h0
    rw [e]
    rcases h0 with h0 | h0 | h0
    · refine gz ?_
      exact k_ret [] rfl .refl (by exact zRes) ⟨rfl, _, hr, rfl⟩
    · by_cases h1 : id < 1
      · refine gz ?_
        exact k_ret [] rfl .refl (by exact zRes) ⟨rfl, _, hr, rfl⟩
      · refine gz ?_
        exact k_ret [] rfl .refl (by exact zRes) ⟨rfl, _, hr, rfl⟩
    · by_cases h1 : id < 1
      · refine gz ?_
        exact k_ret [] rfl .refl (by exact zRes) ⟨rfl, _, hr, rfl⟩
      · refine gz ?_
        exact k_ret [] rfl .refl (by exact zRes) ⟨rfl, _, hr, rfl⟩
  refine gz ?_
  by_cases hin : id ∈ fsts L
  · have e : raddQ L id prio = (16, L) := by unfold raddQ; rw [if_neg h0, if_pos hin]
    rw [e]
    rw [show indexI (fsts L) id = (((fsts L).idxOf id : Nat) : Int) from if_pos hin] at H
    refine t_q (q_call rfl rfl (fun l2 hl => H l2 fun c hc => hl c (List.mem_append_left _ hc))) rfl rfl rfl ?_
    refine gz ?_
    exact k_ret [] rfl .refl (by exact zRes) ⟨rfl, _, hr, rfl⟩
  have e : raddQ L id prio = (0, insL L id prio) := by unfold raddQ; rw [if_neg h0, if_neg hin]
  rw [e]
  rw [show indexI (fsts L) id = -1 from if_neg hin] at H
  refine t_q (q_call rfl rfl (fun l2 hl => H l2 fun c hc => hl c (List.mem_append_left _ hc))) rfl rfl rfl ?_
  clear H
  obtain ⟨v0, cs0, ho, rfl⟩ := hr
  obtain ⟨a, cap, rfl, hI⟩ := OwnSl.ones (l := rqC b v0 :: cs0 ++ F) ho fun c hc => List.mem_cons_of_mem _ (List.mem_append_left _ hc)
  refine gz ?_
  refine k_loop (α := Nat × Value × Bool × List (Int × Int) × List Chunk) (fun x => [(0, .pointer (some ⟨b, 0, none⟩)), (1, .int .i64 id), (2, .int .i64 prio), (7, x.2.1), (8, .bool x.2.2.1), (9, .int .i64 x.1)]) (fun x => x.2.2.2.2 ++ (rqC b (.slice a L.length cap) :: (cs0 ++ F))) (fun x => x.1 ≤ L.length ∧ OwnSl 249 2 x.2.1 x.2.2.2.1.length (oneC x.2.2.2.1) x.2.2.2.2 ∧ (L.take x.1).foldl (insF id prio) ([], false) = (x.2.2.2.1, x.2.2.1) ∧ x.2.2.2.1.length = x.1 + x.2.2.1.toNat) (fun x => L.length - x.1) (0, .slice none 0 0, false, [], []) ⟨Nat.zero_le _, OwnSl.nil _ _, rfl, rfl⟩ ⟨rfl, rfl, rfl, rfl, rfl, rfl, trivial⟩ .refl ?_
  rintro ⟨k, u, fl, acc, cs⟩ ⟨hk, hown, hfo, hal⟩
  simp only at hk hown hfo hal ⊢
  have hu1 : u.oneCell' = true := hown.one
  have hfl : fl.toNat ≤ 1 := by cases fl <;> decide
  have hq : rqC b (.slice a L.length cap) ∈ cs ++ (rqC b (.slice a L.length cap) :: (cs0 ++ F)) := List.mem_append_right _ (.head _)
  by_cases hlt : k < L.length
  · obtain ⟨gb, off, cc, t, fz, rfl, hm, hc⟩ := hI (by omega)
    obtain ⟨y, hy⟩ : ∃ y, L[k]? = some y := ⟨_, List.getElem?_eq_getElem hlt⟩
    obtain ⟨g1, g2, g3, g4⟩ := hc k y hy
    have hf2 := fold_succ L id prio k y hy
    rw [hfo] at hf2
    have hm' : (gb, Obj.cells cc t fz) ∈ cs ++ (rqC b (.slice (some ⟨gb, off, none⟩) L.length cap) :: (cs0 ++ F)) := List.mem_append_right _ hm
    have hk2 : (L.take (k + 1)).foldl (insF id prio) ([], false) = (acc ++ [y], fl) → ∀ (v' : Value) (c2 : List Chunk), OwnSl 249 2 v' (acc ++ [y]).length (oneC (acc ++ [y])) c2 → k + 1 ≤ L.length ∧ OwnSl 249 2 v' (acc ++ [y]).length (oneC (acc ++ [y])) c2 ∧ (L.take (k + 1)).foldl (insF id prio) ([], false) = (acc ++ [y], fl) ∧ (acc ++ [y]).length = k + 1 + fl.toNat := fun h v' c2 h2 => ⟨hlt, h2, h, by rw [List.length_append, List.length_singleton]; omega⟩
    cases fl with
    | true =>
      refine gz ?_
      refine t_q (q_loadA (cs := cc) rfl hm' g3 g4) rfl rfl rfl ?_
      refine gz ?_
      apply t_e
      · apply e_litA (ws := [.int .i64 y.1, .int .i64 y.2]) (zs := [.int .i64 0, .int .i64 0])
        · rfl
        · rfl
        · rfl
        · decide
        · decide
      · rfl
      · rfl
      · rfl
      rintro _ _ ⟨bl, _, rfl, rfl⟩
      refine t_e (e_rapp (y := y) rfl rfl hown (by omega)) rfl rfl rfl ?_
      rintro w _ ⟨c2, ho2, rfl⟩
      have hw1 : w.oneCell' = true := ho2.one
      refine gz ?_
      exact k_next (k + 1, w, true, acc ++ [y], c2) (hk2 (by rw [hf2]; rfl) _ _ ho2) (by simp only; omega) ⟨rfl, rfl, rfl, rfl, rfl, rfl, trivial⟩ .refl
    | false =>
      by_cases hp : y.2 < prio
      · refine gz ?_
        apply t_e
        · apply e_litA (ws := [.int .i64 id, .int .i64 prio]) (zs := [.int .i64 0, .int .i64 0])
          · rfl
          · rfl
          · rfl
          · decide
          · decide
        · rfl
        · rfl
        · rfl
        rintro _ _ ⟨bl, _, rfl, rfl⟩
        refine t_e (e_rapp (y := (id, prio)) rfl rfl hown (by omega)) rfl rfl rfl ?_
        rintro w0 _ ⟨c1, ho1, rfl⟩
        have hw01 : w0.oneCell' = true := ho1.one
        refine gz ?_
        have hm2 : (gb, Obj.cells cc t fz) ∈ c1 ++ (rqC b (.slice (some ⟨gb, off, none⟩) L.length cap) :: (cs0 ++ F)) := List.mem_append_right _ hm
        have hq2 : rqC b (.slice (some ⟨gb, off, none⟩) L.length cap) ∈ c1 ++ (rqC b (.slice (some ⟨gb, off, none⟩) L.length cap) :: (cs0 ++ F)) := List.mem_append_right _ (.head _)
        refine gz ?_
        refine t_q (q_loadA (cs := cc) rfl hm2 g3 g4) rfl rfl rfl ?_
        refine gz ?_
        apply t_e
        · apply e_litA (ws := [.int .i64 y.1, .int .i64 y.2]) (zs := [.int .i64 0, .int .i64 0])
          · rfl
          · rfl
          · rfl
          · decide
          · decide
        · rfl
        · rfl
        · rfl
        rintro _ _ ⟨bl, _, rfl, rfl⟩
        refine t_e (e_rapp (y := y) rfl rfl ho1 (by rw [List.length_append, List.length_singleton]; omega)) rfl rfl rfl ?_
        rintro w _ ⟨c2, ho2, rfl⟩
        have hw1 : w.oneCell' = true := ho2.one
        refine gz ?_
        refine k_next (k + 1, w, true, acc ++ [(id, prio)] ++ [y], c2) ⟨hlt, ho2, by rw [hf2, insF, if_pos ⟨rfl, hp⟩], ?_⟩ (by simp only; omega) ⟨rfl, rfl, rfl, rfl, rfl, rfl, trivial⟩ .refl
        simp only [List.length_append, List.length_singleton]
        rw [hal]; rfl
      · refine gz ?_
        refine t_q (q_loadA (cs := cc) rfl hm' g3 g4) rfl rfl rfl ?_
        refine gz ?_
        apply t_e
        · apply e_litA (ws := [.int .i64 y.1, .int .i64 y.2]) (zs := [.int .i64 0, .int .i64 0])
          · rfl
          · rfl
          · rfl
          · decide
          · decide
        · rfl
        · rfl
        · rfl
        rintro _ _ ⟨bl, _, rfl, rfl⟩
        refine t_e (e_rapp (y := y) rfl rfl hown (by omega)) rfl rfl rfl ?_
        rintro w _ ⟨c2, ho2, rfl⟩
        have hw1 : w.oneCell' = true := ho2.one
        refine gz ?_
        exact k_next (k + 1, w, false, acc ++ [y], c2) (hk2 (by rw [hf2, insF, if_neg fun h => hp h.2]) _ _ ho2) (by simp only; omega) ⟨rfl, rfl, rfl, rfl, rfl, rfl, trivial⟩ .refl
  · obtain rfl : k = L.length := by omega
    rw [List.take_length] at hfo
    cases fl with
    | true =>
      have ei : insL L id prio = acc := by unfold insL; rw [hfo]; rfl
      rw [ei]
      refine gz ?_
      apply t_n
      · exact e_store rfl rfl hu1 (upd_mid _ _ _ _ _) (by simp)
      · rfl
      · rfl
      rintro _ _ ⟨rfl, rfl⟩
      refine gz ?_
      refine k_ret [] rfl (keep_swap _ cs0 cs F) (by exact zRes) ⟨rfl, _, ⟨u, cs, hown, rfl⟩, rfl⟩
    | false =>
      have ei : insL L id prio = acc ++ [(id, prio)] := by unfold insL; rw [hfo]; rfl
      rw [ei]
      refine gz ?_
      apply t_e
      · apply e_litA (ws := [.int .i64 id, .int .i64 prio]) (zs := [.int .i64 0, .int .i64 0])
        · rfl
        · rfl
        · rfl
        · decide
        · decide
      · rfl
      · rfl
      · rfl
      rintro _ _ ⟨bl, _, rfl, rfl⟩
      refine t_e (e_rapp (y := (id, prio)) rfl rfl hown (by omega)) rfl rfl rfl ?_
      rintro w0 _ ⟨c1, ho1, rfl⟩
      have hw01 : w0.oneCell' = true := ho1.one
      refine gz ?_
      apply t_n
      · exact e_store rfl rfl hw01 (upd_mid _ _ _ _ _) (by simp)
      · rfl
      · rfl
      rintro _ _ ⟨rfl, rfl⟩
      refine gz ?_
      refine k_ret [] rfl (keep_swap _ cs0 c1 F) (by exact zRes) ⟨rfl, _, ⟨w0, c1, ho1, rfl⟩, rfl⟩
end Go.Proofs.YtcjknmpogkofpaaGreat.Qu
namespace Go.Proofs.YtcjknmpogkofpaaGreat.En
open Go.RowKit
open Qu
set_option maxRecDepth 20000
structure Row where
  id : Int
  th : List Int
  sd : Bool
  pb : Nat
  v : Value
  cs : List Chunk
  st : Nat
def Row.ent (r : Row) : Ent := (r.id, .pointer (some ⟨r.pb, 0, none⟩), r.st)
abbrev Row.bl (r : Row) : Chunk := (r.pb, .cells (List.toArray [r.v, .bool r.sd]) 282 (0, 0))
def Row.ch (r : Row) : List Chunk := r.bl :: r.cs
def Row.d (r : Row) : Int × List Int × Bool := (r.id, r.th, r.sd)
abbrev enC (b m : Nat) : Chunk := (b, .cells #[.map (some m)] 272 (0, 0))
structure EB (b : Nat) (rows : List Row) (m clock : Nat) (lq : List Chunk) : Prop where
  eq : lq = enC b m :: (m, mapO .i64 (rows.map Row.ent) clock) :: rows.flatMap Row.ch
  own : ∀ r, r ∈ rows → OwnSl 3 1 r.v r.th.length (r.th.map intQ) r.cs
  st : ∀ r, r ∈ rows → r.st < clock
  nd : (rows.map Row.st).Nodup
  ids : (rows.map Row.id).Nodup
abbrev DE := List (Int × List Int × Bool)
def IsE (b : Nat) (D : DE) (lq : List Chunk) : Prop := ∃ rows m clock, rows.map Row.d = D ∧ EB b rows m clock lq
theorem nd_inj {α β : Type} {f : α → β} : ∀ {l : List α}, (l.map f).Nodup → ∀ {x y : α}, x ∈ l → y ∈ l → f x = f y → x = y
  | [], _, x, y, h, _, _ => by cases h
  | z :: l, hn, x, y, hx, hy, e => by
    rw [List.map_cons, List.nodup_cons] at hn
    rcases List.mem_cons.1 hx with h1 | h1 <;> rcases List.mem_cons.1 hy with h2 | h2
    · rw [h1, h2]
    · exact absurd (List.mem_map.2 ⟨y, h2, by rw [← e, h1]⟩) hn.1
    · exact absurd (List.mem_map.2 ⟨x, h1, by rw [e, h2]⟩) hn.1
    · exact nd_inj hn.2 h1 h2 e
set_option maxHeartbeats 400000
theorem new_any (l : List Chunk) : Fn Tryz.prog 71 [] l fun v l' => ∃ b, v = .pointer (some ⟨b, 0, none⟩) ∧ ∃ lq, IsE b [] lq ∧ l' = lq ++ l := by
  refine fn_of_body Tryz.func71 rfl rfl fun E => ?_
  simp only [argF, Tryz.ntmps71]
  refine gz ?_
  refine t_e e_makeMap rfl rfl rfl ?_
  rintro _ _ ⟨m, hm, rfl, rfl⟩
  refine gz ?_
  refine t_e (e_boxA rfl) rfl rfl rfl ?_
  rintro _ _ ⟨b, hb, rfl, rfl⟩
  refine gz ?_
  exact k_ret [] rfl .refl (by exact zRes) ⟨b, rfl, [enC b m, (m, .map #[] 0)], ⟨[], m, 0, rfl, ⟨rfl, by simp, by simp, by simp, by simp⟩⟩, rfl⟩
end Go.Proofs.YtcjknmpogkofpaaGreat.En
