/- Laws that the statement's proof leans on (joined out of several texts). -/
import Derived.Test.YtcjknmpogkofpaaGreatGm3
import Derived.Test.YtcjknmpogkofpaaGreatGm13
import Derived.Test.YtcjknmpogkofpaaGreatGm10
import Derived.Test.YtcjknmpogkofpaaGreatGm4
import Derived.Test.YtcjknmpogkofpaaGreatGm9
import Derived.Test.YtcjknmpogkofpaaGreatGm6
import Derived.Test.YtcjknmpogkofpaaGreatGm11
import Derived.Test.YtcjknmpogkofpaaGreatGm7
import Derived.Test.YtcjknmpogkofpaaGreatGm12
set_option linter.unusedVariables false
set_option linter.unusedSimpArgs false
namespace Go.Proofs.YtcjknmpogkofpaaGreat
open Go.RowKit
set_option maxRecDepth 20000
set_option maxHeartbeats 400000
namespace Ar
theorem all_any (b : Nat) (S : ArT) (lq : List Chunk) (hA : IsA b S lq) (l : List Chunk) (hsub : ∀ c, c ∈ lq → c ∈ l) :
    Fn Tryz.prog 47 [.pointer (some ⟨b, 0, none⟩)] l fun v l' => ∃ cs, OwnSl 68 9 v S.os.length (ocs S.os) cs ∧ l' = cs ++ l := by
  have hlen := hA.ok.len
  obtain ⟨hok, v, cs, rfl, ho⟩ := hA
  obtain ⟨gb, hrow, hcs⟩ := rowV_of ho
  refine fn_of_body Tryz.func47 rfl rfl fun E => ?_
  simp only [argF, Tryz.ntmps47]
  refine gz ?_
  refine t_e e_alloc rfl rfl rfl ?_; rintro _ _ ⟨b3, _, rfl, rfl⟩
  refine gz ?_
  refine t_e (e_call0 rfl rfl (each_any _ rfl _)) rfl rfl rfl ?_
  rintro _ _ ⟨B, rfl, rfl⟩
  refine gz ?_
  refine c_range (α := ObT × Nat) (ps := [8, 9]) (lb := [.pointer (some ⟨B, 0, none⟩)]) rfl (each_iter B b S.n S.g v S.os gb hrow (by omega)) (fun _ => rfl) rfl
    (fun pre l => ∃ u cs2, OwnSl 68 9 u pre.length (ocs (pre.map Prod.fst)) cs2 ∧ l = [xB B (some ⟨b, 0, none⟩), (b3, .cells #[u] 40 (0, 0))] ++ cs2)
    (fun c pre l => False)
    _ l (fun pre l2 X2 hX h => by obtain ⟨u, cs2, _, rfl⟩ := h; exact ⟨List.Mem.head _, List.mem_append_right _ (hX _ (hsub _ (.head _)))⟩) (by exact zKeep) ⟨_, [], OwnSl.nil _ _, rfl⟩ ?_ ?_ ?_
  · rintro E r0 rec pre ⟨o, k⟩ l' T ⟨fn, tmps, D, rfl⟩ hT ⟨u, cs2, hown, rfl⟩ hsp
    obtain ⟨ho1, hk, _⟩ := itm_pre hsp
    simp only at ho1 hk
    have hkl := (List.getElem?_eq_some_iff.1 ho1).1
    obtain ⟨sp, rfl⟩ := hcs _ _ ho1
    have hmT := hT _ (hsub _ (.tail _ (.head _)))
    obtain ⟨x1, x2⟩ := ocs_ext ho1 sp
    have hu1 : u.oneCell' = true := hown.one
    simp only [putPs, List.cons_append, List.nil_append]
    refine gz ?_
    refine p_begin (.there (.there (upd_mid _ _ _ _ _))) ?_
    generalize hX1 : (r0, Obj.loop (recOf fn tmps _ _ _ D .busy none)) :: T = X1
    have hmX : (gb, Obj.cells (List.toArray (ocs S.os ++ sp)) 68 (0, 0)) ∈ X1 := by rw [← hX1]; exact .tail _ hmT
    refine gz ?_
    refine c_draw [(0, true), (1, true), (2, true), (3, true), (4, false), (5, false), (6, false)] [[], [], [1], [1, 2], [1, 2, 3], [0, 1, 2, 3, 4], [0, 1, 2, 3, 4, 5]] ([]) (by kernel_rfl) (by kernel_rfl) zAtt zHR ?_
    refine pz ?_
    apply pl_s (S := [(b3, .cells #[u] 40 (0, 0))])
    · exact q_load rfl (.head _) rfl
    · intro c hc; cases hc with
      | head => exact .tail _ (.head _)
      | tail _ h => cases h
    · rfl
    · rfl
    · rfl
    refine pz ?_
    apply pl_s (S := [(gb, Obj.cells (List.toArray (ocs S.os ++ sp)) 68 (0, 0))])
    · exact q_loadA rfl (.head _) x1 x2
    · intro c hc; cases hc with
      | head => exact .tail _ (.tail _ (List.mem_append_right _ hmX))
      | tail _ h => cases h
    · rfl
    · rfl
    · rfl
    refine pz ?_
    apply pl_eS
    · apply e_litA (ws := obC o) (k := 9)
      · rfl
      · rfl
      · rfl
      · decide
      · decide
    · rfl
    · rfl
    · rfl
    · intro _ _ _ c hc; cases hc
    · rintro _ _ ⟨bl, _, rfl, rfl⟩ x hx _ c hc
      have h3 : ∀ q : Obj, (b3, q) ∈ (bl, Obj.cells (List.toArray (obC o)) 68 (0, 0)) :: xB B (some ⟨b, 0, none⟩) :: (b3, q) :: (cs2 ++ X1) := fun q => .tail _ (.tail _ (.head _))
      simp only [List.mem_cons, List.not_mem_nil, or_false] at hx
      rcases hx with rfl | rfl <;> simp only [List.mem_cons, List.not_mem_nil, or_false] at hc <;> subst hc
      · exact .tail _ (.tail _ (.tail _ (List.mem_append_right _ hmX)))
      · exact h3 _
    rintro _ _ ⟨bl, _, rfl, rfl⟩
    refine pz ?_
    apply pl_eS
    · apply e_appX (k := 9) (X := [xB B (some ⟨b, 0, none⟩), (b3, .cells #[u] 40 (0, 0))]) (cs := cs2) (xs := ocs (pre.map Prod.fst)) (n := pre.length) (zs := obZ) (ws := obC o)
      · rfl
      · rfl
      · rfl
      · exact hown
      · rfl
      · simp [Value.oneCell']
      · omega
      · decide
    · rfl
    · rfl
    · rfl
    · intro _ _ _ c hc; cases hc
    · exact fun _ _ _ x hx ha => anc_all (by kernel_rfl) hx ha
    rintro v' _ ⟨c2, ho2, rfl⟩
    have hv1 : v'.oneCell' = true := ho2.one
    simp only [List.cons_append, List.nil_append]
    apply pl_nS
    · apply e_storeL (cs := [u])
      · rfl
      · rfl
      · exact hv1
      · exact zMem
      · exact .zero
      · exact zUpd
    · rfl
    · rfl
    · intro _ _ _ c hc; cases hc
    · exact fun _ _ _ x hx ha => anc_all (by kernel_rfl) hx ha
    rintro _ _ ⟨rfl, rfl⟩
    refine pz ?_
    refine gz ?_
    rw [← hX1]
    refine p_round _ (.refl) ⟨v', c2, ?_, rfl⟩
    rw [List.map_append, show [(o, k)].map Prod.fst = [o] from rfl, ocs_snoc, List.length_append]; exact ho2
  · rintro D xs l' rfl ⟨u, cs2, hown, rfl⟩
    have hu1 : u.oneCell' = true := hown.one
    simp only [List.cons_append, List.nil_append]
    refine gz ?_
    refine k_ret2 [D] (cs2 ++ l) rfl (l' := cs2 ++ l) (by exact zKeep) (by exact zRes) .refl ?_
    rw [itm_len, show (itm S.os).map Prod.fst = S.os from List.zipIdx_map_fst ..] at hown
    exact ⟨cs2, hown, rfl⟩
  · rintro D c pre l' hsp h
    exact h.elim
end Ar
namespace As
end As
abbrev rB (B b : Nat) : Chunk := (B, .cells #[pV b] 37 (0, 0))
theorem cells_any (b : Nat) (l : List Chunk) : Fn Tryz.prog 53 [pV b] l fun v l' => ∃ B, v = .func (.func 131) #[] #[pV B] ∧ l' = rB B b :: l := by
  refine fn_of_body Tryz.func53 rfl rfl fun E => ?_
  simp only [argF, Tryz.ntmps53]
  refine gzU ?_
  (first | refine t_e (e_box1 rfl rfl) rfl rfl rfl ?_ | refine t_e (e_boxA rfl) rfl rfl rfl ?_); rintro _ _ ⟨B, _, rfl, rfl⟩
  refine gzU ?_
  exact k_ret [] rfl .refl (by exact zRes) ⟨B, rfl, rfl⟩
theorem rng_take {n k : Nat} (h : k < n) : (List.range n).take (k + 1) = (List.range n).take k ++ [k] := by
  rw [List.take_range, List.take_range, Nat.min_eq_left (by omega), Nat.min_eq_left (by omega), List.range_succ]
theorem cells_iter (B b : Nat) (p : RP) (bv C cap : Nat) (hC : C ≤ 100) (hv : p.v = .slice (some ⟨bv, 0, none⟩) C cap) :
    IterS Tryz.prog 131 [pV B] (fun i : Nat => [.int .i64 i, .pointer (some ⟨bv, i * 1, none⟩)]) (fun xs => xs = List.range C) (fun pre => pre <+: List.range C) (fun _ l => rB B b ∈ l ∧ rlC b p ∈ l) := by
  refine ⟨fun r I Ix G0 hneed hY l G hG h0 => ?_⟩
  obtain ⟨n1, n2⟩ := hneed _ _ G hG h0
  simp only [rlC, hv] at hneed n2
  refine fn_of_body Tryz.func131 rfl rfl fun E => ?_
  simp only [argF, Tryz.ntmps131]
  refine gzU ?_
  refine k_loop (α := Nat × List Chunk) (fun x => [(0, .func (.yield r) #[] #[]), (1, pV B), (10, .int .i64 C), (11, .int .i64 x.1)]) (fun x => x.2 ++ G) (fun x => x.1 ≤ C ∧ I ((List.range C).take x.1) x.2) (fun x => C - x.1) (0, l) ⟨Nat.zero_le _, h0⟩ ⟨rfl, rfl, rfl, rfl, trivial⟩ .refl ?_
  clear n1 n2
  rintro ⟨k, l⟩ ⟨hk, hI⟩
  simp only at hk hI ⊢
  obtain ⟨n1, n2⟩ := hneed _ _ G hG hI
  by_cases hlt : k < C
  · refine gzU ?_
    have hy := hY ((List.range C).take k) k l G hG hI (by rw [← rng_take hlt]; exact List.take_prefix _ _)
    refine t_e (e_yield rfl rfl hy) rfl rfl rfl ?_
    rintro v l' ⟨l1, rfl, ⟨rfl, hI'⟩ | ⟨rfl, hx⟩⟩
    · refine gzU ?_
      exact k_next (k + 1, l1) ⟨by simp only; omega, by simp only; rw [rng_take hlt]; exact hI'⟩ (by simp only; omega) ⟨rfl, rfl, rfl, rfl, trivial⟩ .refl
    · refine gzU ?_
      exact k_ret [] rfl .refl (by exact zRes) ⟨l1, rfl, .inr ⟨_, by rw [← rng_take hlt]; exact List.take_prefix _ _, hx⟩⟩
  · obtain rfl : k = C := by omega
    rw [List.take_of_length_le (by simp)] at hI
    refine gzU ?_
    exact k_ret [] rfl .refl (by exact zRes) ⟨l, rfl, .inl ⟨_, rfl, hI⟩⟩
theorem LSet.mid : ∀ (A C : List Value) (x v : Value) {k : Nat}, A.length = k → LSet (A ++ x :: C) k v (A ++ v :: C)
  | [], C, x, v, _, h => by subst h; exact .zero
  | a :: A, C, x, v, _, h => by subst h; exact .succ (LSet.mid A C x v rfl)
theorem LGet.mid : ∀ (A C : List Value) (v : Value) {k : Nat}, A.length = k → LGet (A ++ v :: C) k v
  | [], C, v, _, h => by subst h; exact .zero
  | a :: A, C, v, _, h => by subst h; exact .succ (LGet.mid A C v rfl)
theorem LSetA.all : ∀ (B vs C : List Value), B.length = vs.length → LSetA (B ++ C) 0 vs (vs ++ C)
  | [], [], C, _ => .done
  | b :: B, v :: vs, C, h => .put (LSetA.all B vs C (by simpa using h))
  | [], v :: vs, C, h => by cases h
  | b :: B, [], C, h => by cases h
theorem LSetA.mid : ∀ (A B vs C : List Value) {k : Nat}, A.length = k → B.length = vs.length → LSetA (A ++ (B ++ C)) k vs (A ++ (vs ++ C))
  | [], B, vs, C, _, h, h2 => by subst h; exact LSetA.all B vs C h2
  | a :: A, B, vs, C, _, h, h2 => by subst h; exact .skip (LSetA.mid A B vs C rfl h2)
def plc (N : As.ASt) : List Value := (List.range 80).map N.at
theorem plc_len (N : As.ASt) : (plc N).length = 80 := by simp [plc]
theorem plc_cells (N : As.ASt) : N.cells.extract 0 80 = List.toArray (plc N) := by
  apply Array.ext_getElem?
  intro j
  rw [Array.getElem?_extract]
  unfold plc
  simp only [As.ASt.cells_size, List.getElem?_toArray, List.getElem?_map]
  by_cases h : j < 80
  · rw [if_pos (by omega), Nat.zero_add, As.ASt.cells_get N j (by omega), List.getElem?_range h]; rfl
  · rw [if_neg (by omega), List.getElem?_eq_none (by simp; omega)]; rfl
theorem plc_one (N : As.ASt) : ∀ v, v ∈ plc N → v.oneCell' = true := by
  intro v hv
  obtain ⟨j, hj, rfl⟩ := List.mem_map.1 hv
  unfold As.ASt.at
  repeat' split
  all_goals rfl
structure VwL where
  vo : Value
  vc : Value
  vt : Value
  vh : Value
  vr : Value
  vq : Value
  co : List Chunk
  cc : List Chunk
  ct : List Chunk
  ch : List Chunk
  cr : List Chunk
  cq : List Chunk
abbrev vwV (vo vc vt vh : Value) (N : As.ASt) (vr vq : Value) : List Value := vo :: vc :: vt :: vh :: (plc N ++ [vr, vq])
def quL (X : Nat → List Int) : List Int := Qu.allX X (Qu.fallT (Qu.neX X) 0)
structure IsVw (C : Nat) (R : RT) (x : VwL) : Prop where
  o : OwnSl 68 9 x.vo R.A.os.length (Ar.ocs R.A.os) x.co
  c : OwnSl 220 10 x.vc (usedD R.H.1).length (hcs (usedD R.H.1)) x.cc
  t : OwnSl 222 3 x.vt R.H.2.length (Tr.ncs R.H.2) x.ct
  h : OwnSl 76 24 x.vh R.T.length (Th.thcs R.T) x.ch
  r : OwnSl 3 1 x.vr C (List.replicate C (.int .i64 0)) x.cr
  q : OwnSl 3 1 x.vq (quL R.Q).length ((quL R.Q).map intQ) x.cq
abbrev vwC (B : Nat) (vo vc vt vh : Value) (N : As.ASt) (vr vq : Value) : Chunk := (B, .cells (List.toArray (vwV vo vc vt vh N vr vq)) 49 (0, 0))
def z80 : List Value := [.int .i64 0, .bool false, .int .i64 0, .int .i64 0, .int .i64 0, .int .i64 0, .int .i64 0, .int .i64 0, .int .i64 0, .int .i64 0]
def z80n : List Value := z80 ++ (z80 ++ (z80 ++ (z80 ++ (z80 ++ (z80 ++ (z80 ++ z80))))))
abbrev nilS : Value := .slice none 0 0
theorem vw_build {vo vc vt vh vq : Value} (N : As.ASt) (h1 : vo.oneCell' = true) (h2 : vc.oneCell' = true) (h3 : vt.oneCell' = true) (h4 : vh.oneCell' = true) (h5 : vq.oneCell' = true) : BuildS Tryz.prog 49 (nilS :: nilS :: nilS :: nilS :: (z80n ++ [nilS, nilS])) [(0, vo), (1, vc), (2, vt), (3, vh), (4, .agg (List.toArray (plc N))), (6, vq)] (vwV vo vc vt vh N nilS vq) := by
  refine .one inferInstance inferInstance h1 .zero (.one inferInstance inferInstance h2 (.succ .zero) (.one inferInstance inferInstance h3 (.succ (.succ .zero)) (.one inferInstance inferInstance h4 (.succ (.succ (.succ .zero))) (.agg inferInstance inferInstance (plc_len N) (LSetA.mid [vo, vc, vt, vh] z80n (plc N) [nilS, nilS] rfl (plc_len N).symm) (.one inferInstance inferInstance h5 ?_ .nil)))))
  have := LSet.mid (vo :: vc :: vt :: vh :: (plc N ++ [nilS])) [] nilS vq (k := 85) (by simp [plc_len])
  simpa [vwV] using this
theorem kv1 (m v rb z : Chunk) (cr cq ch ct cc co L : List Chunk) : Keep (m :: v :: (cr ++ rb :: (cq ++ (ch ++ (ct ++ (cc ++ (co ++ z :: L))))))) (z :: v :: m :: (co ++ (cc ++ (ct ++ (ch ++ (cr ++ (cq ++ L))))))) := keep_ac [rb]
theorem kv2 (m v z : Chunk) (L : List Chunk) : Keep (z :: v :: m :: L) ([m] ++ (z :: L)) := keep_ac [v]
set_option maxHeartbeats 4000000 in
theorem view_any (F C n : Nat) (R : RT) (b : Nat) (p : RP) (s : RL) (hR : IsRl F C n R p s) (hn : n ≤ 900) (hT : R.T.length ≤ 900000) (G : List Chunk) : Fn Tryz.prog 15 [pV b] (allL b p s R G) fun v l' =>
    ∃ x : VwL, v = .agg (List.toArray (vwV x.vo x.vc x.vt x.vh R.N x.vr x.vq)) ∧ IsVw C R x ∧ l' = x.co ++ (x.cc ++ (x.ct ++ (x.ch ++ (x.cr ++ (x.cq ++ allL b p s R G))))) := by
  obtain ⟨L, hL⟩ : ∃ L, L = allL b p s R G := ⟨_, rfl⟩
  have hmr : rlC b p ∈ L := by rw [hL]; exact .head _
  have hmn : As.asA p.n R.N ∈ L := by rw [hL]; exact .tail _ (.head _)
  have hma : ∀ c, c ∈ s.A → c ∈ L := fun c hc => by rw [hL]; unfold allL; simp [hc]
  have hmh : ∀ c, c ∈ s.H → c ∈ L := fun c hc => by rw [hL]; unfold allL; simp [hc]
  have hmt : ∀ c, c ∈ s.T → c ∈ L := fun c hc => by rw [hL]; unfold allL; simp [hc]
  have hmq : ∀ c, c ∈ s.Q → c ∈ L := fun c hc => by rw [hL]; unfold allL; simp [hc]
  have hmv : ∀ c, c ∈ s.V → c ∈ L := fun c hc => by rw [hL]; unfold allL; simp [hc]
  rw [← hL]
  obtain ⟨hs1, hs2, _⟩ := hR.inv.small (by omega)
  refine fn_of_body Tryz.func15 rfl rfl fun E => ?_
  simp only [argF, Tryz.ntmps15]
  refine gzU ?_
  refine t_e e_alloc rfl rfl rfl ?_; rintro _ _ ⟨b2, _, rfl, rfl⟩
  refine gzU ?_
  have hsub : ∀ (c : Chunk), c ∈ [rlC b p] → c ∈ (b2, Obj.cells (List.toArray (nilS :: nilS :: nilS :: nilS :: (z80n ++ [nilS, nilS]))) 49 (0, 0)) :: L := fun c hc => by rw [List.mem_singleton.1 hc]; exact .tail _ hmr
  refine c_drawL [(0, true), (1, true), (2, true), (3, true), (5, true), (6, true), (7, true), (8, true), (10, true), (11, true), (12, true), (13, true), (15, true), (16, true), (17, true), (18, true), (20, true), (21, true), (22, true), (23, true), (25, true), (26, true), (27, true), (28, true), (4, false), (9, false), (14, false), (19, false), (24, false), (29, false), (30, true), (31, false), (32, false)] [[], [0], [0, 1], [0, 1, 2], [0, 1, 2, 3], [], [5], [5, 6], [5, 6, 7], [0, 1, 2, 3, 4, 5, 6, 7, 8], [], [10], [10, 11], [10, 11, 12], [0, 1, 2, 3, 4, 5, 6, 7, 8, 9, 10, 11, 12, 13], [], [15], [15, 16], [15, 16, 17], [0, 1, 2, 3, 4, 5, 6, 7, 8, 9, 10, 11, 12, 13, 14, 15, 16, 17, 18], [], [20], [20, 21], [20, 21, 22], [0, 1, 2, 3, 4, 5, 6, 7, 8, 9, 10, 11, 12, 13, 14, 15, 16, 17, 18, 19, 20, 21, 22, 23], [], [25], [25, 26], [25, 26, 27], [0, 1, 2, 3, 4, 5, 6, 7, 8, 9, 10, 11, 12, 13, 14, 15, 16, 17, 18, 19, 20, 21, 22, 23, 24, 25, 26, 27, 28], [0, 1, 2, 3, 4, 5, 6, 7, 8, 9, 10, 11, 12, 13, 14, 15, 16, 17, 18, 19, 20, 21, 22, 23, 24, 25, 26, 27, 28, 29], [], [0, 1, 2, 3, 4, 5, 6, 7, 8, 9, 10, 11, 12, 13, 14, 15, 16, 17, 18, 19, 20, 21, 22, 23, 24, 25, 26, 27, 28, 29, 30, 31]] (some [(4, 31), (9, 31), (14, 31), (19, 31), (24, 31), (29, 31)]) ([rlC b p]) (by kernel_rfl) (by kernel_rfl) zAtt (hsub) ?_
  refine pzU ?_
  refine pl_late [(4, _, fun v cs => OwnSl 68 9 v R.A.os.length (Ar.ocs R.A.os) cs), (9, _, fun v cs => OwnSl 220 10 v (usedD R.H.1).length (hcs (usedD R.H.1)) cs), (14, _, fun v cs => OwnSl 222 3 v R.H.2.length (Tr.ncs R.H.2) cs), (19, _, fun v cs => OwnSl 76 24 v R.T.length (Th.thcs R.T) cs), (24, _, fun v cs => v = .agg (List.toArray (plc R.N)) ∧ cs = []), (29, _, fun v cs => OwnSl 3 1 v (quL R.Q).length ((quL R.Q).map intQ) cs)] [(30, _)] (31, _, fun v cs => ∃ b, v = .pointer (some ⟨b, 0, none⟩) ∧ cs = [(b, .cells (List.toArray (nilS :: nilS :: nilS :: nilS :: (z80n ++ [nilS, nilS]))) 49 (0, 0))]) 3 rfl rfl rfl hsub (fun _ h => by cases h) ⟨ad_call rfl rfl (fun l' hl => Ar.all_any p.a R.A s.A hR.ar l' fun c hc => hl _ (.tail _ (hma c hc))) rfl rfl, ad_call rfl rfl (fun l' hl => hused_any p.h R.H s.H hR.ho hs1 l' fun c hc => hl _ (.tail _ (hmh c hc))) rfl rfl, ad_call rfl rfl (fun l' hl => htree_any p.h R.H s.H hR.ho hs2 l' fun c hc => hl _ (.tail _ (hmh c hc))) rfl rfl, ad_call rfl rfl (fun l' hl => Th.all_any p.t R.T s.T hR.th hT l' fun c hc => hl _ (.tail _ (hmt c hc))) rfl rfl, ad_call rfl rfl (fun l' hl => (As.pools_any p.n R.N (plc R.N) (plc_cells R.N) (plc_len R.N) (plc_one R.N) l' (hl _ (.tail _ hmn))).mono fun v l2 h => ⟨[], ⟨h.1, rfl⟩, h.2⟩) rfl rfl, ad_call rfl rfl (fun l' hl => Qu.all_any p.q R.Q s.Q hR.qu (fun j hj => by have := hR.ql j hj; omega) l' fun c hc => hl _ (.tail _ (hmq c hc))) rfl rfl, trivial⟩ (ad_alloc rfl rfl) (by kernel_rfl) (by kernel_rfl) rfl rfl ?_
  intro vo co ho vc cc hc vt ct ht vh ch hh vp cp hp vq cq hq
  obtain ⟨rfl, rfl⟩ := hp
  refine ⟨_, _, q_build rfl (vw_build R.N ho.one hc.one ht.one hh.one hq.one), rfl, rfl, rfl, ?_⟩
  rintro v3 c3 ⟨b3, rfl, rfl⟩
  simp only [putF, AddK]
  simp only at ho hc ht hh hq
  apply pl_n
  · refine e_storeA (cs := List.toArray (nilS :: nilS :: nilS :: nilS :: (z80n ++ [nilS, nilS]))) (T := 49) (l' := vwC b3 vo vc vt vh R.N nilS vq :: (cq ++ (ch ++ (ct ++ (cc ++ (co ++ (b2, Obj.cells (List.toArray (nilS :: nilS :: nilS :: nilS :: (z80n ++ [nilS, nilS]))) 49 (0, 0)) :: L)))))) rfl rfl ?_ ?_ ?_ ?_
    · show (vwV vo vc vt vh R.N nilS vq).length = 86
      simp [plc_len]
    · intro v hv
      simp only [List.toList_toArray, List.mem_cons, List.mem_append, List.not_mem_nil, or_false] at hv
      rcases hv with rfl | rfl | rfl | rfl | hv | rfl | rfl
      · exact ho.one
      · exact hc.one
      · exact ht.one
      · exact hh.one
      · exact plc_one _ v hv
      · rfl
      · exact hq.one
    · rw [List.toList_toArray, As.setFrom_all _ _ (by simp [plc_len]; rfl)]
      exact .here
    · show 0 + 86 ≤ (nilS :: nilS :: nilS :: nilS :: (z80n ++ [nilS, nilS])).length
      decide
  · rfl
  · rfl
  · rintro _ _ ⟨_, rfl⟩ c hc; rw [List.mem_singleton.1 hc]; simp [hmr]
  rintro _ _ ⟨rfl, rfl⟩
  refine pzU ?_
  refine gzU ?_
  refine t_e (e_call0 rfl rfl (cells_any b _)) rfl rfl rfl ?_
  rintro _ _ ⟨B, rfl, rfl⟩
  refine gzU ?_
  obtain ⟨gL, hgl⟩ : ∃ gL, gL = cq ++ (ch ++ (ct ++ (cc ++ (co ++ (b2, Obj.cells (List.toArray (nilS :: nilS :: nilS :: nilS :: (z80n ++ [nilS, nilS]))) 49 (0, 0)) :: L)))) := ⟨_, rfl⟩
  have hLg : ∀ c, c ∈ L → c ∈ gL := fun c hc => by rw [hgl]; simp [hc]
  rw [← hgl]
  have hC1 := hR.c1
  rcases hR.cu.2 with ⟨_, h0, _⟩ | ⟨bv, cap, sp, hv, hV, _⟩
  · omega
  have hmB : ∀ c, c ∈ [rB B b, rlC b p] → c ∈ rB B b :: gL := fun c hc => by
    rcases List.mem_cons.1 hc with rfl | hc
    · exact .head _
    · rw [List.mem_singleton.1 hc]; exact .tail _ (hLg _ hmr)
  have hmc : (bv, Obj.cells (List.toArray (List.replicate C (.int .i64 0) ++ sp)) 3 (0, 0)) ∈ L := hmv _ (by rw [hV]; exact .head _)
  have h84 : ∀ (N : As.ASt), (vo :: vc :: vt :: vh :: plc N).length = 84 := fun N => by simp [plc_len]
  refine c_range (α := Nat) (ps := [42, 43]) (lb := [pV B]) rfl (cells_iter B b p bv C cap (by omega) hv) (fun _ => rfl) rfl
    (fun pre l => ∃ vr cr, OwnSl 3 1 vr pre.length (List.replicate pre.length (.int .i64 0)) cr ∧ l = vwC b3 vo vc vt vh R.N vr vq :: cr) (fun c pre l => False) [vwC b3 vo vc vt vh R.N nilS vq] (rB B b :: gL)
    (fun pre l2 X2 hX h => ⟨List.mem_append_right _ (hX _ (.head _)), List.mem_append_right _ (hX _ (.tail _ (hLg _ hmr)))⟩) (.of_perm (.swap _ _ _)) ⟨_, [], OwnSl.nil _ _, rfl⟩ ?_ ?_ ?_
  · rintro E r0 rec pre k l' T ⟨fn, tmps, D, rfl⟩ hT ⟨vr, cr, hown, rfl⟩ hsp
    have hk : k < C ∧ pre.length ≤ C := by
      have h1 := hsp.length_le
      have h2 : k ∈ List.range C := hsp.subset (List.mem_append_right _ (.head _))
      simp only [List.length_append, List.length_cons, List.length_nil, List.length_range] at h1
      exact ⟨List.mem_range.1 h2, by omega⟩
    have hv1 : vr.oneCell' = true := hown.one
    simp only [putPs, List.cons_append, List.nil_append]
    refine gzU ?_
    refine p_begin (.there (upd_mid _ _ _ _ _)) ?_
    generalize hX1 : (r0, Obj.loop (recOf fn tmps _ _ _ D .busy none)) :: T = X1
    have hmX : (bv, Obj.cells (List.toArray (List.replicate C (.int .i64 0) ++ sp)) 3 (0, 0)) ∈ X1 := by rw [← hX1]; exact .tail _ (hT _ (.tail _ (hLg _ hmc)))
    refine gzU ?_
    refine c_draw [(0, true), (1, true), (2, true), (3, true), (4, true), (5, false), (6, false), (7, true), (8, false)] [[], [0], [], [2], [2, 3], [2, 3, 4], [0, 1, 2, 3, 4, 5], [0, 1, 2, 3, 4, 5, 6], [0, 1, 2, 3, 4, 5, 6, 7]] ([]) (by kernel_rfl) (by kernel_rfl) zAtt zHR ?_
    refine pzU ?_
    apply pl_s (S := [vwC b3 vo vc vt vh R.N vr vq])
    · exact q_load rfl (.head _) (cell_get (LGet.mid (vo :: vc :: vt :: vh :: plc R.N) [vq] vr (h84 _)))
    · exact sing_mem (.head _)
    · rfl
    · rfl
    · rfl
    refine pzU ?_
    apply pl_s (S := [(bv, Obj.cells (List.toArray (List.replicate C (.int .i64 0) ++ sp)) 3 (0, 0))])
    · exact q_load (v := .int .i64 0) rfl (.head _) (by rw [List.getElem?_toArray, List.getElem?_append_left (by simp; omega), List.getElem?_replicate, if_pos (by omega)])
    · exact sing_mem (.tail _ (List.mem_append_right _ hmX))
    · rfl
    · rfl
    · rfl
    refine pzU ?_
    apply pl_eS
    · exact e_lit1 (v := .int .i64 0) rfl rfl
    · rfl
    · rfl
    · rfl
    · intro _ _ _ c hc; cases hc
    · rintro _ _ ⟨bl, _, rfl, rfl⟩ x hx _ c hc
      simp only [List.mem_cons, List.not_mem_nil, or_false] at hx
      rcases hx with rfl | rfl <;> simp only [List.mem_cons, List.not_mem_nil, or_false] at hc <;> subst hc
      · exact .tail _ (.tail _ (List.mem_append_right _ hmX))
      · exact .tail _ (.head _)
    rintro _ _ ⟨bl, _, rfl, rfl⟩
    refine pzU ?_
    apply pl_eS
    · apply e_appX (k := 1) (X := [vwC b3 vo vc vt vh R.N vr vq]) (cs := cr) (xs := List.replicate pre.length (.int .i64 0)) (n := pre.length) (zs := [.int .i64 0]) (ws := [.int .i64 0])
      · rfl
      · rfl
      · rfl
      · exact hown
      · rfl
      · simp [Value.oneCell']
      · omega
      · decide
    · rfl
    · rfl
    · rfl
    · intro _ _ _ c hc; cases hc
    · exact fun _ _ _ x hx ha => anc_all (by kernel_rfl) hx ha
    rintro v' _ ⟨c2, ho2, rfl⟩
    have hv1 : v'.oneCell' = true := ho2.one
    simp only [List.cons_append, List.nil_append]
    refine pzU ?_
    apply pl_nS
    · apply e_storeL (cs := vwV vo vc vt vh R.N vr vq) (cs' := vwV vo vc vt vh R.N v' vq)
      · rfl
      · rfl
      · exact hv1
      · exact .head _
      · exact LSet.mid (vo :: vc :: vt :: vh :: plc R.N) [vq] vr v' (h84 _)
      · exact .here
    · rfl
    · rfl
    · intro _ _ _ c hc; cases hc
    · exact fun _ _ _ x hx ha => anc_all (by kernel_rfl) hx ha
    rintro _ _ ⟨rfl, rfl⟩
    refine pzU ?_
    refine gzU ?_
    rw [← hX1]
    refine p_round _ (.refl) ⟨v', c2, ?_, rfl⟩
    rw [List.length_append, List.length_singleton, List.replicate_succ']
    exact ho2
  · rintro D xs l' rfl ⟨vr, cr, hown, rfl⟩
    rw [List.length_range] at hown
    have hv1 : vr.oneCell' = true := hown.one
    refine gzU ?_
    have hlv : (vwV vo vc vt vh R.N vr vq).length = 86 := by simp [plc_len]
    refine t_q (q_loadL rfl (.tail _ (.head _)) (As.LSub.of_all (n := 86) _ hlv)) rfl rfl rfl ?_
    rw [hgl]
    refine s_keep (kv1 ..) ?_
    apply t_n
    · refine e_storeA (cs := List.toArray (nilS :: nilS :: nilS :: nilS :: (z80n ++ [nilS, nilS]))) (T := 49) (l' := vwC b2 vo vc vt vh R.N vr vq :: vwC b3 vo vc vt vh R.N vr vq :: markC D :: (co ++ (cc ++ (ct ++ (ch ++ (cr ++ (cq ++ L))))))) rfl rfl hlv ?_ ?_ ?_
      · intro v hv
        simp only [List.toList_toArray, List.mem_cons, List.mem_append, List.not_mem_nil, or_false] at hv
        rcases hv with rfl | rfl | rfl | rfl | hv | rfl | rfl
        · exact ho.one
        · exact hc.one
        · exact ht.one
        · exact hh.one
        · exact plc_one _ v hv
        · exact hv1
        · exact hq.one
      · rw [List.toList_toArray, As.setFrom_all _ _ (by simp [plc_len]; rfl)]
        exact .here
      · show 0 + 86 ≤ (nilS :: nilS :: nilS :: nilS :: (z80n ++ [nilS, nilS])).length
        decide
    · rfl
    · rfl
    rintro _ _ ⟨rfl, rfl⟩
    refine gzU ?_
    exact k_ret2 [D] (vwC b2 vo vc vt vh R.N vr vq :: (co ++ (cc ++ (ct ++ (ch ++ (cr ++ (cq ++ L))))))) rfl (kv2 ..) (rs_cellA rfl (.head _) (As.LSub.of_all (n := 86) _ hlv) .nil) (.drop .refl) ⟨⟨vo, vc, vt, vh, vr, vq, co, cc, ct, ch, cr, cq⟩, rfl, ⟨ho, hc, ht, hh, hown, hq⟩, rfl⟩
  · rintro D c pre l' hsp h
    exact h.elim
section
variable {P : Program} {ro : Option Nat} {N : Nat} {fr : Fr} {l : List Chunk} {i d : Nat} {ty : TypeId} {pos : String} {aft : Array Edge}
theorem ad_copy {s x : Operand} {T e k yb n : Nat} {v : Value} {xs zs : List Value} {cs : List Chunk} (hs : ev fr s = some (.slice none 0 0)) (hx : ev fr x = some v) [c : ST P T e k yb] [cz : ZV P e zs] (hzs : zs.length = k) (ho : OwnSl e k v n xs cs) (hsub : ∀ c, c ∈ cs → c ∈ l) (h1 : ∀ u ∈ xs, u.oneCell' = true) (hn : n ≤ 1000000) (hby : yb ≤ 1000) (hb : Nat.blt d N = true) (hf : flook fr d = none) :
    IsAd P ro N fr l (i, ⟨some d, .call { callee := .builtin .append, args := #[s, x], argTypes := #[T, T] }, ty, pos, aft, none⟩, fun v' c2 => OwnSl e k v' n xs c2) :=
  ⟨fun l' h2 => e_copy hs hx hzs ho (fun c hc => h2 c (hsub c hc)) h1 hn hby, rfl, d, rfl, hb, hf⟩
end
theorem vw_build7 {vo vc vt vh vr vq : Value} (N : As.ASt) (h1 : vo.oneCell' = true) (h2 : vc.oneCell' = true) (h3 : vt.oneCell' = true) (h4 : vh.oneCell' = true) (h6 : vr.oneCell' = true) (h5 : vq.oneCell' = true) : BuildS Tryz.prog 49 (nilS :: nilS :: nilS :: nilS :: (z80n ++ [nilS, nilS])) [(0, vo), (1, vc), (2, vt), (3, vh), (4, .agg (List.toArray (plc N))), (5, vr), (6, vq)] (vwV vo vc vt vh N vr vq) := by
  refine .one inferInstance inferInstance h1 .zero (.one inferInstance inferInstance h2 (.succ .zero) (.one inferInstance inferInstance h3 (.succ (.succ .zero)) (.one inferInstance inferInstance h4 (.succ (.succ (.succ .zero))) (.agg inferInstance inferInstance (plc_len N) (LSetA.mid [vo, vc, vt, vh] z80n (plc N) [nilS, nilS] rfl (plc_len N).symm) (.one (cs1 := vo :: vc :: vt :: vh :: (plc N ++ [vr, nilS])) inferInstance inferInstance h6 ?_ (.one inferInstance inferInstance h5 ?_ .nil))))))
  · have := LSet.mid (vo :: vc :: vt :: vh :: plc N) [nilS] nilS vr (k := 84) (by simp [plc_len])
    simpa using this
  · have := LSet.mid (vo :: vc :: vt :: vh :: (plc N ++ [vr])) [] nilS vq (k := 85) (by simp [plc_len])
    simpa [vwV] using this
structure IsVwL (C : Nat) (R : RT) (qs : List Int) (x : VwL) : Prop where
  o : OwnSl 68 9 x.vo R.A.os.length (Ar.ocs R.A.os) x.co
  c : OwnSl 220 10 x.vc (usedD R.H.1).length (hcs (usedD R.H.1)) x.cc
  t : OwnSl 222 3 x.vt R.H.2.length (Tr.ncs R.H.2) x.ct
  h : OwnSl 76 24 x.vh R.T.length (Th.thcs R.T) x.ch
  r : OwnSl 3 1 x.vr C (List.replicate C (.int .i64 0)) x.cr
  q : OwnSl 3 1 x.vq qs.length (qs.map intQ) x.cq
theorem kvw1 (x : Chunk) (a b c d e f l : List Chunk) : Keep (a ++ (b ++ (c ++ (d ++ (e ++ (f ++ x :: l)))))) (x :: (a ++ (b ++ (c ++ (d ++ (e ++ (f ++ l))))))) := keep_ac []
set_option maxHeartbeats 4000000 in
theorem rview_any (F C n : Nat) (R : RT) (LQ : List (Int × Int)) (b : Nat) (p : RP) (s : RL) (hR : IsRR F C n R LQ p s) (hn : n ≤ 900) (hul : R.A.os.length ≤ 900000) (l : List Chunk) (hsub : ∀ c, c ∈ allR b p s R.N [] → c ∈ l) : Fn Tryz.prog 16 [pV b] l fun v l' =>
    ∃ x : VwL, v = .agg (List.toArray (vwV x.vo x.vc x.vt x.vh R.N x.vr x.vq)) ∧ IsVwL C R (Qu.fsts LQ) x ∧ ∃ cs, l' = cs ++ l ∧ ∀ c, (c ∈ x.co ∨ c ∈ x.cc ∨ c ∈ x.ct ∨ c ∈ x.ch ∨ c ∈ x.cr ∨ c ∈ x.cq) → c ∈ cs := by
  obtain ⟨M, C0, A, H, T, Q, E0, V⟩ := s
  obtain ⟨hmem, hco, har, han, hho, hinv, hgiv, hfit, hth, hta, htl, hqu, hql, hen, hel, hcu, hc1⟩ := hR
  simp only at hmem hco har hho hth hqu hen hcu
  obtain ⟨z1, z2, _⟩ := hinv.small (by omega)
  obtain ⟨hok, va, ca, rfl, hoa⟩ := har
  obtain ⟨bs, bt, ls, lt, hB⟩ := hho
  obtain rfl := hB.eq
  obtain ⟨vT, cT, rfl, hoT⟩ := hB.t
  obtain ⟨vH, cH, rfl, hoH⟩ := hth
  have m0 : rrC b p ∈ l := hsub _ (.head _)
  have mn : As.rfA p.n R.N ∈ l := hsub _ (.tail _ (.head _))
  have ma : Ar.rfC p.a R.A.n va R.A.g ∈ l := hsub _ (by unfold allR; simp)
  have mh : rhoC p.h bs bt ∈ l := hsub _ (by unfold allR; simp)
  have mt : Tr.rcC bt vT ∈ l := hsub _ (by unfold allR; simp)
  have mx : Th.rxC p.t vH ∈ l := hsub _ (by unfold allR; simp)
  have sA : ∀ c, c ∈ ca → c ∈ l := fun c hc => hsub _ (by unfold allR; simp [hc])
  have sS : ∀ c, c ∈ ls → c ∈ l := fun c hc => hsub _ (by unfold allR; simp [hc])
  have sT : ∀ c, c ∈ cT → c ∈ l := fun c hc => hsub _ (by unfold allR; simp [hc])
  have sH : ∀ c, c ∈ cH → c ∈ l := fun c hc => hsub _ (by unfold allR; simp [hc])
  have sQ : ∀ c, c ∈ Q → c ∈ l := fun c hc => hsub _ (by unfold allR; simp [hc])
  have sV : ∀ c, c ∈ V → c ∈ l := fun c hc => hsub _ (by unfold allR; simp [hc])
  refine fn_of_body Tryz.func16 rfl rfl fun E => ?_
  simp only [argF, Tryz.ntmps16]
  refine gzU ?_
  refine t_e e_alloc rfl rfl rfl ?_; rintro _ _ ⟨b2, _, rfl, rfl⟩
  refine gzU ?_
  refine c_drawL [(0, true), (1, true), (2, true), (3, true), (4, true), (5, true), (6, true), (8, true), (9, true), (10, true), (11, true), (12, true), (13, true), (14, true), (16, true), (17, true), (18, true), (19, true), (20, true), (21, true), (22, true), (23, true), (24, true), (25, true), (27, true), (28, true), (29, true), (30, true), (31, true), (32, true), (33, true), (35, true), (36, true), (37, true), (38, true), (39, true), (40, true), (41, true), (42, true), (43, true), (44, true), (45, true), (47, true), (48, true), (49, true), (50, true), (7, false), (15, false), (26, false), (34, false), (46, false), (51, false), (52, true), (53, false)] [[], [0], [0, 1], [0, 1, 2], [0, 1, 2, 3], [0, 1, 2, 3, 4], [0, 1, 2, 3, 4, 5], [0, 1, 2, 3, 4, 5, 6], [], [8], [8, 9], [8, 9, 10], [8, 9, 10, 11], [8, 9, 10, 11, 12], [8, 9, 10, 11, 12, 13], [0, 1, 2, 3, 4, 5, 6, 7, 8, 9, 10, 11, 12, 13, 14], [], [16], [16, 17], [16, 17, 18], [16, 17, 18, 19], [16, 17, 18, 19, 20], [16, 17, 18, 19, 20, 21], [16, 17, 18, 19, 20, 21, 22], [16, 17, 18, 19, 20, 21, 22, 23], [16, 17, 18, 19, 20, 21, 22, 23, 24], [0, 1, 2, 3, 4, 5, 6, 7, 8, 9, 10, 11, 12, 13, 14, 15, 16, 17, 18, 19, 20, 21, 22, 23, 24, 25], [], [27], [27, 28], [27, 28, 29], [27, 28, 29, 30], [27, 28, 29, 30, 31], [27, 28, 29, 30, 31, 32], [0, 1, 2, 3, 4, 5, 6, 7, 8, 9, 10, 11, 12, 13, 14, 15, 16, 17, 18, 19, 20, 21, 22, 23, 24, 25, 26, 27, 28, 29, 30, 31, 32, 33], [], [35], [35, 36], [35, 36, 37], [35, 36, 37, 38], [35, 36, 37, 38, 39], [35, 36, 37, 38, 39, 40], [], [42], [42, 43], [42, 43, 44], [0, 1, 2, 3, 4, 5, 6, 7, 8, 9, 10, 11, 12, 13, 14, 15, 16, 17, 18, 19, 20, 21, 22, 23, 24, 25, 26, 27, 28, 29, 30, 31, 32, 33, 34, 42, 43, 44, 45], [], [47], [47, 48], [47, 48, 49], [0, 1, 2, 3, 4, 5, 6, 7, 8, 9, 10, 11, 12, 13, 14, 15, 16, 17, 18, 19, 20, 21, 22, 23, 24, 25, 26, 27, 28, 29, 30, 31, 32, 33, 34, 42, 43, 44, 45, 46, 47, 48, 49, 50], [0, 1, 2, 3, 4, 5, 6, 7, 8, 9, 10, 11, 12, 13, 14, 15, 16, 17, 18, 19, 20, 21, 22, 23, 24, 25, 26, 27, 28, 29, 30, 31, 32, 33, 34, 35, 36, 37, 38, 39, 40, 41, 42, 43, 44, 45, 46, 47, 48, 49, 50, 51], [0, 1, 2, 3, 4, 5, 6, 7, 8, 9, 10, 11, 12, 13, 14, 15, 16, 17, 18, 19, 20, 21, 22, 23, 24, 25, 26, 27, 28, 29, 30, 31, 32, 33, 34, 35, 36, 37, 38, 39, 40, 41, 42, 43, 44, 45, 46, 47, 48, 49, 50, 51, 52]] (some [(7, 15), (7, 26), (7, 34), (7, 46), (7, 51), (15, 26), (15, 34), (15, 46), (26, 34), (26, 46), (26, 51), (34, 46), (34, 51), (46, 51)]) (l) (by kernel_rfl) (by kernel_rfl) zAtt ((fun _ h => .tail _ h)) ?_
  refine pzU ?_
  apply pl_q
  · exact q_load (v := va) rfl ma rfl
  · rfl
  · rfl
  · rfl
  refine pzU ?_
  apply pl_q
  · exact q_loadA (cs := R.N.cells) (n := 80) rfl mn (by rw [R.N.cells_size]; omega) (plc_cells R.N)
  · rfl
  · rfl
  · rfl
  refine pzU ?_
  refine pl_any2 [(7, _, fun v cs => OwnSl 68 9 v R.A.os.length (Ar.ocs R.A.os) cs), (15, _, fun v cs => OwnSl 220 10 v (usedD R.H.1).length (hcs (usedD R.H.1)) cs), (26, _, fun v cs => OwnSl 222 3 v R.H.2.length (Tr.ncs R.H.2) cs), (34, _, fun v cs => OwnSl 76 24 v R.T.length (Th.thcs R.T) cs), (46, _, fun v cs => OwnSl 3 1 v C (List.replicate C (.int .i64 0)) cs), (51, _, fun v cs => OwnSl 3 1 v (Qu.fsts LQ).length ((Qu.fsts LQ).map intQ) cs)] rfl rfl (fun _ h => .tail _ h) (fun _ h => by cases h) ⟨ad_copy (k := 9) (zs := [.int .i64 0, .int .i64 0, .int .i64 0, .int .i64 0, .int .i64 0, .int .i64 0, .int .i64 0, .int .i64 0, .int .i64 0]) rfl rfl rfl hoa (fun c hc => .tail _ (sA c hc)) (Ar.ocs_one _) (by omega) (by decide) rfl rfl, ad_call rfl rfl (fun l' hl => rused_any bs R.H.1 ls hB.s (by omega) hinv.valD l' fun c hc => hl _ (.tail _ (sS c hc))) rfl rfl, ad_copy (k := 3) (zs := [.int .i64 0, .int .i64 0, .int .i64 0]) rfl rfl rfl hoT (fun c hc => .tail _ (sT c hc)) Tr.ncs_ones (by omega) (by decide) rfl rfl, ad_copy (k := 24) rfl rfl rfl hoH (fun c hc => .tail _ (sH c hc)) Th.thcs_ones (by omega) (by decide) rfl rfl, ad_copy (k := 1) (zs := [.int .i64 0]) rfl rfl rfl hcu (fun c hc => .tail _ (sV c hc)) (fun u hu => by rw [List.eq_of_mem_replicate hu]; rfl) (by omega) (by decide) rfl rfl, ad_call rfl rfl (fun l' hl => Qu.rall_any p.q LQ Q hqu (by omega) l' fun c hc => hl _ (.tail _ (sQ c hc))) rfl rfl, trivial⟩ (by kernel_rfl) (by kernel_rfl) (by kernel_rfl) ?_
  intro vo co ho vc cc hc vt ct ht vh ch hh vr cr hr vq cq hq
  simp only [putF, AddK]
  simp only at ho hc ht hh hr hq
  apply pl_q
  · exact q_build rfl (vw_build7 R.N ho.one hc.one ht.one hh.one hr.one hq.one)
  · rfl
  · rfl
  · rfl
  have hlv : (vwV vo vc vt vh R.N vr vq).length = 86 := by simp [plc_len]
  apply pl_n
  · refine e_storeA (cs := List.toArray (nilS :: nilS :: nilS :: nilS :: (z80n ++ [nilS, nilS]))) (T := 49) (l' := cq ++ (cr ++ (ch ++ (ct ++ (cc ++ (co ++ vwC b2 vo vc vt vh R.N vr vq :: l)))))) rfl rfl hlv ?_ ?_ ?_
    · intro v hv
      simp only [List.toList_toArray, List.mem_cons, List.mem_append, List.not_mem_nil, or_false] at hv
      rcases hv with rfl | rfl | rfl | rfl | hv | rfl | rfl
      · exact ho.one
      · exact hc.one
      · exact ht.one
      · exact hh.one
      · exact plc_one _ v hv
      · exact hr.one
      · exact hq.one
    · rw [List.toList_toArray, As.setFrom_all _ _ (by simp [plc_len]; rfl)]
      exact upd_pre (upd_pre (upd_pre (upd_pre (upd_pre (upd_pre .here co) cc) ct) ch) cr) cq
    · show 0 + 86 ≤ (nilS :: nilS :: nilS :: nilS :: (z80n ++ [nilS, nilS])).length
      decide
  · rfl
  · rfl
  · rintro _ _ ⟨_, rfl⟩ c hc; simp [hc]
  rintro _ _ ⟨rfl, rfl⟩
  refine pzU ?_
  refine gzU ?_
  refine k_ret2 [] (vwC b2 vo vc vt vh R.N vr vq :: (cq ++ (cr ++ (ch ++ (ct ++ (cc ++ (co ++ l))))))) rfl (kvw1 ..) (rs_cellA rfl (.head _) (As.LSub.of_all (n := 86) _ hlv) .nil) (.drop .refl) ?_
  exact ⟨⟨vo, vc, vt, vh, vr, vq, co, cc, ct, ch, cr, cq⟩, rfl, ⟨ho, hc, ht, hh, hr, hq⟩, cq ++ (cr ++ (ch ++ (ct ++ (cc ++ co)))), by simp only [List.append_assoc], fun c hc => by simp only [List.mem_append]; rcases hc with h | h | h | h | h | h <;> simp [h]⟩
set_option maxRecDepth 20000 in
abbrev obKs : List (Option IntKind) := [some .i64, some .i64, some .i64, some .i64, some .i64, some .i64, some .i64, some .i64, some .i64]
theorem obC_k (o : Ar.ObT) : AllK obKs (Ar.obC o) := ⟨_, _, rfl, ⟨_, rfl⟩, _, _, rfl, ⟨_, rfl⟩, _, _, rfl, ⟨_, rfl⟩, _, _, rfl, ⟨_, rfl⟩, _, _, rfl, ⟨_, rfl⟩, _, _, rfl, ⟨_, rfl⟩, _, _, rfl, ⟨_, rfl⟩, _, _, rfl, ⟨_, rfl⟩, _, _, rfl, ⟨_, rfl⟩, rfl⟩
instance : EQ Tryz.prog 68 obKs := ⟨by kernel_rfl⟩
theorem sameObjects_any {α : Type} [DecidableEq α] (enc : α → List Value) (hin : ∀ x y, enc x = enc y → x = y) (hk : ∀ x, AllK obKs (enc x)) (v u : Value) (xs ys : List α) (l : List Chunk) (h1 : RowSl l v 9 enc xs) (h2 : RowSl l u 9 enc ys) (hx : xs.length ≤ 1000000) :
    Fn Tryz.prog 43 [v, u] l fun r l' => r = .bool (decide (xs = ys)) ∧ l' = l := by
  obtain ⟨a, ca, rfl, h1⟩ := h1
  obtain ⟨a', ca', rfl, h2⟩ := h2
  refine fn_of_body Tryz.func43 rfl rfl fun E => ?_
  simp only [argF, Tryz.ntmps43]
  by_cases hl : xs.length = ys.length
  · refine gz ?_
    refine k_loop (α := Nat) (fun k => [(0, .slice a xs.length ca), (1, .slice a' ys.length ca'), (5, .int .i64 k)]) (fun k => l) (fun k => k ≤ xs.length ∧ ∀ j, j < k → xs[j]? = ys[j]?) (fun k => xs.length - k) 0 ⟨Nat.zero_le _, fun j h => by omega⟩ ⟨rfl, rfl, rfl, trivial⟩ .refl ?_
    rintro k ⟨hk2, hj⟩
    by_cases hlt : k < xs.length
    · obtain ⟨b, off, cs, t, fz, rfl, hm, hc⟩ := h1 (by omega)
      obtain ⟨b', off', cs', t', fz', rfl, hm', hc'⟩ := h2 (by omega)
      obtain ⟨x, e1⟩ : ∃ x, xs[k]? = some x := ⟨_, List.getElem?_eq_getElem hlt⟩
      obtain ⟨y, e2⟩ : ∃ y, ys[k]? = some y := ⟨_, List.getElem?_eq_getElem (show k < ys.length by omega)⟩
      obtain ⟨g1, g2⟩ := hc k x e1
      obtain ⟨g1', g2'⟩ := hc' k y e2
      refine gz ?_
      refine c_draw [(0, true), (1, true), (2, true), (3, true), (4, true), (5, true), (6, true), (7, true), (8, true)] [[], [], [0, 1], [0, 1, 2], [], [], [4, 5], [4, 5, 6], [0, 1, 2, 3, 4, 5, 6, 7]] _ (by kernel_rfl) (by kernel_rfl) zAtt (fun _ h => h) ?_
      refine pz ?_
      apply pl_q
      · exact q_loadA rfl hm g1 g2
      · rfl
      · rfl
      · rfl
      refine pz ?_
      apply pl_q
      · exact q_loadA rfl hm' g1' g2'
      · rfl
      · rfl
      · rfl
      refine pz ?_
      apply pl_q
      · exact q_neagg rfl rfl (hk x) (hk y)
      · rfl
      · rfl
      · rfl
      by_cases hxy : x = y
      · rw [show (!eqCells (enc x) (enc y)) = false by rw [hxy, eqCells_self (hk y)]; rfl]
        refine pz ?_
        refine gz ?_
        exact k_next (k + 1) ⟨by omega, fun j hjk => by
          by_cases e : j = k
          · subst e; rw [e1, e2, hxy]
          · exact hj j (by omega)⟩ (by omega) ⟨rfl, rfl, rfl, trivial⟩ .refl
      · rw [show (!eqCells (enc x) (enc y)) = true by
          cases h : eqCells (enc x) (enc y) with
          | false => rfl
          | true => exact absurd (hin _ _ ((eqCells_iff (hk x) (hk y)).1 h)) hxy]
        refine pz ?_
        refine gz ?_
        refine k_ret [] rfl .refl (by exact zRes) ⟨?_, rfl⟩
        rw [show decide (xs = ys) = false from decide_eq_false fun e => by subst e; rw [e1] at e2; exact hxy (by cases e2; rfl)]; rfl
    · obtain rfl : k = xs.length := by omega
      refine gz ?_
      refine k_ret [] rfl .refl (by exact zRes) ⟨?_, rfl⟩
      rw [show decide (xs = ys) = true from decide_eq_true (List.ext_getElem? fun j => by
        by_cases h : j < xs.length
        · exact hj j h
        · rw [List.getElem?_eq_none (by omega), List.getElem?_eq_none (by omega)])]; rfl
  · refine gz ?_
    refine k_ret [] rfl .refl (by exact zRes) ⟨?_, rfl⟩
    rw [show decide (xs = ys) = false from decide_eq_false fun e => hl (by rw [e])]; rfl
theorem obC_inj (x y : Ar.ObT) (h : Ar.obC x = Ar.obC y) : x = y := by
  cases x; cases y
  simp only [Ar.obC, List.cons.injEq, Value.int.injEq, true_and, and_true] at h
  simp only [Ar.ObT.mk.injEq]
  exact h
theorem nV_inj (x y : Tr.SlotT × Int) (h : Tr.nV x = Tr.nV y) : x = y := by
  simp only [Tr.nV, List.cons.injEq, Value.int.injEq, true_and, and_true] at h
  exact Prod.ext (Prod.ext h.1 h.2.1) h.2.2
theorem nV_k (x : Tr.SlotT × Int) : AllK [some .i64, some .i64, some .i64] (Tr.nV x) := ⟨_, _, rfl, ⟨_, rfl⟩, _, _, rfl, ⟨_, rfl⟩, _, _, rfl, ⟨_, rfl⟩, rfl⟩
theorem OwnSl.zeros {v : Value} {C : Nat} {cs l : List Chunk} (h : OwnSl 3 1 v C (List.replicate C (.int .i64 0)) cs) (hs : ∀ c, c ∈ cs → c ∈ l) : IntSl l v (List.replicate C 0) := by
  refine OwnSl.intsQ (e := 3) (cs := cs) ?_ hs
  rw [List.length_replicate, List.map_replicate]
  exact h
theorem vw_at (vo vc vt vh : Value) (N : As.ASt) (vr vq : Value) : (List.toArray (vwV vo vc vt vh N vr vq))[84]? = some vr ∧ (List.toArray (vwV vo vc vt vh N vr vq))[85]? = some vq := by
  have h1 := cell_get (LGet.mid (vo :: vc :: vt :: vh :: plc N) [vq] vr (k := 84) (by simp [plc_len]))
  have h2 := cell_get (LGet.mid (vo :: vc :: vt :: vh :: (plc N ++ [vr])) [] vq (k := 85) (by simp [plc_len]))
  exact ⟨by simpa [vwV] using h1, by simpa [vwV] using h2⟩
theorem LSub.front : ∀ (A B : List Value), LSub (A ++ B) 0 A.length A
  | [], B => .done
  | a :: A, B => .take (LSub.front A B)
theorem vw_pools (vo vc vt vh : Value) (N : As.ASt) (vr vq : Value) : LSub (vwV vo vc vt vh N vr vq) 4 80 (plc N) := by
  refine .drop (.drop (.drop (.drop ?_)))
  have := LSub.front (plc N) [vr, vq]
  rwa [plc_len] at this
def poolK : List (Option IntKind) := (List.replicate 8 [some .i64, none, some .i64, some .i64, some .i64, some .i64, some .i64, some .i64, some .i64, some .i64]).flatten
instance : EQ Tryz.prog 47 poolK := ⟨by kernel_rfl⟩
theorem plc_k (N : As.ASt) : AllK poolK (plc N) := allK_of (by rfl)
set_option maxHeartbeats 4000000 in
theorem sameView_any (C : Nat) (R : RT) (qs : List Int) (x y : VwL) (hx : IsVwL C R qs x) (hy : IsVwL C R qs y) (hC : C ≤ 3) (z1 : R.A.os.length ≤ 900000) (z2 : (usedD R.H.1).length ≤ 900000) (z3 : R.H.2.length ≤ 900000) (z4 : R.T.length ≤ 900000) (z5 : qs.length ≤ 900000) (l : List Chunk)
    (hlx : ∀ c, (c ∈ x.co ∨ c ∈ x.cc ∨ c ∈ x.ct ∨ c ∈ x.ch ∨ c ∈ x.cr ∨ c ∈ x.cq) → c ∈ l) (hly : ∀ c, (c ∈ y.co ∨ c ∈ y.cc ∨ c ∈ y.ct ∨ c ∈ y.ch ∨ c ∈ y.cr ∨ c ∈ y.cq) → c ∈ l) :
    Fn Tryz.prog 14 [.agg (List.toArray (vwV x.vo x.vc x.vt x.vh R.N x.vr x.vq)), .agg (List.toArray (vwV y.vo y.vc y.vt y.vh R.N y.vr y.vq))] l fun v l' => v = .bool true ∧ l' = l := by
  letI : DecidableEq HdT := fun _ _ => Classical.propDecidable _
  letI : DecidableEq Th.ThT := fun _ _ => Classical.propDecidable _
  have xo := hx.o.one
  have xc := hx.c.one
  have xt := hx.t.one
  have xh := hx.h.one
  have xr := hx.r.one
  have xq := hx.q.one
  have yo := hy.o.one
  have yc := hy.c.one
  have yt := hy.t.one
  have yh := hy.h.one
  have yr := hy.r.one
  have yq := hy.q.one
  have gx := vw_at x.vo x.vc x.vt x.vh R.N x.vr x.vq
  have gy := vw_at y.vo y.vc y.vt y.vh R.N y.vr y.vq
  obtain ⟨U, hU⟩ : ∃ U, U = vwV x.vo x.vc x.vt x.vh R.N x.vr x.vq := ⟨_, rfl⟩
  obtain ⟨W, hW⟩ : ∃ W, W = vwV y.vo y.vc y.vt y.vh R.N y.vr y.vq := ⟨_, rfl⟩
  have u0 : (List.toArray U)[0]? = some x.vo := by rw [hU]; rfl
  have u1 : (List.toArray U)[1]? = some x.vc := by rw [hU]; rfl
  have u2 : (List.toArray U)[2]? = some x.vt := by rw [hU]; rfl
  have u3 : (List.toArray U)[3]? = some x.vh := by rw [hU]; rfl
  have u5 : (List.toArray U)[84]? = some x.vr := by rw [hU]; exact gx.1
  have u6 : (List.toArray U)[85]? = some x.vq := by rw [hU]; exact gx.2
  have w0 : (List.toArray W)[0]? = some y.vo := by rw [hW]; rfl
  have w1 : (List.toArray W)[1]? = some y.vc := by rw [hW]; rfl
  have w2 : (List.toArray W)[2]? = some y.vt := by rw [hW]; rfl
  have w3 : (List.toArray W)[3]? = some y.vh := by rw [hW]; rfl
  have w5 : (List.toArray W)[84]? = some y.vr := by rw [hW]; exact gy.1
  have w6 : (List.toArray W)[85]? = some y.vq := by rw [hW]; exact gy.2
  have u4 : LSub U 4 80 (plc R.N) := by rw [hU]; exact vw_pools ..
  have w4 : LSub W 4 80 (plc R.N) := by rw [hW]; exact vw_pools ..
  rw [← hU, ← hW]
  clear hU hW gx gy
  have hp := plc_k R.N
  refine fn_of_body Tryz.func14 rfl rfl fun E => ?_
  simp only [argF, Tryz.ntmps14]
  refine gzU ?_
  refine t_e (e_boxA rfl) rfl rfl rfl ?_
  rintro _ _ ⟨b2, _, rfl, rfl⟩
  refine t_e (e_boxA rfl) rfl rfl rfl ?_
  rintro _ _ ⟨b3, _, rfl, rfl⟩
  have hlx' : ∀ (l2 : List Chunk), (∀ c, c ∈ (b3, Obj.cells (List.toArray W) 49 (0, 0)) :: (b2, Obj.cells (List.toArray U) 49 (0, 0)) :: l → c ∈ l2) → ∀ c, c ∈ l → c ∈ l2 := fun l2 hl c hc => hl c (.tail _ (.tail _ hc))
  refine gzU ?_
  refine t_q (q_call rfl rfl (fun l2 hl => sameObjects_any Ar.obC obC_inj obC_k x.vo y.vo R.A.os R.A.os l2 (OwnSl.rowSl hx.o (fun _ => rfl) fun c hc => hlx' l2 hl c (hlx c (.inl hc))) (OwnSl.rowSl hy.o (fun _ => rfl) fun c hc => hlx' l2 hl c (hly c (.inl hc))) (by omega))) rfl rfl rfl ?_
  rw [decide_eq_true rfl]
  refine gzU ?_
  refine t_h (q_call rfl rfl (fun l2 hl => sameHeld_any encE encE_inj encE_k x.vc y.vc (usedD R.H.1) (usedD R.H.1) l2 (OwnSl.rowSl hx.c (fun _ => rfl) fun c hc => hlx' l2 hl c (hlx c (.inr (.inl hc)))) (OwnSl.rowSl hy.c (fun _ => rfl) fun c hc => hlx' l2 hl c (hly c (.inr (.inl hc)))) (by omega))) rfl rfl rfl ?_
  rw [decide_eq_true rfl]
  refine gzU ?_
  refine t_h (q_call rfl rfl (fun l2 hl => Tr.sameNodes_any Tr.nV nV_inj nV_k x.vt y.vt R.H.2 R.H.2 l2 (OwnSl.rowSl hx.t (fun _ => rfl) fun c hc => hlx' l2 hl c (hlx c (.inr (.inr (.inl hc))))) (OwnSl.rowSl hy.t (fun _ => rfl) fun c hc => hlx' l2 hl c (hly c (.inr (.inr (.inl hc))))) (by omega))) rfl rfl rfl ?_
  rw [decide_eq_true rfl]
  refine gzU ?_
  refine t_h (q_call rfl rfl (fun l2 hl => Th.sameThreads_any Th.encH Th.encH_inj Th.encH_k x.vh y.vh R.T R.T l2 (OwnSl.rowSl hx.h (fun _ => rfl) fun c hc => hlx' l2 hl c (hlx c (.inr (.inr (.inr (.inl hc)))))) (OwnSl.rowSl hy.h (fun _ => rfl) fun c hc => hlx' l2 hl c (hly c (.inr (.inr (.inr (.inl hc)))))) (by omega))) rfl rfl rfl ?_
  rw [decide_eq_true rfl]
  refine gzU ?_
  refine t_h (q_loadL rfl (.tail _ (.head _)) u4) rfl rfl rfl ?_
  refine gzU ?_
  refine t_h (q_loadL rfl (.head _) w4) rfl rfl rfl ?_
  refine t_h (q_eqself rfl rfl hp) rfl rfl rfl ?_
  refine gzU ?_
  refine t_h (q_call rfl rfl (fun l2 hl => sameInts_any x.vr y.vr (List.replicate C 0) (List.replicate C 0) l2 (hx.r.zeros fun c hc => hlx' l2 hl c (hlx c (.inr (.inr (.inr (.inr (.inl hc))))))) (hy.r.zeros fun c hc => hlx' l2 hl c (hly c (.inr (.inr (.inr (.inr (.inl hc))))))) (by rw [List.length_replicate]; omega))) rfl rfl rfl ?_
  rw [decide_eq_true rfl]
  refine gzU ?_
  refine t_h (q_call rfl rfl (fun l2 hl => sameInts_any x.vq y.vq qs qs l2 (hx.q.intsQ fun c hc => hlx' l2 hl c (hlx c (.inr (.inr (.inr (.inr (.inr hc))))))) (hy.q.intsQ fun c hc => hlx' l2 hl c (hly c (.inr (.inr (.inr (.inr (.inr hc))))))) (by omega))) rfl rfl rfl ?_
  rw [decide_eq_true rfl]
  refine gzU ?_
  exact k_ret [] rfl (l' := l) (.drop (.drop .refl)) (by exact zRes) ⟨rfl, rfl⟩
theorem rat30_any (n i : Int) (l : List Chunk) : Fn Tryz.prog 104 [.int .i64 n, .int .i64 i] l fun v l' => v = .agg (List.toArray (encT (n, i))) ∧ l' = l := by
  refine fn_of_body Tryz.func104 rfl rfl fun E => ?_
  simp only [argF, Tryz.ntmps104]
  refine gzU ?_
  refine t_e e_alloc rfl rfl rfl ?_; rintro _ _ ⟨b3, _, rfl, rfl⟩
  refine gzU ?_
  exact k_ret2 [] ((b3, .cells (List.toArray (encT (n, i))) 109 (0, 0)) :: l) rfl (l' := l) (by exact zKeep) (by exact zRes) (by exact zKeep) ⟨rfl, rfl⟩
set_option maxHeartbeats 4000000 in
theorem rcaps_false (F C n : Nat) (R : RT) (L : List (Int × Int)) (b : Nat) (p : RP) (s : RL) (hR : IsRR F C n R L p s) (hn : n ≤ 900) (o : OwT) (v : Value) (G : List Chunk) (hv : IntSl G v [o.th, o.nd, o.rt, o.pl, o.un]) : Fn Tryz.prog 34 [pV b, v, .bool false] (allR b p s R.N G) fun v l' => v = .tuple #[] ∧ ∃ s', IsRR F C (n + 8) { R with H := layH R.H o false } L p s' ∧ l' = allR b p s' R.N G := by
  obtain ⟨M, C0, A, H, T, Q, E0, V⟩ := s
  obtain ⟨hmem, hco, har, han, hho, hinv, hgiv, hfit, hth, hta, htl, hqu, hql, hen, hel, hcu, hc1⟩ := hR
  simp only at hmem hco har hho hth hqu hen hcu
  obtain ⟨a, cap, rfl, hv⟩ := hv
  rw [show ([o.th, o.nd, o.rt, o.pl, o.un] : List Int).length = 5 from rfl] at hv ⊢
  obtain ⟨bB, off, cs, t, fz, rfl, hmG, hc⟩ := hv (by omega)
  have d0 := hc 0 _ rfl
  have d1 := hc 1 _ rfl
  have d2 := hc 2 _ rfl
  have d3 := hc 3 _ rfl
  have d4 := hc 4 _ rfl
  have hsub : ∀ X c, c ∈ [rrC b p, (bB, Obj.cells cs t fz)] → c ∈ allR b p ⟨M, C0, A, X, T, Q, E0, V⟩ R.N G := fun X c hc => by
    rcases List.mem_cons.1 hc with rfl | hc
    · exact .head _
    · rw [List.mem_singleton.1 hc]; unfold allR; simp [hmG]
  have m0 := hsub H _ (.head _)
  have e0 := hsub H _ (.tail _ (.head _))
  obtain ⟨K, hK⟩ : ∃ K, K = R.H := ⟨_, rfl⟩
  rw [← hK] at hho hinv
  refine fn_of_body Tryz.func34 rfl rfl fun E => ?_
  simp only [argF, Tryz.ntmps34]
  refine gzU ?_
  refine t_q (q_load (v := .int .i64 o.nd) rfl e0 d1) rfl rfl rfl ?_
  refine gzU ?_
  refine c_draw [(0, true), (1, true), (2, true), (3, true), (4, true), (5, true), (6, true), (7, true), (8, false)] [[], [0], [0, 1], [0, 1, 2], [], [4], [], [6], [0, 1, 2, 3, 4, 5, 6, 7]] ([rrC b p, (bB, Obj.cells cs t fz)]) (by kernel_rfl) (by kernel_rfl) zAtt ((hsub H)) ?_
  refine pzU ?_
  apply pl_q
  · exact q_call rfl rfl (fun l2 hl => rat30_any o.nd 1 l2)
  · rfl
  · rfl
  · rfl
  refine pzU ?_
  apply pl_e
  · exact e_call0 rfl rfl (Fn.mvP (fun X => allR b p ⟨M, C0, A, X, T, Q, E0, V⟩ R.N G) (rhroot_any p.h K (n + 0) hinv (by omega) H hho (o.nd, 1) (capX 2 o.nd 8) (capX_w _ _ _) _) (fun X => pmH ..))
  · rfl
  · rfl
  · rfl
  · rintro _ _ ⟨_, X, _, rfl⟩; exact hsub X
  rintro _ _ ⟨rfl, l1, h1, rfl⟩
  refine pzU ?_
  obtain ⟨K1, hK1⟩ : ∃ K1, K1 = (rootH K (o.nd, 1) (capX 2 o.nd 8)).2 := ⟨_, rfl⟩
  have hI1 : InvH K1 (n + 1) := by rw [hK1]; exact (InvH.root hinv _ _ (capX_w _ _ _))
  rw [← hK1] at h1
  have m1 := hsub l1 _ (.head _)
  have e1 := hsub l1 _ (.tail _ (.head _))
  clear m0 e0
  refine gzU ?_
  refine c_draw [(0, true), (1, true), (2, true), (3, true), (4, true), (5, true), (6, true), (7, true), (8, true), (9, true), (10, false)] [[], [0], [0, 1], [0, 1, 2], [], [4], [], [6], [6, 7], [6, 7, 8], [0, 1, 2, 3, 4, 5, 6, 7, 8, 9]] ([rrC b p, (bB, Obj.cells cs t fz)]) (by kernel_rfl) (by kernel_rfl) zAtt ((hsub l1)) ?_
  refine pzU ?_
  apply pl_q
  · exact q_call rfl rfl (fun l2 hl => rat30_any o.nd 2 l2)
  · rfl
  · rfl
  · rfl
  refine pzU ?_
  apply pl_q
  · exact q_load (v := .int .i64 o.th) rfl (.tail _ (.head _)) d0
  · rfl
  · rfl
  · rfl
  refine pzU ?_
  apply pl_e
  · exact e_call0 rfl rfl (Fn.mvP (fun X => allR b p ⟨M, C0, A, X, T, Q, E0, V⟩ R.N G) (rhroot_any p.h K1 (n + 1) hI1 (by omega) l1 h1 (o.nd, 2) (capX 9 o.th 0) (capX_w _ _ _) _) (fun X => pmH ..))
  · rfl
  · rfl
  · rfl
  · rintro _ _ ⟨_, X, _, rfl⟩; exact hsub X
  rintro _ _ ⟨rfl, l2, h2, rfl⟩
  refine pzU ?_
  obtain ⟨K2, hK2⟩ : ∃ K2, K2 = (rootH K1 (o.nd, 2) (capX 9 o.th 0)).2 := ⟨_, rfl⟩
  have hI2 : InvH K2 (n + 2) := by rw [hK2]; exact (InvH.root hI1 _ _ (capX_w _ _ _))
  rw [← hK2] at h2
  have m2 := hsub l2 _ (.head _)
  have e2 := hsub l2 _ (.tail _ (.head _))
  clear m1 e1
  refine gzU ?_
  refine c_draw [(0, true), (1, true), (2, true), (3, true), (4, true), (5, true), (6, true), (7, true), (8, true), (9, true), (10, false)] [[], [0], [0, 1], [0, 1, 2], [], [4], [], [6], [6, 7], [6, 7, 8], [0, 1, 2, 3, 4, 5, 6, 7, 8, 9]] ([rrC b p, (bB, Obj.cells cs t fz)]) (by kernel_rfl) (by kernel_rfl) zAtt ((hsub l2)) ?_
  refine pzU ?_
  apply pl_q
  · exact q_call rfl rfl (fun l2 hl => rat30_any o.nd 3 l2)
  · rfl
  · rfl
  · rfl
  refine pzU ?_
  apply pl_q
  · exact q_load (v := .int .i64 o.un) rfl (.tail _ (.head _)) d4
  · rfl
  · rfl
  · rfl
  refine pzU ?_
  apply pl_e
  · exact e_call0 rfl rfl (Fn.mvP (fun X => allR b p ⟨M, C0, A, X, T, Q, E0, V⟩ R.N G) (rhroot_any p.h K2 (n + 2) hI2 (by omega) l2 h2 (o.nd, 3) (capX 1 o.un 0) (capX_w _ _ _) _) (fun X => pmH ..))
  · rfl
  · rfl
  · rfl
  · rintro _ _ ⟨_, X, _, rfl⟩; exact hsub X
  rintro _ _ ⟨rfl, l3, h3, rfl⟩
  refine pzU ?_
  obtain ⟨K3, hK3⟩ : ∃ K3, K3 = (rootH K2 (o.nd, 3) (capX 1 o.un 0)).2 := ⟨_, rfl⟩
  have hI3 : InvH K3 (n + 3) := by rw [hK3]; exact (InvH.root hI2 _ _ (capX_w _ _ _))
  rw [← hK3] at h3
  have m3 := hsub l3 _ (.head _)
  have e3 := hsub l3 _ (.tail _ (.head _))
  clear m2 e2
  refine gzU ?_
  refine c_draw [(0, true), (1, true), (2, true), (3, true), (4, true), (5, true), (6, true), (7, true), (8, true), (9, true), (10, false)] [[], [0], [0, 1], [0, 1, 2], [], [4], [], [6], [6, 7], [6, 7, 8], [0, 1, 2, 3, 4, 5, 6, 7, 8, 9]] ([rrC b p, (bB, Obj.cells cs t fz)]) (by kernel_rfl) (by kernel_rfl) zAtt ((hsub l3)) ?_
  refine pzU ?_
  apply pl_q
  · exact q_call rfl rfl (fun l2 hl => rat30_any o.nd 4 l2)
  · rfl
  · rfl
  · rfl
  refine pzU ?_
  apply pl_q
  · exact q_load (v := .int .i64 o.rt) rfl (.tail _ (.head _)) d2
  · rfl
  · rfl
  · rfl
  refine pzU ?_
  apply pl_e
  · exact e_call0 rfl rfl (Fn.mvP (fun X => allR b p ⟨M, C0, A, X, T, Q, E0, V⟩ R.N G) (rhroot_any p.h K3 (n + 3) hI3 (by omega) l3 h3 (o.nd, 4) (capX 5 o.rt 0) (capX_w _ _ _) _) (fun X => pmH ..))
  · rfl
  · rfl
  · rfl
  · rintro _ _ ⟨_, X, _, rfl⟩; exact hsub X
  rintro _ _ ⟨rfl, l4, h4, rfl⟩
  refine pzU ?_
  obtain ⟨K4, hK4⟩ : ∃ K4, K4 = (rootH K3 (o.nd, 4) (capX 5 o.rt 0)).2 := ⟨_, rfl⟩
  have hI4 : InvH K4 (n + 4) := by rw [hK4]; exact (InvH.root hI3 _ _ (capX_w _ _ _))
  rw [← hK4] at h4
  have m4 := hsub l4 _ (.head _)
  have e4 := hsub l4 _ (.tail _ (.head _))
  clear m3 e3
  refine gzU ?_
  refine c_draw [(0, true), (1, true), (2, true), (3, true), (4, true), (5, true), (6, true), (7, true), (8, true), (9, true), (10, false)] [[], [0], [0, 1], [0, 1, 2], [], [4], [], [6], [6, 7], [6, 7, 8], [0, 1, 2, 3, 4, 5, 6, 7, 8, 9]] ([rrC b p, (bB, Obj.cells cs t fz)]) (by kernel_rfl) (by kernel_rfl) zAtt ((hsub l4)) ?_
  refine pzU ?_
  apply pl_q
  · exact q_call rfl rfl (fun l2 hl => rat30_any o.nd 6 l2)
  · rfl
  · rfl
  · rfl
  refine pzU ?_
  apply pl_q
  · exact q_load (v := .int .i64 o.pl) rfl (.tail _ (.head _)) d3
  · rfl
  · rfl
  · rfl
  refine pzU ?_
  apply pl_e
  · exact e_call0 rfl rfl (Fn.mvP (fun X => allR b p ⟨M, C0, A, X, T, Q, E0, V⟩ R.N G) (rhroot_any p.h K4 (n + 4) hI4 (by omega) l4 h4 (o.nd, 6) (capX 6 o.pl 0) (capX_w _ _ _) _) (fun X => pmH ..))
  · rfl
  · rfl
  · rfl
  · rintro _ _ ⟨_, X, _, rfl⟩; exact hsub X
  rintro _ _ ⟨rfl, l5, h5, rfl⟩
  refine pzU ?_
  obtain ⟨K5, hK5⟩ : ∃ K5, K5 = (rootH K4 (o.nd, 6) (capX 6 o.pl 0)).2 := ⟨_, rfl⟩
  have hI5 : InvH K5 (n + 5) := by rw [hK5]; exact (InvH.root hI4 _ _ (capX_w _ _ _))
  rw [← hK5] at h5
  have m5 := hsub l5 _ (.head _)
  have e5 := hsub l5 _ (.tail _ (.head _))
  clear m4 e4
  refine gzU ?_
  refine c_draw [(0, true), (1, true), (2, true), (3, true), (4, true), (5, true), (6, true), (7, true), (8, true), (9, true), (10, false)] [[], [0], [0, 1], [0, 1, 2], [], [4], [], [6], [6, 7], [6, 7, 8], [0, 1, 2, 3, 4, 5, 6, 7, 8, 9]] ([rrC b p, (bB, Obj.cells cs t fz)]) (by kernel_rfl) (by kernel_rfl) zAtt ((hsub l5)) ?_
  refine pzU ?_
  apply pl_q
  · exact q_call rfl rfl (fun l2 hl => rat30_any o.nd 1 l2)
  · rfl
  · rfl
  · rfl
  refine pzU ?_
  apply pl_q
  · exact q_load (v := .int .i64 o.th) rfl (.tail _ (.head _)) d0
  · rfl
  · rfl
  · rfl
  refine pzU ?_
  apply pl_e
  · exact e_call0 rfl rfl (Fn.mvP (fun X => allR b p ⟨M, C0, A, X, T, Q, E0, V⟩ R.N G) (rhcopy_any p.h K5 (n + 5) hI5 (by omega) l5 h5 (o.nd, 1) (o.th, 0) 7 _) (fun X => pmH ..))
  · rfl
  · rfl
  · rfl
  · rintro _ _ ⟨_, X, _, rfl⟩; exact hsub X
  rintro _ _ ⟨rfl, l6, h6, rfl⟩
  refine pzU ?_
  obtain ⟨K6, hK6⟩ : ∃ K6, K6 = (derH K5 (o.nd, 1) (o.th, 0) (copyC (atD K5.1 (o.nd, 1)) 7)).2 := ⟨_, rfl⟩
  have hI6 : InvH K6 (n + 6) := by rw [hK6]; exact (InvH.der hI5 _ _ _ (copy_w (hI5.at _).2 _))
  rw [← hK6] at h6
  have m6 := hsub l6 _ (.head _)
  have e6 := hsub l6 _ (.tail _ (.head _))
  clear m5 e5
  refine gzU ?_
  refine c_draw [(0, true), (1, true), (2, true), (3, true), (4, true), (5, true), (6, true), (7, true), (8, true), (9, true), (10, false)] [[], [0], [0, 1], [0, 1, 2], [], [4], [], [6], [6, 7], [6, 7, 8], [0, 1, 2, 3, 4, 5, 6, 7, 8, 9]] ([rrC b p, (bB, Obj.cells cs t fz)]) (by kernel_rfl) (by kernel_rfl) zAtt ((hsub l6)) ?_
  refine pzU ?_
  apply pl_q
  · exact q_call rfl rfl (fun l2 hl => rat30_any o.nd 4 l2)
  · rfl
  · rfl
  · rfl
  refine pzU ?_
  apply pl_q
  · exact q_load (v := .int .i64 o.th) rfl (.tail _ (.head _)) d0
  · rfl
  · rfl
  · rfl
  refine pzU ?_
  apply pl_e
  · exact e_call0 rfl rfl (Fn.mvP (fun X => allR b p ⟨M, C0, A, X, T, Q, E0, V⟩ R.N G) (rhcopy_any p.h K6 (n + 6) hI6 (by omega) l6 h6 (o.nd, 4) (o.th, 1) 7 _) (fun X => pmH ..))
  · rfl
  · rfl
  · rfl
  · rintro _ _ ⟨_, X, _, rfl⟩; exact hsub X
  rintro _ _ ⟨rfl, l7, h7, rfl⟩
  refine pzU ?_
  obtain ⟨K7, hK7⟩ : ∃ K7, K7 = (derH K6 (o.nd, 4) (o.th, 1) (copyC (atD K6.1 (o.nd, 4)) 7)).2 := ⟨_, rfl⟩
  have hI7 : InvH K7 (n + 7) := by rw [hK7]; exact (InvH.der hI6 _ _ _ (copy_w (hI6.at _).2 _))
  rw [← hK7] at h7
  have m7 := hsub l7 _ (.head _)
  have e7 := hsub l7 _ (.tail _ (.head _))
  clear m6 e6
  refine gzU ?_
  have hL : layH R.H o false = K7 := by rw [hK7, hK6, hK5, hK4, hK3, hK2, hK1, hK]; rfl
  refine k_ret [] rfl .refl (by exact zRes) ?_
  refine ⟨rfl, ⟨M, C0, A, l7, T, Q, E0, V⟩, ?_, rfl⟩
  rw [hL]
  exact ⟨hmem, hco, har, han, h7, hI7.mono (by omega), fun j hj => by have := hgiv j hj; simp only; omega, hfit, hth, hta, by simp only; omega, hqu, by omega, hen, by simp only; omega, hcu, hc1⟩
set_option maxHeartbeats 4000000 in
theorem rcaps_true (F C n : Nat) (R : RT) (L : List (Int × Int)) (b : Nat) (p : RP) (s : RL) (hR : IsRR F C n R L p s) (hn : n ≤ 900) (o : OwT) (v : Value) (G : List Chunk) (hv : IntSl G v [o.th, o.nd, o.rt, o.pl, o.un]) : Fn Tryz.prog 34 [pV b, v, .bool true] (allR b p s R.N G) fun v l' => v = .tuple #[] ∧ ∃ s', IsRR F C (n + 8) { R with H := layH R.H o true } L p s' ∧ l' = allR b p s' R.N G := by
  obtain ⟨M, C0, A, H, T, Q, E0, V⟩ := s
  obtain ⟨hmem, hco, har, han, hho, hinv, hgiv, hfit, hth, hta, htl, hqu, hql, hen, hel, hcu, hc1⟩ := hR
  simp only at hmem hco har hho hth hqu hen hcu
  obtain ⟨a, cap, rfl, hv⟩ := hv
  rw [show ([o.th, o.nd, o.rt, o.pl, o.un] : List Int).length = 5 from rfl] at hv ⊢
  obtain ⟨bB, off, cs, t, fz, rfl, hmG, hc⟩ := hv (by omega)
  have d0 := hc 0 _ rfl
  have d1 := hc 1 _ rfl
  have d2 := hc 2 _ rfl
  have d3 := hc 3 _ rfl
  have d4 := hc 4 _ rfl
  have hsub : ∀ X c, c ∈ [rrC b p, (bB, Obj.cells cs t fz)] → c ∈ allR b p ⟨M, C0, A, X, T, Q, E0, V⟩ R.N G := fun X c hc => by
    rcases List.mem_cons.1 hc with rfl | hc
    · exact .head _
    · rw [List.mem_singleton.1 hc]; unfold allR; simp [hmG]
  have m0 := hsub H _ (.head _)
  have e0 := hsub H _ (.tail _ (.head _))
  obtain ⟨K, hK⟩ : ∃ K, K = R.H := ⟨_, rfl⟩
  rw [← hK] at hho hinv
  refine fn_of_body Tryz.func34 rfl rfl fun E => ?_
  simp only [argF, Tryz.ntmps34]
  refine gzU ?_
  refine t_q (q_load (v := .int .i64 o.nd) rfl e0 d1) rfl rfl rfl ?_
  refine gzU ?_
  refine c_draw [(0, true), (1, true), (2, true), (3, true), (4, true), (5, true), (6, true), (7, true), (8, false)] [[], [0], [0, 1], [0, 1, 2], [], [4], [], [6], [0, 1, 2, 3, 4, 5, 6, 7]] ([rrC b p, (bB, Obj.cells cs t fz)]) (by kernel_rfl) (by kernel_rfl) zAtt ((hsub H)) ?_
  refine pzU ?_
  apply pl_q
  · exact q_call rfl rfl (fun l2 hl => rat30_any o.nd 1 l2)
  · rfl
  · rfl
  · rfl
  refine pzU ?_
  apply pl_e
  · exact e_call0 rfl rfl (Fn.mvP (fun X => allR b p ⟨M, C0, A, X, T, Q, E0, V⟩ R.N G) (rhroot_any p.h K (n + 0) hinv (by omega) H hho (o.nd, 1) (capX 2 o.nd 8) (capX_w _ _ _) _) (fun X => pmH ..))
  · rfl
  · rfl
  · rfl
  · rintro _ _ ⟨_, X, _, rfl⟩; exact hsub X
  rintro _ _ ⟨rfl, l1, h1, rfl⟩
  refine pzU ?_
  obtain ⟨K1, hK1⟩ : ∃ K1, K1 = (rootH K (o.nd, 1) (capX 2 o.nd 8)).2 := ⟨_, rfl⟩
  have hI1 : InvH K1 (n + 1) := by rw [hK1]; exact (InvH.root hinv _ _ (capX_w _ _ _))
  rw [← hK1] at h1
  have m1 := hsub l1 _ (.head _)
  have e1 := hsub l1 _ (.tail _ (.head _))
  clear m0 e0
  refine gzU ?_
  refine c_draw [(0, true), (1, true), (2, true), (3, true), (4, true), (5, true), (6, true), (7, true), (8, true), (9, true), (10, false)] [[], [0], [0, 1], [0, 1, 2], [], [4], [], [6], [6, 7], [6, 7, 8], [0, 1, 2, 3, 4, 5, 6, 7, 8, 9]] ([rrC b p, (bB, Obj.cells cs t fz)]) (by kernel_rfl) (by kernel_rfl) zAtt ((hsub l1)) ?_
  refine pzU ?_
  apply pl_q
  · exact q_call rfl rfl (fun l2 hl => rat30_any o.nd 2 l2)
  · rfl
  · rfl
  · rfl
  refine pzU ?_
  apply pl_q
  · exact q_load (v := .int .i64 o.th) rfl (.tail _ (.head _)) d0
  · rfl
  · rfl
  · rfl
  refine pzU ?_
  apply pl_e
  · exact e_call0 rfl rfl (Fn.mvP (fun X => allR b p ⟨M, C0, A, X, T, Q, E0, V⟩ R.N G) (rhroot_any p.h K1 (n + 1) hI1 (by omega) l1 h1 (o.nd, 2) (capX 9 o.th 0) (capX_w _ _ _) _) (fun X => pmH ..))
  · rfl
  · rfl
  · rfl
  · rintro _ _ ⟨_, X, _, rfl⟩; exact hsub X
  rintro _ _ ⟨rfl, l2, h2, rfl⟩
  refine pzU ?_
  obtain ⟨K2, hK2⟩ : ∃ K2, K2 = (rootH K1 (o.nd, 2) (capX 9 o.th 0)).2 := ⟨_, rfl⟩
  have hI2 : InvH K2 (n + 2) := by rw [hK2]; exact (InvH.root hI1 _ _ (capX_w _ _ _))
  rw [← hK2] at h2
  have m2 := hsub l2 _ (.head _)
  have e2 := hsub l2 _ (.tail _ (.head _))
  clear m1 e1
  refine gzU ?_
  refine c_draw [(0, true), (1, true), (2, true), (3, true), (4, true), (5, true), (6, true), (7, true), (8, true), (9, true), (10, false)] [[], [0], [0, 1], [0, 1, 2], [], [4], [], [6], [6, 7], [6, 7, 8], [0, 1, 2, 3, 4, 5, 6, 7, 8, 9]] ([rrC b p, (bB, Obj.cells cs t fz)]) (by kernel_rfl) (by kernel_rfl) zAtt ((hsub l2)) ?_
  refine pzU ?_
  apply pl_q
  · exact q_call rfl rfl (fun l2 hl => rat30_any o.nd 3 l2)
  · rfl
  · rfl
  · rfl
  refine pzU ?_
  apply pl_q
  · exact q_load (v := .int .i64 o.un) rfl (.tail _ (.head _)) d4
  · rfl
  · rfl
  · rfl
  refine pzU ?_
  apply pl_e
  · exact e_call0 rfl rfl (Fn.mvP (fun X => allR b p ⟨M, C0, A, X, T, Q, E0, V⟩ R.N G) (rhroot_any p.h K2 (n + 2) hI2 (by omega) l2 h2 (o.nd, 3) (capX 1 o.un 0) (capX_w _ _ _) _) (fun X => pmH ..))
  · rfl
  · rfl
  · rfl
  · rintro _ _ ⟨_, X, _, rfl⟩; exact hsub X
  rintro _ _ ⟨rfl, l3, h3, rfl⟩
  refine pzU ?_
  obtain ⟨K3, hK3⟩ : ∃ K3, K3 = (rootH K2 (o.nd, 3) (capX 1 o.un 0)).2 := ⟨_, rfl⟩
  have hI3 : InvH K3 (n + 3) := by rw [hK3]; exact (InvH.root hI2 _ _ (capX_w _ _ _))
  rw [← hK3] at h3
  have m3 := hsub l3 _ (.head _)
  have e3 := hsub l3 _ (.tail _ (.head _))
  clear m2 e2
  refine gzU ?_
  refine c_draw [(0, true), (1, true), (2, true), (3, true), (4, true), (5, true), (6, true), (7, true), (8, true), (9, true), (10, false)] [[], [0], [0, 1], [0, 1, 2], [], [4], [], [6], [6, 7], [6, 7, 8], [0, 1, 2, 3, 4, 5, 6, 7, 8, 9]] ([rrC b p, (bB, Obj.cells cs t fz)]) (by kernel_rfl) (by kernel_rfl) zAtt ((hsub l3)) ?_
  refine pzU ?_
  apply pl_q
  · exact q_call rfl rfl (fun l2 hl => rat30_any o.nd 4 l2)
  · rfl
  · rfl
  · rfl
  refine pzU ?_
  apply pl_q
  · exact q_load (v := .int .i64 o.rt) rfl (.tail _ (.head _)) d2
  · rfl
  · rfl
  · rfl
  refine pzU ?_
  apply pl_e
  · exact e_call0 rfl rfl (Fn.mvP (fun X => allR b p ⟨M, C0, A, X, T, Q, E0, V⟩ R.N G) (rhroot_any p.h K3 (n + 3) hI3 (by omega) l3 h3 (o.nd, 4) (capX 5 o.rt 0) (capX_w _ _ _) _) (fun X => pmH ..))
  · rfl
  · rfl
  · rfl
  · rintro _ _ ⟨_, X, _, rfl⟩; exact hsub X
  rintro _ _ ⟨rfl, l4, h4, rfl⟩
  refine pzU ?_
  obtain ⟨K4, hK4⟩ : ∃ K4, K4 = (rootH K3 (o.nd, 4) (capX 5 o.rt 0)).2 := ⟨_, rfl⟩
  have hI4 : InvH K4 (n + 4) := by rw [hK4]; exact (InvH.root hI3 _ _ (capX_w _ _ _))
  rw [← hK4] at h4
  have m4 := hsub l4 _ (.head _)
  have e4 := hsub l4 _ (.tail _ (.head _))
  clear m3 e3
  refine gzU ?_
  refine c_draw [(0, true), (1, true), (2, true), (3, true), (4, true), (5, true), (6, true), (7, false)] [[], [0], [0, 1], [0, 1, 2], [], [4], [], [0, 1, 2, 3, 4, 5, 6]] ([rrC b p, (bB, Obj.cells cs t fz)]) (by kernel_rfl) (by kernel_rfl) zAtt ((hsub l4)) ?_
  refine pzU ?_
  apply pl_q
  · exact q_call rfl rfl (fun l2 hl => rat30_any o.nd 5 l2)
  · rfl
  · rfl
  · rfl
  refine pzU ?_
  apply pl_e
  · exact e_call0 rfl rfl (Fn.mvP (fun X => allR b p ⟨M, C0, A, X, T, Q, E0, V⟩ R.N G) (rhroot_any p.h K4 (n + 4) hI4 (by omega) l4 h4 (o.nd, 5) (capX 7 0 0) (capX_w _ _ _) _) (fun X => pmH ..))
  · rfl
  · rfl
  · rfl
  · rintro _ _ ⟨_, X, _, rfl⟩; exact hsub X
  rintro _ _ ⟨rfl, l5, h5, rfl⟩
  refine pzU ?_
  obtain ⟨K5, hK5⟩ : ∃ K5, K5 = (rootH K4 (o.nd, 5) (capX 7 0 0)).2 := ⟨_, rfl⟩
  have hI5 : InvH K5 (n + 5) := by rw [hK5]; exact (InvH.root hI4 _ _ (capX_w _ _ _))
  rw [← hK5] at h5
  have m5 := hsub l5 _ (.head _)
  have e5 := hsub l5 _ (.tail _ (.head _))
  clear m4 e4
  refine gzU ?_
  refine c_draw [(0, true), (1, true), (2, true), (3, true), (4, true), (5, true), (6, true), (7, true), (8, true), (9, true), (10, false)] [[], [0], [0, 1], [0, 1, 2], [], [4], [], [6], [6, 7], [6, 7, 8], [0, 1, 2, 3, 4, 5, 6, 7, 8, 9]] ([rrC b p, (bB, Obj.cells cs t fz)]) (by kernel_rfl) (by kernel_rfl) zAtt ((hsub l5)) ?_
  refine pzU ?_
  apply pl_q
  · exact q_call rfl rfl (fun l2 hl => rat30_any o.nd 6 l2)
  · rfl
  · rfl
  · rfl
  refine pzU ?_
  apply pl_q
  · exact q_load (v := .int .i64 o.pl) rfl (.tail _ (.head _)) d3
  · rfl
  · rfl
  · rfl
  refine pzU ?_
  apply pl_e
  · exact e_call0 rfl rfl (Fn.mvP (fun X => allR b p ⟨M, C0, A, X, T, Q, E0, V⟩ R.N G) (rhroot_any p.h K5 (n + 5) hI5 (by omega) l5 h5 (o.nd, 6) (capX 6 o.pl 0) (capX_w _ _ _) _) (fun X => pmH ..))
  · rfl
  · rfl
  · rfl
  · rintro _ _ ⟨_, X, _, rfl⟩; exact hsub X
  rintro _ _ ⟨rfl, l6, h6, rfl⟩
  refine pzU ?_
  obtain ⟨K6, hK6⟩ : ∃ K6, K6 = (rootH K5 (o.nd, 6) (capX 6 o.pl 0)).2 := ⟨_, rfl⟩
  have hI6 : InvH K6 (n + 6) := by rw [hK6]; exact (InvH.root hI5 _ _ (capX_w _ _ _))
  rw [← hK6] at h6
  have m6 := hsub l6 _ (.head _)
  have e6 := hsub l6 _ (.tail _ (.head _))
  clear m5 e5
  refine gzU ?_
  refine c_draw [(0, true), (1, true), (2, true), (3, true), (4, true), (5, true), (6, true), (7, true), (8, true), (9, true), (10, false)] [[], [0], [0, 1], [0, 1, 2], [], [4], [], [6], [6, 7], [6, 7, 8], [0, 1, 2, 3, 4, 5, 6, 7, 8, 9]] ([rrC b p, (bB, Obj.cells cs t fz)]) (by kernel_rfl) (by kernel_rfl) zAtt ((hsub l6)) ?_
  refine pzU ?_
  apply pl_q
  · exact q_call rfl rfl (fun l2 hl => rat30_any o.nd 1 l2)
  · rfl
  · rfl
  · rfl
  refine pzU ?_
  apply pl_q
  · exact q_load (v := .int .i64 o.th) rfl (.tail _ (.head _)) d0
  · rfl
  · rfl
  · rfl
  refine pzU ?_
  apply pl_e
  · exact e_call0 rfl rfl (Fn.mvP (fun X => allR b p ⟨M, C0, A, X, T, Q, E0, V⟩ R.N G) (rhcopy_any p.h K6 (n + 6) hI6 (by omega) l6 h6 (o.nd, 1) (o.th, 0) 7 _) (fun X => pmH ..))
  · rfl
  · rfl
  · rfl
  · rintro _ _ ⟨_, X, _, rfl⟩; exact hsub X
  rintro _ _ ⟨rfl, l7, h7, rfl⟩
  refine pzU ?_
  obtain ⟨K7, hK7⟩ : ∃ K7, K7 = (derH K6 (o.nd, 1) (o.th, 0) (copyC (atD K6.1 (o.nd, 1)) 7)).2 := ⟨_, rfl⟩
  have hI7 : InvH K7 (n + 7) := by rw [hK7]; exact (InvH.der hI6 _ _ _ (copy_w (hI6.at _).2 _))
  rw [← hK7] at h7
  have m7 := hsub l7 _ (.head _)
  have e7 := hsub l7 _ (.tail _ (.head _))
  clear m6 e6
  refine gzU ?_
  refine c_draw [(0, true), (1, true), (2, true), (3, true), (4, true), (5, true), (6, true), (7, true), (8, true), (9, true), (10, false)] [[], [0], [0, 1], [0, 1, 2], [], [4], [], [6], [6, 7], [6, 7, 8], [0, 1, 2, 3, 4, 5, 6, 7, 8, 9]] ([rrC b p, (bB, Obj.cells cs t fz)]) (by kernel_rfl) (by kernel_rfl) zAtt ((hsub l7)) ?_
  refine pzU ?_
  apply pl_q
  · exact q_call rfl rfl (fun l2 hl => rat30_any o.nd 4 l2)
  · rfl
  · rfl
  · rfl
  refine pzU ?_
  apply pl_q
  · exact q_load (v := .int .i64 o.th) rfl (.tail _ (.head _)) d0
  · rfl
  · rfl
  · rfl
  refine pzU ?_
  apply pl_e
  · exact e_call0 rfl rfl (Fn.mvP (fun X => allR b p ⟨M, C0, A, X, T, Q, E0, V⟩ R.N G) (rhcopy_any p.h K7 (n + 7) hI7 (by omega) l7 h7 (o.nd, 4) (o.th, 1) 7 _) (fun X => pmH ..))
  · rfl
  · rfl
  · rfl
  · rintro _ _ ⟨_, X, _, rfl⟩; exact hsub X
  rintro _ _ ⟨rfl, l8, h8, rfl⟩
  refine pzU ?_
  obtain ⟨K8, hK8⟩ : ∃ K8, K8 = (derH K7 (o.nd, 4) (o.th, 1) (copyC (atD K7.1 (o.nd, 4)) 7)).2 := ⟨_, rfl⟩
  have hI8 : InvH K8 (n + 8) := by rw [hK8]; exact (InvH.der hI7 _ _ _ (copy_w (hI7.at _).2 _))
  rw [← hK8] at h8
  have m8 := hsub l8 _ (.head _)
  have e8 := hsub l8 _ (.tail _ (.head _))
  clear m7 e7
  refine gzU ?_
  have hL : layH R.H o true = K8 := by rw [hK8, hK7, hK6, hK5, hK4, hK3, hK2, hK1, hK]; rfl
  refine k_ret [] rfl .refl (by exact zRes) ?_
  refine ⟨rfl, ⟨M, C0, A, l8, T, Q, E0, V⟩, ?_, rfl⟩
  rw [hL]
  exact ⟨hmem, hco, har, han, h8, hI8.mono (by omega), fun j hj => by have := hgiv j hj; simp only; omega, hfit, hth, hta, by simp only; omega, hqu, by omega, hen, by simp only; omega, hcu, hc1⟩
inductive InnS : List Value → List (List Int) → List Chunk → Prop
  | nil : InnS [] [] []
  | cons {v : Value} {r : List Int} {c : List Chunk} {vs : List Value} {rs : List (List Int)} {C : List Chunk} : OwnSl 3 1 v r.length (r.map intQ) c → InnS vs rs C → InnS (v :: vs) (r :: rs) (c ++ C)
theorem InnS.snoc {vs : List Value} {rs : List (List Int)} {C : List Chunk} (h : InnS vs rs C) {v : Value} {r : List Int} {c : List Chunk} (ho : OwnSl 3 1 v r.length (r.map intQ) c) : InnS (vs ++ [v]) (rs ++ [r]) (C ++ c) := by
  induction h with
  | nil => have := InnS.cons ho .nil; simpa using this
  | cons h1 _ ih => rw [List.append_assoc]; exact .cons h1 ih
theorem InnS.at {vs : List Value} {rs : List (List Int)} {C : List Chunk} (h : InnS vs rs C) : ∀ (j : Nat) (r : List Int), rs[j]? = some r → ∃ v C1 c C2, vs[j]? = some v ∧ C = C1 ++ (c ++ C2) ∧ OwnSl 3 1 v r.length (r.map intQ) c ∧ ∀ v' r' c', OwnSl 3 1 v' r'.length (r'.map intQ) c' → InnS (vs.set j v') (rs.set j r') (C1 ++ (c' ++ C2)) := by
  induction h with
  | nil => intro j r hj; simp at hj
  | @cons v0 r0 c0 vs0 rs0 C0 h1 h2 ih =>
    intro j r hj
    cases j with
    | zero =>
      simp only [List.getElem?_cons_zero, Option.some.injEq] at hj
      subst hj
      exact ⟨v0, [], c0, C0, rfl, rfl, h1, fun v' r' c' ho => show InnS _ _ (c' ++ C0) from .cons ho h2⟩
    | succ j =>
      obtain ⟨v, C1, c, C2, e1, rfl, e3, e4⟩ := ih j r (by simpa using hj)
      refine ⟨v, c0 ++ C1, c, C2, by simpa using e1, by simp, e3, fun v' r' c' ho => ?_⟩
      have := InnS.cons h1 (e4 v' r' c' ho)
      simpa using this
def quad (i : Nat) : List (Int × Int × Int) := [(9, 0, 7 * (i : Int)), (2, 4, 7 * (i : Int) + 1), (5, 0, 7 * (i : Int) + 5), (6, 0, 7 * (i : Int) + 6)]
def quads (i : Nat) : List (Int × Int × Int) := (List.range i).flatMap quad
theorem quads_succ (i : Nat) : quads (i + 1) = quads i ++ quad i := by unfold quads; rw [List.range_succ, List.flatMap_append]; simp
theorem quads_len (i : Nat) : (quads i).length = 4 * i := by
  induction i with
  | zero => rfl
  | succ i ih => rw [quads_succ, List.length_append, ih]; show 4 * i + 4 = _; omega
def endT (T : Nat) (sh : Bool) : List (Int × Int × Int) := if sh then [(8, 0, 7 * (T : Int))] else []
def unts (T : Nat) (sh : Bool) (u : Int) (i : Nat) : List (Int × Int × Int) := (List.range i).map fun j : Nat => (1, u, 7 * (T : Int) + sh.toNat + u * (j : Int))
theorem unts_succ (T : Nat) (sh : Bool) (u : Int) (i : Nat) : unts T sh u (i + 1) = unts T sh u i ++ [(1, u, 7 * (T : Int) + sh.toNat + u * i)] := by unfold unts; rw [List.range_succ, List.map_append]; rfl
def untF (F T : Nat) (sh : Bool) : Int := ((F : Int) - (7 * T + sh.toNat)) / T
theorem things_eq {F T : Nat} (sh : Bool) (hT1 : 1 ≤ T) (hT : T ≤ 3) (hF : 11 * T ≤ F) (hF2 : F ≤ 64) : thingsL F T sh = quads T ++ (endT T sh ++ unts T sh (untF F T sh) T) := by
  have hu : unt F T sh = untF F T sh := by
    unfold unt untF
    obtain rfl | rfl | rfl : T = 1 ∨ T = 2 ∨ T = 3 := by omega
    all_goals cases sh <;> rfl
  have hr : 1 ≤ untF F T sh ∧ untF F T sh ≤ 64 := by
    unfold untF
    obtain rfl | rfl | rfl : T = 1 ∨ T = 2 ∨ T = 3 := by omega
    all_goals cases sh
    all_goals simp only [Bool.toNat_true, Bool.toNat_false]
    all_goals omega
  have hf : Ar.framesD 1 (untF F T sh) = untF F T sh := by unfold Ar.framesD; rw [if_pos rfl, if_pos (by omega)]
  have f9 : Ar.framesD 9 0 = 1 := by decide
  have f2 : Ar.framesD 2 4 = 4 := by decide
  have f5 : Ar.framesD 5 0 = 1 := by decide
  have f6 : Ar.framesD 6 0 = 1 := by decide
  have f8 : Ar.framesD 8 0 = 1 := by decide
  unfold thingsL kzF
  rw [hu]
  obtain ⟨u, hue⟩ : ∃ u, u = untF F T sh := ⟨_, rfl⟩
  rw [← hue] at hf hr ⊢
  clear hue hu
  obtain rfl | rfl | rfl : T = 1 ∨ T = 2 ∨ T = 3 := by omega
  all_goals cases sh
  all_goals simp only [kzs, layT, quads, quad, endT, unts, hf, f9, f2, f5, f6, f8, List.range_succ, List.range_zero, List.nil_append, List.flatMap_append, List.flatMap_cons, List.flatMap_nil, List.map_append, List.map_cons, List.map_nil, List.append_nil, List.cons_append, List.replicate_succ, List.replicate_zero, List.flatten_cons, List.flatten_nil, if_true, if_false, List.append_assoc, Bool.toNat_true, Bool.toNat_false, List.singleton_append, Bool.false_eq_true]
  all_goals simp
  all_goals omega
theorem mkL_N (F : Nat) (xs : List (Int × Int × Int)) : (mkL F xs).1.N = As.ASt.zero := by
  have key : ∀ (xs : List (Int × Int × Int)) (S : RT × List Int), S.1.N = As.ASt.zero → (xs.foldl mkF S).1.N = As.ASt.zero := by
    intro xs
    induction xs with
    | nil => intro S h; exact h
    | cons x r ih =>
      intro S h
      refine ih _ ?_
      show (makeR S.1 x.1 x.2.1 x.2.2).2.N = _
      unfold makeR
      split <;> exact h
  exact key xs _ rfl
theorem allR_app (b : Nat) (p : RP) (s : RL) (N : As.ASt) (G : List Chunk) : allR b p s N G = allR b p s N [] ++ G := by unfold allR; simp
def rowsD (ids : List Int) (i : Nat) : List (List Int) := (List.range i).map fun j => (ids.drop (4 * j)).take 4
theorem rowsD_app (ids m : List Int) (i : Nat) (h : 4 * i ≤ ids.length) : rowsD (ids ++ m) i = rowsD ids i := by
  unfold rowsD
  apply List.map_congr_left
  intro j hj
  have := List.mem_range.1 hj
  rw [List.drop_append_of_le_length (by omega), List.take_append_of_le_length (by rw [List.length_drop]; omega)]
theorem rowsD_succ (ids : List Int) (i : Nat) : rowsD ids (i + 1) = rowsD ids i ++ [(ids.drop (4 * i)).take 4] := by unfold rowsD; rw [List.range_succ, List.map_append]; rfl
def pre4 (i k : Nat) : List (Int × Int × Int) := quads i ++ (quad i).take k
theorem pre4_0 (i : Nat) : pre4 i 0 = quads i := by simp [pre4]
theorem pre4_4 (i : Nat) : pre4 i 4 = quads (i + 1) := by rw [quads_succ]; rfl
theorem pre4_len (i k : Nat) (hk : k ≤ 4) : (pre4 i k).length = 4 * i + k := by unfold pre4; rw [List.length_append, quads_len, List.length_take]; show 4 * i + min k 4 = _; omega
def offs (k : Nat) : Int := if k = 0 then 0 else if k = 1 then 1 else if k = 2 then 5 else if k = 3 then 6 else 7
abbrev knC4 (bk : Nat) : Chunk := (bk, .cells (List.toArray [.int .i64 9, .int .i64 2, .int .i64 5, .int .i64 6]) 3 (0, 0))
theorem ids_drop (ids : List Int) (id : Int) (n : Nat) (h : n ≤ ids.length) : (ids ++ [id]).drop n = ids.drop n ++ [id] := List.drop_append_of_le_length h
theorem mkF_at (S : RT × List Int) (k z f : Int) : mkF S (k, z, f) = ((makeR S.1 k z f).2, S.2 ++ [(makeR S.1 k z f).1.1]) := rfl
theorem mkL_ext (F : Nat) (xs ys : List (Int × Int × Int)) : ∃ m, (mkL F (xs ++ ys)).2 = (mkL F xs).2 ++ m := by
  have key : ∀ (ys : List (Int × Int × Int)) (S : RT × List Int), ∃ m, (ys.foldl mkF S).2 = S.2 ++ m := by
    intro ys
    induction ys with
    | nil => intro S; exact ⟨[], by simp⟩
    | cons y r ih =>
      intro S
      obtain ⟨m, e⟩ := ih (mkF S y)
      exact ⟨(makeR S.1 y.1 y.2.1 y.2.2).1.1 :: m, by rw [List.foldl_cons, e]; show (S.2 ++ _) ++ m = _; simp⟩
  unfold mkL
  rw [List.foldl_append]
  exact key ys _
set_option maxHeartbeats 8000000 in
theorem rn_A {E : World} {Q : Exit → Act → World → Prop} {ds : List Deferred} {fn : Func} {c : Code} (hf : Tryz.prog.funcs[6]? = some fn) (hc : fn.body = some c) (F C T : Nat) (sh : Bool) (hT1 : 1 ≤ T) (hT : T ≤ 3) (b1 b : Nat) (p : RP) (s : RL) (hR : IsRR F C 0 (newR F) [] p s) (Z : List Chunk) (hmZ : ccC b1 F C T sh ∈ Z)
    (k : ∀ s' vO vals cO CI, IsRR F C (4 * T) (mkL F (quads T)).1 [] p s' → OwnSl 25 1 vO T vals cO → InnS vals (rowsD (mkL F (quads T)).2 T) CI → PostS fn.ntmps E Q .normal [(1, pV b1), (5, pV b), (7, .int .i64 (7 * (T : Int))), (8, vO)] ds (allR b p s' As.ASt.zero (cO ++ (CI ++ Z)))) :
    CodeS Tryz.prog none fn.ntmps E (hed (aft 5 c)) Q [(1, pV b1), (5, pV b), (7, .int .i64 0), (8, .slice none 0 0)] ds (allR b p s As.ASt.zero Z) := by
  obtain rfl := Option.some.inj (hf.symm.trans Tryz.func6)
  obtain rfl := Option.some.inj hc
  simp only [Tryz.func6, Tryz.ntmps6, aft, hed] at k ⊢
  have memA : ∀ (s : RL) (A : List Chunk), ccC b1 F C T sh ∈ allR b p s As.ASt.zero (A ++ Z) := fun s A => by rw [allR_app]; exact List.mem_append_right _ (List.mem_append_right _ hmZ)
  refine gzU ?_
  refine k_loop (α := Nat × Value × List Value × List Chunk × List Chunk × RL) (fun y => [(1, pV b1), (5, pV b), (7, .int .i64 (7 * (y.1 : Int))), (8, y.2.1), (9, .int .i64 y.1)]) (fun y => allR b p y.2.2.2.2.2 As.ASt.zero ((y.2.2.2.1 ++ y.2.2.2.2.1) ++ Z))
    (fun y => y.1 ≤ T ∧ IsRR F C (4 * y.1) (mkL F (quads y.1)).1 [] p y.2.2.2.2.2 ∧ OwnSl 25 1 y.2.1 y.1 y.2.2.1 y.2.2.2.1 ∧ InnS y.2.2.1 (rowsD (mkL F (quads y.1)).2 y.1) y.2.2.2.2.1) (fun y => T - y.1) (0, .slice none 0 0, [], [], [], s) ⟨Nat.zero_le _, hR, OwnSl.nil _ _, .nil⟩ ⟨rfl, rfl, rfl, rfl, rfl, trivial⟩ .refl ?_
  clear hR
  rintro ⟨i, vO, vals, cO, CI, s⟩ ⟨hi, hR, hO, hI⟩
  simp only at hi hR hO hI ⊢
  have hvO := hO.one
  have hm0 := memA s (cO ++ CI)
  by_cases hlt : i < T
  · refine gzU ?_
    refine t_e (e_litN (z0 := .int .i64 0) (cs := [.int .i64 9, .int .i64 2, .int .i64 5, .int .i64 6]) rfl (by decide) (by decide) rfl) rfl rfl rfl ?_
    rintro _ _ ⟨bk, _, rfl, rfl⟩
    refine gzU ?_
    refine k_loop (α := Nat × Value × List Chunk × RL) (fun y => [(1, pV b1), (5, pV b), (7, .int .i64 (7 * (i : Int) + offs y.1)), (8, vO), (9, .int .i64 i), (10, y.2.1), (11, .slice (some ⟨bk, 0, none⟩) 4 4), (12, .int .i64 y.1)]) (fun y => allR b p y.2.2.2 As.ASt.zero (y.2.2.1 ++ (knC4 bk :: ((cO ++ CI) ++ Z))))
      (fun y => y.1 ≤ 4 ∧ IsRR F C (4 * i + y.1) (mkL F (pre4 i y.1)).1 [] p y.2.2.2 ∧ OwnSl 3 1 y.2.1 y.1 (((mkL F (pre4 i y.1)).2.drop (4 * i)).map intQ) y.2.2.1) (fun y => 4 - y.1) (0, .slice none 0 0, [], s) ⟨Nat.zero_le 4, ?_, ?_⟩ ⟨rfl, rfl, ?_, rfl, rfl, rfl, rfl, rfl, trivial⟩ ?_ ?_
    · rw [pre4_0]; exact hR
    · rw [pre4_0, List.drop_of_length_le (by rw [mkL_len, quads_len]; omega)]; exact OwnSl.nil _ _
    · show some (Value.int _ _) = some (Value.int _ _)
      simp [offs]
    · rw [allR_app b p s _ ([] ++ _), allR_app b p s _ (_ ++ Z)]; dsimp only [knC4]; exact keep_ac []
    clear hR
    rintro ⟨j, v, cI, s⟩ ⟨hj, hR, hL⟩
    simp only at hj hR hL ⊢
    have hv1 := hL.one
    have hN := mkL_N F (pre4 i j)
    have hlen := mkL_len F (pre4 i j)
    rw [pre4_len i j hj] at hlen
    have hmk : knC4 bk ∈ allR b p s As.ASt.zero (cI ++ (knC4 bk :: ((cO ++ CI) ++ Z))) := by rw [allR_app]; simp
    by_cases hj4 : j < 4
    · obtain rfl | rfl | rfl | rfl : j = 0 ∨ j = 1 ∨ j = 2 ∨ j = 3 := by omega
      · have ep : pre4 i 1 = pre4 i 0 ++ [(9, 0, 7 * (i : Int))] := by simp [pre4, quad]
        have eS : mkL F (pre4 i 1) = ((makeR (mkL F (pre4 i 0)).1 9 0 (7 * (i : Int))).2, (mkL F (pre4 i 0)).2 ++ [(makeR (mkL F (pre4 i 0)).1 9 0 (7 * (i : Int))).1.1]) := by rw [ep, mkL_snoc, mkF_at]
        rw [show offs 0 = 0 from rfl]
        refine gzU ?_
        refine t_e (e_call0 rfl rfl (by have h := rmake9_any F C _ _ [] b p s hR (by omega) (7 * (i : Int)) (cI ++ (knC4 bk :: ((cO ++ CI) ++ Z))); rw [hN] at h; exact h)) rfl rfl rfl ?_
        rintro _ _ ⟨rfl, s', hR', rfl⟩
        obtain ⟨id, hid⟩ : ∃ id, id = (makeR (mkL F (pre4 i 0)).1 9 0 (7 * (i : Int))).1.1 := ⟨_, rfl⟩
        rw [← hid] at eS ⊢
        refine gzU ?_
        refine t_e (e_lit1 (v := intQ id) rfl rfl) rfl rfl rfl ?_
        rintro _ _ ⟨bl, _, rfl, rfl⟩
        rw [allR_app b p s' As.ASt.zero (cI ++ _)]
        refine t_e (e_appX (k := 1) (X := allR b p s' As.ASt.zero []) (ws := [intQ id]) (zs := [.int .i64 0]) (cs := cI) rfl rfl rfl hL rfl (by simp [Value.oneCell', intQ]) (by omega) (by decide)) rfl rfl rfl ?_
        rintro v' _ ⟨c2, ho2, rfl⟩
        have hv2 := ho2.one
        refine gzU ?_
        refine k_next (1, v', c2, s') ⟨by simp only; omega, ?_, ?_⟩ (by simp only; omega) ⟨rfl, rfl, ?_, rfl, rfl, rfl, rfl, rfl, trivial⟩ (by rw [← allR_app]; exact .refl)
        · simp only; rw [eS]; exact hR'
        · simp only; rw [eS]; simp only; rw [ids_drop _ _ _ (by omega), List.map_append]; exact ho2
        · show some (Value.int .i64 _) = some (Value.int .i64 _)
          rw [show offs 1 = 1 from rfl]; congr 2
      · have ep : pre4 i 2 = pre4 i 1 ++ [(2, 4, 7 * (i : Int) + 1)] := by simp [pre4, quad]
        have eS : mkL F (pre4 i 2) = ((makeR (mkL F (pre4 i 1)).1 2 4 (7 * (i : Int) + 1)).2, (mkL F (pre4 i 1)).2 ++ [(makeR (mkL F (pre4 i 1)).1 2 4 (7 * (i : Int) + 1)).1.1]) := by rw [ep, mkL_snoc, mkF_at]
        rw [show offs 1 = 1 from rfl]
        refine gzU ?_
        refine t_e (e_call0 rfl rfl (by have h := rmake2_any F C _ _ [] b p s hR (by omega) (7 * (i : Int) + 1) (cI ++ (knC4 bk :: ((cO ++ CI) ++ Z))); rw [hN] at h; exact h)) rfl rfl rfl ?_
        rintro _ _ ⟨rfl, s', hR', rfl⟩
        obtain ⟨id, hid⟩ : ∃ id, id = (makeR (mkL F (pre4 i 1)).1 2 4 (7 * (i : Int) + 1)).1.1 := ⟨_, rfl⟩
        rw [← hid] at eS ⊢
        refine gzU ?_
        refine t_e (e_lit1 (v := intQ id) rfl rfl) rfl rfl rfl ?_
        rintro _ _ ⟨bl, _, rfl, rfl⟩
        rw [allR_app b p s' As.ASt.zero (cI ++ _)]
        refine t_e (e_appX (k := 1) (X := allR b p s' As.ASt.zero []) (ws := [intQ id]) (zs := [.int .i64 0]) (cs := cI) rfl rfl rfl hL rfl (by simp [Value.oneCell', intQ]) (by omega) (by decide)) rfl rfl rfl ?_
        rintro v' _ ⟨c2, ho2, rfl⟩
        have hv2 := ho2.one
        refine gzU ?_
        refine k_next (2, v', c2, s') ⟨by simp only; omega, ?_, ?_⟩ (by simp only; omega) ⟨rfl, rfl, ?_, rfl, rfl, rfl, rfl, rfl, trivial⟩ (by rw [← allR_app]; exact .refl)
        · simp only; rw [eS]; exact hR'
        · simp only; rw [eS]; simp only; rw [ids_drop _ _ _ (by omega), List.map_append]; exact ho2
        · show some (Value.int .i64 _) = some (Value.int .i64 _)
          rw [show offs 2 = 5 from rfl]; congr 2
      · have ep : pre4 i 3 = pre4 i 2 ++ [(5, 0, 7 * (i : Int) + 5)] := by simp [pre4, quad]
        have eS : mkL F (pre4 i 3) = ((makeR (mkL F (pre4 i 2)).1 5 0 (7 * (i : Int) + 5)).2, (mkL F (pre4 i 2)).2 ++ [(makeR (mkL F (pre4 i 2)).1 5 0 (7 * (i : Int) + 5)).1.1]) := by rw [ep, mkL_snoc, mkF_at]
        rw [show offs 2 = 5 from rfl]
        refine gzU ?_
        refine t_e (e_call0 rfl rfl (by have h := rmake5_any F C _ _ [] b p s hR (by omega) (7 * (i : Int) + 5) (cI ++ (knC4 bk :: ((cO ++ CI) ++ Z))); rw [hN] at h; exact h)) rfl rfl rfl ?_
        rintro _ _ ⟨rfl, s', hR', rfl⟩
        obtain ⟨id, hid⟩ : ∃ id, id = (makeR (mkL F (pre4 i 2)).1 5 0 (7 * (i : Int) + 5)).1.1 := ⟨_, rfl⟩
        rw [← hid] at eS ⊢
        refine gzU ?_
        refine t_e (e_lit1 (v := intQ id) rfl rfl) rfl rfl rfl ?_
        rintro _ _ ⟨bl, _, rfl, rfl⟩
        rw [allR_app b p s' As.ASt.zero (cI ++ _)]
        refine t_e (e_appX (k := 1) (X := allR b p s' As.ASt.zero []) (ws := [intQ id]) (zs := [.int .i64 0]) (cs := cI) rfl rfl rfl hL rfl (by simp [Value.oneCell', intQ]) (by omega) (by decide)) rfl rfl rfl ?_
        rintro v' _ ⟨c2, ho2, rfl⟩
        have hv2 := ho2.one
        refine gzU ?_
        refine k_next (3, v', c2, s') ⟨by simp only; omega, ?_, ?_⟩ (by simp only; omega) ⟨rfl, rfl, ?_, rfl, rfl, rfl, rfl, rfl, trivial⟩ (by rw [← allR_app]; exact .refl)
        · simp only; rw [eS]; exact hR'
        · simp only; rw [eS]; simp only; rw [ids_drop _ _ _ (by omega), List.map_append]; exact ho2
        · show some (Value.int .i64 _) = some (Value.int .i64 _)
          rw [show offs 3 = 6 from rfl]; congr 2
      · have ep : pre4 i 4 = pre4 i 3 ++ [(6, 0, 7 * (i : Int) + 6)] := by simp [pre4, quad]
        have eS : mkL F (pre4 i 4) = ((makeR (mkL F (pre4 i 3)).1 6 0 (7 * (i : Int) + 6)).2, (mkL F (pre4 i 3)).2 ++ [(makeR (mkL F (pre4 i 3)).1 6 0 (7 * (i : Int) + 6)).1.1]) := by rw [ep, mkL_snoc, mkF_at]
        rw [show offs 3 = 6 from rfl]
        refine gzU ?_
        refine t_e (e_call0 rfl rfl (by have h := rmake6_any F C _ _ [] b p s hR (by omega) (7 * (i : Int) + 6) (cI ++ (knC4 bk :: ((cO ++ CI) ++ Z))); rw [hN] at h; exact h)) rfl rfl rfl ?_
        rintro _ _ ⟨rfl, s', hR', rfl⟩
        obtain ⟨id, hid⟩ : ∃ id, id = (makeR (mkL F (pre4 i 3)).1 6 0 (7 * (i : Int) + 6)).1.1 := ⟨_, rfl⟩
        rw [← hid] at eS ⊢
        refine gzU ?_
        refine t_e (e_lit1 (v := intQ id) rfl rfl) rfl rfl rfl ?_
        rintro _ _ ⟨bl, _, rfl, rfl⟩
        rw [allR_app b p s' As.ASt.zero (cI ++ _)]
        refine t_e (e_appX (k := 1) (X := allR b p s' As.ASt.zero []) (ws := [intQ id]) (zs := [.int .i64 0]) (cs := cI) rfl rfl rfl hL rfl (by simp [Value.oneCell', intQ]) (by omega) (by decide)) rfl rfl rfl ?_
        rintro v' _ ⟨c2, ho2, rfl⟩
        have hv2 := ho2.one
        refine gzU ?_
        refine k_next (4, v', c2, s') ⟨by simp only; omega, ?_, ?_⟩ (by simp only; omega) ⟨rfl, rfl, ?_, rfl, rfl, rfl, rfl, rfl, trivial⟩ (by rw [← allR_app]; exact .refl)
        · simp only; rw [eS]; exact hR'
        · simp only; rw [eS]; simp only; rw [ids_drop _ _ _ (by omega), List.map_append]; exact ho2
        · show some (Value.int .i64 _) = some (Value.int .i64 _)
          rw [show offs 4 = 7 from rfl]; congr 2
    obtain rfl : j = 4 := by omega
    rw [pre4_4] at hR hL hN hlen
    have hdl : ((mkL F (quads (i + 1))).2.drop (4 * i)).length = 4 := by rw [List.length_drop]; omega
    have hrow : rowsD (mkL F (quads (i + 1))).2 (i + 1) = rowsD (mkL F (quads i)).2 i ++ [(mkL F (quads (i + 1))).2.drop (4 * i)] := by
      rw [rowsD_succ, List.take_of_length_le (by omega)]
      congr 1
      rw [quads_succ]
      obtain ⟨m, em⟩ := mkL_ext F (quads i) (quad i)
      rw [em]
      exact rowsD_app _ _ _ (by rw [mkL_len, quads_len]; exact Nat.le_refl _)
    have hL' : OwnSl 3 1 v ((mkL F (quads (i + 1))).2.drop (4 * i)).length (((mkL F (quads (i + 1))).2.drop (4 * i)).map intQ) cI := by rw [hdl]; exact hL
    refine gzU ?_
    refine t_e (e_lit1 (v := v) rfl hv1) rfl rfl rfl ?_
    rintro _ _ ⟨bl, _, rfl, rfl⟩
    have hsp : allR b p s As.ASt.zero (cI ++ (knC4 bk :: ((cO ++ CI) ++ Z))) = (allR b p s As.ASt.zero [] ++ (cI ++ [knC4 bk])) ++ (cO ++ (CI ++ Z)) := by rw [allR_app]; simp only [List.append_assoc, List.cons_append, List.nil_append]
    rw [hsp]
    refine t_e (e_appX (k := 1) (X := allR b p s As.ASt.zero [] ++ (cI ++ [knC4 bk])) (ws := [v]) (zs := [.slice none 0 0]) (cs := cO) rfl rfl rfl hO rfl (by simp [hv1]) (by omega) (by decide)) rfl rfl rfl ?_
    rintro v' _ ⟨c2, ho2, rfl⟩
    have hv2 := ho2.one
    refine gzU ?_
    refine k_next (i + 1, v', vals ++ [v], c2, CI ++ cI, s) ⟨by omega, hR, ho2, ?_⟩ (by simp only; omega) ⟨rfl, rfl, ?_, rfl, rfl, trivial⟩ ?_
    · simp only; rw [hrow]; exact hI.snoc hL'
    · show some (Value.int .i64 _) = some (Value.int .i64 _)
      rw [show offs 4 = 7 from rfl]; congr 2
    · simp only; rw [allR_app b p s As.ASt.zero ((c2 ++ _) ++ _)]; generalize allR b p s As.ASt.zero [] = A; exact keep_ac [knC4 bk]
  obtain rfl : i = T := by omega
  refine gzU ?_
  exact p_weak (fr' := [(1, pV b1), (5, pV b), (7, .int .i64 (7 * (i : Int))), (8, vO)]) ⟨rfl, rfl, rfl, rfl, trivial⟩ (by rw [List.append_assoc]; exact .refl) (k s vO vals cO CI hR hO hI)
theorem IsRR.mono {F C k m : Nat} {R : RT} {L : List (Int × Int)} {p : RP} {s : RL} (h : IsRR F C k R L p s) (hm : k ≤ m) : IsRR F C m R L p s :=
  ⟨h.mem, h.co, h.ar, h.an, h.ho, h.inv.mono hm, fun n hn => by have := h.giv n hn; omega, h.fit, h.th, h.ta, Nat.le_trans h.tl hm, h.qu, Nat.le_trans h.ql hm, h.en, Nat.le_trans h.el hm, h.cu, h.c1⟩
theorem OwnSl.cell1 {e n : Nat} {v : Value} {xs : List Value} {cs : List Chunk} (h : OwnSl e 1 v n xs cs) (hn : 1 ≤ n) : ∃ gb cap sp, v = .slice (some ⟨gb, 0, none⟩) n cap ∧ cs = [(gb, .cells (List.toArray (xs ++ sp)) e (0, 0))] ∧ ∀ j u, j < n → j * 1 < (List.toArray (xs ++ sp)).size ∧ (List.toArray (xs ++ sp))[j * 1]? = xs[j]? ∧ OwnSl e 1 v n (xs.set j u) [(gb, .cells ((List.toArray (xs ++ sp)).setIfInBounds (j * 1) u) e (0, 0))] := by
  obtain ⟨hl, h⟩ := h
  rcases h with ⟨_, h0, _⟩ | ⟨gb, cap, sp, rfl, rfl, h1, h2, h3⟩
  · omega
  · refine ⟨gb, cap, sp, rfl, rfl, fun j u hj => ⟨by simp; omega, ?_, by simpa using hl, .inr ⟨gb, cap, sp, rfl, ?_, h1, h2, by simpa using h3⟩⟩⟩
    · rw [Nat.mul_one, List.getElem?_toArray, List.getElem?_append_left (by omega)]
    · rw [Nat.mul_one, List.setIfInBounds_toArray, List.set_append_left _ _ (by omega)]
def rowsU (F T : Nat) (sh : Bool) (u : Int) : Nat → List (List Int)
  | 0 => rowsD (mkL F (quads T)).2 T
  | i + 1 => (rowsU F T sh u i).set i ((rowsU F T sh u i).getD i [] ++ [(makeR (mkL F (quads T ++ (endT T sh ++ unts T sh u i))).1 1 u (7 * (T : Int) + sh.toNat + u * (i : Int))).1.1])
theorem rowsU_get (F T : Nat) (sh : Bool) (u : Int) (j : Nat) : ∀ i, i ≤ j → (rowsU F T sh u i)[j]? = (rowsD (mkL F (quads T)).2 T)[j]?
  | 0, _ => rfl
  | i + 1, h => by rw [rowsU, List.getElem?_set_ne (by omega)]; exact rowsU_get F T sh u j i (by omega)
theorem rowsU_at (F T : Nat) (sh : Bool) (u : Int) (i : Nat) (h : i < T) : ∃ r, (rowsU F T sh u i)[i]? = some r ∧ r.length ≤ 4 := by
  rw [rowsU_get F T sh u i i (Nat.le_refl _)]
  unfold rowsD
  rw [List.getElem?_map, List.getElem?_range h]
  exact ⟨_, rfl, by rw [List.length_take]; omega⟩
theorem ku1 (A c c2 C1 C2 Z : List Chunk) (g g' : Chunk) : Keep (A ++ (g :: (C1 ++ (c2 ++ (C2 ++ Z))))) (g :: (A ++ (C1 ++ (c2 ++ (C2 ++ Z))))) := keep_ac []
theorem ku2 (A C1 C2 c2 Z : List Chunk) (g : Chunk) : Keep (g :: (A ++ (C1 ++ (c2 ++ (C2 ++ Z))))) (A ++ ([g] ++ ((C1 ++ (c2 ++ C2)) ++ Z))) := keep_ac []
set_option maxHeartbeats 4000000 in
theorem rn_U {E : World} {Q : Exit → Act → World → Prop} {ds : List Deferred} {fn : Func} {c : Code} (hf : Tryz.prog.funcs[6]? = some fn) (hc : fn.body = some c) (F C T : Nat) (sh : Bool) (hT1 : 1 ≤ T) (hT : T ≤ 3) (u e : Int) (hu : 1 ≤ u ∧ u ≤ 64) (b1 b : Nat) (p : RP) (s : RL) (hR : IsRR F C (4 * T + sh.toNat) (mkL F (quads T ++ endT T sh)).1 [] p s) (vO : Value) (vals : List Value) (cO CI Z : List Chunk) (hO : OwnSl 25 1 vO T vals cO) (hI : InnS vals (rowsD (mkL F (quads T)).2 T) CI) (hmZ : ccC b1 F C T sh ∈ Z)
    (k : ∀ s' vals cO CI, IsRR F C (5 * T + sh.toNat) (mkL F (quads T ++ (endT T sh ++ unts T sh u T))).1 [] p s' → OwnSl 25 1 vO T vals cO → InnS vals (rowsU F T sh u T) CI → PostS fn.ntmps E Q .normal [(1, pV b1), (5, pV b), (8, vO), (17, .int .i64 e)] ds (allR b p s' As.ASt.zero (cO ++ (CI ++ Z)))) :
    CodeS Tryz.prog none fn.ntmps E (hed (aft 9 c)) Q [(1, pV b1), (5, pV b), (7, .int .i64 (7 * (T : Int) + sh.toNat)), (8, vO), (17, .int .i64 e), (18, .int .i64 u)] ds (allR b p s As.ASt.zero (cO ++ (CI ++ Z))) := by
  obtain rfl := Option.some.inj (hf.symm.trans Tryz.func6)
  obtain rfl := Option.some.inj hc
  simp only [Tryz.func6, Tryz.ntmps6, aft, hed] at k ⊢
  have hsh : sh.toNat ≤ 1 := by cases sh <;> decide
  have memA : ∀ (s : RL) (A B : List Chunk), ccC b1 F C T sh ∈ allR b p s As.ASt.zero (A ++ (B ++ Z)) := fun s A B => by rw [allR_app]; exact List.mem_append_right _ (List.mem_append_right _ (List.mem_append_right _ hmZ))
  refine gzU ?_
  refine k_loop (α := Nat × List Value × List Chunk × List Chunk × RL) (fun y => [(1, pV b1), (5, pV b), (7, .int .i64 (7 * (T : Int) + sh.toNat + u * (y.1 : Int))), (8, vO), (17, .int .i64 e), (18, .int .i64 u), (19, .int .i64 y.1)]) (fun y => allR b p y.2.2.2.2 As.ASt.zero (y.2.2.1 ++ (y.2.2.2.1 ++ Z)))
    (fun y => y.1 ≤ T ∧ IsRR F C (4 * T + sh.toNat + y.1) (mkL F (quads T ++ (endT T sh ++ unts T sh u y.1))).1 [] p y.2.2.2.2 ∧ OwnSl 25 1 vO T y.2.1 y.2.2.1 ∧ InnS y.2.1 (rowsU F T sh u y.1) y.2.2.2.1) (fun y => T - y.1) (0, vals, cO, CI, s) ⟨Nat.zero_le _, ?_, hO, hI⟩ ⟨rfl, rfl, ?_, rfl, rfl, rfl, rfl, trivial⟩ .refl ?_
  · show IsRR F C _ (mkL F (quads T ++ (endT T sh ++ []))).1 [] p s
    rw [List.append_nil]; exact hR
  · show some (Value.int .i64 _) = some (Value.int .i64 _)
    rw [show ((0 : Nat) : Int) = 0 from rfl, Int.mul_zero, Int.add_zero]
  clear hR hO hI
  rintro ⟨i, vals, cO, CI, s⟩ ⟨hi, hR, hO, hI⟩
  simp only at hi hR hO hI ⊢
  have hvO := hO.one
  have hm0 := memA s cO CI
  by_cases hlt : i < T
  · obtain ⟨a, ha⟩ : ∃ a, a = 7 * (T : Int) + sh.toNat + u * (i : Int) := ⟨_, rfl⟩
    have hui : 0 ≤ u * (i : Int) ∧ u * (i : Int) ≤ 64 * 3 := ⟨Int.mul_nonneg (by omega) (by omega), Int.mul_le_mul (by omega) (by omega) (by omega) (by omega)⟩
    have ha1 : 0 ≤ a ∧ a ≤ 300 := by omega
    have ha2 : 7 * (T : Int) + sh.toNat + u * ((i + 1 : Nat) : Int) = a + u := by rw [show ((i + 1 : Nat) : Int) = (i : Int) + 1 from rfl, Int.mul_add]; omega
    have hN := mkL_N F (quads T ++ (endT T sh ++ unts T sh u i))
    have eS : (mkL F (quads T ++ (endT T sh ++ unts T sh u (i + 1)))).1 = (makeR (mkL F (quads T ++ (endT T sh ++ unts T sh u i))).1 1 u a).2 := by
      rw [unts_succ, ← List.append_assoc (endT T sh), ← List.append_assoc (quads T), mkL_snoc, mkF_at, ha]
    have eR : rowsU F T sh u (i + 1) = (rowsU F T sh u i).set i ((rowsU F T sh u i).getD i [] ++ [(makeR (mkL F (quads T ++ (endT T sh ++ unts T sh u i))).1 1 u a).1.1]) := by rw [rowsU, ha]
    rw [← ha]
    obtain ⟨r, hr, hr4⟩ := rowsU_at F T sh u i hlt
    obtain ⟨v, C1, cr, C2, hv, rfl, hro, hput⟩ := hI.at i r hr
    obtain ⟨gb, cap, sp, rfl, rfl, hcell⟩ := hO.cell1 hT1
    have hrv := hro.one
    refine gzU ?_
    refine t_e (e_call0 rfl rfl (by have h := rmake1_any F C _ _ [] b p s hR (by omega) u a ([(gb, Obj.cells (List.toArray (vals ++ sp)) 25 (0, 0))] ++ ((C1 ++ (cr ++ C2)) ++ Z)); rw [hN] at h; exact h)) rfl rfl rfl ?_
    rintro _ _ ⟨rfl, s', hR', rfl⟩
    obtain ⟨id, hid⟩ : ∃ id, id = (makeR (mkL F (quads T ++ (endT T sh ++ unts T sh u i))).1 1 u a).1.1 := ⟨_, rfl⟩
    rw [← hid] at eR ⊢
    rw [← eS] at hR'
    obtain ⟨A, hA⟩ : ∃ A, A = allR b p s' As.ASt.zero [] := ⟨_, rfl⟩
    have e1 := (hcell i (.int .i64 0) hlt).2.1.trans hv
    rw [allR_app, ← hA]
    have hg : (gb, Obj.cells (List.toArray (vals ++ sp)) 25 (0, 0)) ∈ A ++ ([(gb, Obj.cells (List.toArray (vals ++ sp)) 25 (0, 0))] ++ ((C1 ++ (cr ++ C2)) ++ Z)) := by simp
    refine gzU ?_
    refine t_e (e_lit1 (v := intQ id) rfl rfl) rfl rfl rfl ?_
    rintro _ _ ⟨bl, _, rfl, rfl⟩
    rw [show A ++ ([(gb, Obj.cells (List.toArray (vals ++ sp)) 25 (0, 0))] ++ ((C1 ++ (cr ++ C2)) ++ Z)) = (A ++ ((gb, Obj.cells (List.toArray (vals ++ sp)) 25 (0, 0)) :: C1)) ++ (cr ++ (C2 ++ Z)) by simp]
    refine t_e (e_appX (k := 1) (X := A ++ ((gb, Obj.cells (List.toArray (vals ++ sp)) 25 (0, 0)) :: C1)) (ws := [intQ id]) (zs := [.int .i64 0]) (cs := cr) rfl rfl rfl hro rfl (by simp [Value.oneCell', intQ]) (by omega) (by decide)) rfl rfl rfl ?_
    rintro v' _ ⟨c2, ho2, rfl⟩
    have hv2 := ho2.one
    obtain ⟨hz1, hz2, hz3⟩ := hcell i v' hlt
    refine s_keep (l' := (gb, Obj.cells (List.toArray (vals ++ sp)) 25 (0, 0)) :: (A ++ (C1 ++ (c2 ++ (C2 ++ Z))))) (by simp only [List.append_assoc, List.cons_append]; exact ku1 A [] c2 C1 C2 Z _ ((gb, Obj.cells #[] 0 (0, 0)))) ?_
    refine gzU ?_
    refine t_n (e_store (cs := List.toArray (vals ++ sp)) (ptr_off rfl (by omega)) rfl hv2 .here hz1) rfl rfl ?_
    rintro _ _ ⟨rfl, rfl⟩
    refine gzU ?_
    refine k_next (i + 1, vals.set i v', _, C1 ++ (c2 ++ C2), s') ⟨by omega, ?_, hz3, ?_⟩ (by simp only; omega) ⟨rfl, rfl, ?_, rfl, rfl, rfl, rfl, trivial⟩ (by simp only; rw [allR_app b p s', ← hA]; exact ku2 ..)
    · exact hR'
    · simp only
      rw [eR]
      refine hput v' _ c2 ?_
      rw [List.getD, hr, Option.getD_some, List.length_append, List.map_append]
      exact ho2
    · show some (Value.int .i64 _) = some (Value.int .i64 _)
      rw [ha2]
  obtain rfl : i = T := by omega
  refine gzU ?_
  exact p_weak (fr' := [(1, pV b1), (5, pV b), (8, vO), (17, .int .i64 e)]) ⟨rfl, rfl, rfl, rfl, trivial⟩ .refl (k s vals cO CI (hR.mono (by omega)) hO hI)
def owI (o : OwT) : List Int := [o.th, o.nd, o.rt, o.pl, o.un]
def layHF (H : HS) (os : List OwT) : Nat → HS
  | 0 => H
  | k + 1 => layH (layHF H os k) (os.getD k ow0) (decide ((k : Int) = 0))
def layNF (N : As.ASt) (os : List OwT) : Nat → As.ASt
  | 0 => N
  | k + 1 => (As.assignP (As.addP (layNF N os k) (os.getD k ow0).pl).2.2 (os.getD k ow0).pl (os.getD k ow0).rt).2.2.2
theorem layF_eq (R : RT) (os : List OwT) : ∀ k, layF R os k = { R with H := layHF R.H os k, N := layNF R.N os k }
  | 0 => rfl
  | k + 1 => by rw [layF, layF_eq R os k]; rfl
theorem InnS.row {vs : List Value} {os : List OwT} {C : List Chunk} (h : InnS vs (os.map owI) C) {i : Nat} {o : OwT} (hi : os[i]? = some o) : ∃ v gb cap sp C1 C2, v = .slice (some ⟨gb, 0, none⟩) 5 cap ∧ vs[i]? = some v ∧ C = C1 ++ ((gb, Obj.cells (List.toArray ((owI o).map intQ ++ sp)) 3 (0, 0)) :: C2) ∧ (∀ l, (∀ c, c ∈ C → c ∈ l) → IntSl l v (owI o)) ∧ ∀ (x : Int) (j : Nat) (y : Int), x = j → (owI o)[j]? = some y → (List.toArray ((owI o).map intQ ++ sp))[0 + x.toNat * 1]? = some (.int .i64 y) := by
  obtain ⟨v, C1, cr, C2, hv, rfl, hro, hput⟩ := h.at i (owI o) (by rw [List.getElem?_map, hi]; rfl)
  obtain ⟨gb, cap, sp, hve, rfl, hc⟩ := OwnSl.cell1 (n := 5) hro (by omega)
  refine ⟨v, gb, cap, sp, C1, C2, hve, hv, rfl, fun l hl => hro.intsQ fun c hc => hl c (by simp [List.mem_singleton.1 hc]), fun x j y hx hj => ?_⟩
  subst hx
  have hj5 : j < 5 := (List.getElem?_eq_some_iff.1 hj).1
  rw [Int.toNat_natCast, Nat.zero_add, (hc j (.int .i64 0) hj5).2.1, List.getElem?_map, hj]
  rfl
set_option maxHeartbeats 4000000 in
theorem rn_C {E : World} {Q : Exit → Act → World → Prop} {ds : List Deferred} {fn : Func} {c : Code} (hf : Tryz.prog.funcs[6]? = some fn) (hc : fn.body = some c) (F C T n : Nat) (sh : Bool) (hT1 : 1 ≤ T) (hT : T ≤ 3) (hn : n ≤ 800) (e : Int) (b1 b : Nat) (p : RP) (s : RL) (R : RT) (hR : IsRR F C n R [] p s) (os : List OwT) (hos : os.length = T) (vO : Value) (vals : List Value) (cO CI Z : List Chunk) (hO : OwnSl 25 1 vO T vals cO) (hI : InnS vals (os.map owI) CI) (hmZ : ccC b1 F C T sh ∈ Z)
    (k : ∀ s' vT cT, IsRR F C (n + 8 * T) { R with H := layHF R.H os T } [] p s' → OwnSl 3 1 vT T ((os.map OwT.th).map intQ) cT → PostS fn.ntmps E Q .normal [(1, pV b1), (5, pV b), (8, vO), (17, .int .i64 e), (22, vT)] ds (allR b p s' R.N (cT ++ (cO ++ (CI ++ Z))))) :
    CodeS Tryz.prog none fn.ntmps E (hed (aft 11 c)) Q [(1, pV b1), (5, pV b), (8, vO), (17, .int .i64 e), (22, .slice none 0 0)] ds (allR b p s R.N (cO ++ (CI ++ Z))) := by
  obtain rfl := Option.some.inj (hf.symm.trans Tryz.func6)
  obtain rfl := Option.some.inj hc
  simp only [Tryz.func6, Tryz.ntmps6, aft, hed] at k ⊢
  subst hos
  obtain ⟨gb, cap, sp, rfl, rfl, hcell⟩ := hO.cell1 hT1
  have memA : ∀ (s : RL) (A : List Chunk), ccC b1 F C os.length sh ∈ allR b p s R.N (A ++ ([(gb, Obj.cells (List.toArray (vals ++ sp)) 25 (0, 0))] ++ (CI ++ Z))) := fun s A => by rw [allR_app]; simp [hmZ]
  have memB : ∀ (s : RL) (A : List Chunk), (gb, Obj.cells (List.toArray (vals ++ sp)) 25 (0, 0)) ∈ allR b p s R.N (A ++ ([(gb, Obj.cells (List.toArray (vals ++ sp)) 25 (0, 0))] ++ (CI ++ Z))) := fun s A => by rw [allR_app]; simp
  refine gzU ?_
  refine k_loop (α := Nat × Value × List Chunk × RL) (fun y => [(1, pV b1), (5, pV b), (8, .slice (some ⟨gb, 0, none⟩) os.length cap), (17, .int .i64 e), (22, y.2.1), (23, .int .i64 y.1)]) (fun y => allR b p y.2.2.2 R.N (y.2.2.1 ++ ([(gb, Obj.cells (List.toArray (vals ++ sp)) 25 (0, 0))] ++ (CI ++ Z))))
    (fun y => y.1 ≤ os.length ∧ IsRR F C (n + 8 * y.1) { R with H := layHF R.H os y.1 } [] p y.2.2.2 ∧ OwnSl 3 1 y.2.1 y.1 (((os.take y.1).map OwT.th).map intQ) y.2.2.1) (fun y => os.length - y.1) (0, .slice none 0 0, [], s) ⟨Nat.zero_le _, hR, OwnSl.nil _ _⟩ ⟨rfl, rfl, rfl, rfl, rfl, rfl, trivial⟩ .refl ?_
  clear hR
  rintro ⟨i, vT, cT, s⟩ ⟨hi, hR, hL⟩
  simp only at hi hR hL ⊢
  have hvT := hL.one
  have hm0 := memA s cT
  have hg0 := memB s cT
  by_cases hlt : i < os.length
  · obtain ⟨o, hio⟩ : ∃ o, os[i]? = some o := ⟨_, List.getElem?_eq_getElem hlt⟩
    have eo : os.getD i ow0 = o := by rw [List.getD, hio, Option.getD_some]
    have eH : layHF R.H os (i + 1) = layH (layHF R.H os i) o (decide ((i : Int) = 0)) := by rw [layHF, eo]
    have eT : os.take (i + 1) = os.take i ++ [o] := by rw [List.take_add_one, hio]; rfl
    obtain ⟨v, gb2, cap2, sp2, C1, C2, rfl, hv, hCI, hints, hget⟩ := hI.row hio
    have hz := (hcell i (.int .i64 0) hlt).2.1.trans hv
    have hz0 := hget 0 0 o.th rfl rfl
    have hg2 : (gb2, Obj.cells (List.toArray ((owI o).map intQ ++ sp2)) 3 (0, 0)) ∈ allR b p s R.N (cT ++ ([(gb, Obj.cells (List.toArray (vals ++ sp)) 25 (0, 0))] ++ (CI ++ Z))) := by rw [allR_app, hCI]; simp
    refine gzU ?_
    refine t_e (e_lit1 (v := intQ o.th) rfl rfl) rfl rfl rfl ?_
    rintro _ _ ⟨bl, _, rfl, rfl⟩
    rw [allR_app b p s R.N (cT ++ _)]
    refine t_e (e_appX (k := 1) (X := allR b p s R.N []) (ws := [intQ o.th]) (zs := [.int .i64 0]) (cs := cT) rfl rfl rfl hL rfl (by simp [Value.oneCell', intQ]) (by omega) (by decide)) rfl rfl rfl ?_
    rintro v' _ ⟨c2, ho2, rfl⟩
    have hv2 := ho2.one
    rw [← allR_app]
    have hg3 := memB s c2
    have hG : ∀ c, c ∈ CI → c ∈ c2 ++ ([(gb, Obj.cells (List.toArray (vals ++ sp)) 25 (0, 0))] ++ (CI ++ Z)) := fun c hc => by simp [hc]
    have hints2 := hints _ hG
    have ho3 : OwnSl 3 1 v' (i + 1) (((os.take (i + 1)).map OwT.th).map intQ) c2 := by rw [eT, List.map_append, List.map_append]; exact ho2
    by_cases hi0 : i = 0
    · subst hi0
      refine gzU ?_
      refine t_e (e_call0 rfl rfl (rcaps_true F C _ _ [] b p s hR (by omega) o _ _ hints2)) rfl rfl rfl ?_
      rintro _ _ ⟨rfl, s', hR', rfl⟩
      refine gzU ?_
      refine k_next (0 + 1, v', c2, s') ⟨by omega, ?_, ho3⟩ (by simp only; omega) ⟨rfl, rfl, rfl, rfl, rfl, rfl, trivial⟩ .refl
      simp only at hR' ⊢
      rw [eH]
      exact hR'
    · have hi1 : (decide ((i : Int) = 0)) = false := decide_eq_false (by omega)
      rw [hi1] at eH
      refine gzU ?_
      rw [hi1]
      refine t_e (e_call0 rfl rfl (rcaps_false F C _ _ [] b p s hR (by omega) o _ _ hints2)) rfl rfl rfl ?_
      rintro _ _ ⟨rfl, s', hR', rfl⟩
      refine gzU ?_
      refine k_next (i + 1, v', c2, s') ⟨by omega, ?_, ho3⟩ (by simp only; omega) ⟨rfl, rfl, rfl, rfl, rfl, rfl, trivial⟩ .refl
      simp only at hR' ⊢
      rw [eH]
      exact hR'.mono (by omega)
  have hiT : i = os.length := by omega
  rw [hiT] at hR hL
  rw [List.take_length] at hL
  refine gzU ?_
  exact p_weak (fr' := [(1, pV b1), (5, pV b), (8, .slice (some ⟨gb, 0, none⟩) os.length cap), (17, .int .i64 e), (22, vT)]) ⟨rfl, rfl, rfl, rfl, rfl, trivial⟩ .refl (k s vT cT hR hL)
end Go.Proofs.YtcjknmpogkofpaaGreat
