/- part: a set cloned, a set copied into another one. part.serials: the serials of reached roots, and their pools. part.leans: all that threads lean on. part.Reach, part.Leans: the sets' numbers, rising. part.Slots, part.Maps: slots of held capabilities. part.Maps: a group's maps. part.sideOf: what is asked of a group. part: needs, disjoint. part.under: the slots below a group's slots. part.above. part.written: the plain part. part.written: its walk. slices.Equal of numbers. Laws that the statement's proof leans on. -/
import Derived.Test.YtgafamgacpglcaaGreatGs4
import Derived.Test.YtgafamgacpglcaaGreatGs5
import Derived.Test.YtgafamgacpglcaaGreatGs12
import Derived.Test.YtgafamgacpglcaaGreatGs6
/- part: a set cloned, a set copied into another one. -/
-- GU
set_option linter.unusedVariables false
set_option linter.unusedSimpArgs false
namespace Go.Proofs.YtgafamgacpglcaaGreat
open Go.RowKit
set_option maxRecDepth 20000
set_option pp.deepTerms false
set_option pp.deepTerms.threshold 4

instance : XF Tryz.prog 135 Extern.MapsClone.clone := ⟨⟨_, Tryz.func135, by kernel_rfl, by kernel_rfl, by kernel_rfl, by kernel_rfl⟩⟩
theorem cloneS_any (m : Nat) (S : Int → Prop) (c : Chunk) (hc : StI m S c) (l : List Chunk) (hm : c ∈ l) : Fn Tryz.prog 91 [.map (some m)] l fun v l' => ∃ m2 c2, v = .map (some m2) ∧ StI m2 S c2 ∧ l' = c2 :: l := by
  obtain ⟨es, clock, rfl, hE⟩ := hc
  refine fn_of_body Tryz.func91 rfl rfl fun E => ?_
  simp only [argF, Tryz.ntmps91]
  refine gzU ?_
  refine t_q (q_eqnilmap rfl rfl) rfl rfl rfl ?_
  refine gzU ?_
  refine t_q (q_makeIface rfl) rfl rfl rfl ?_
  refine t_e (e_clone rfl rfl hm) rfl rfl rfl ?_
  rintro _ _ ⟨b, rfl, rfl⟩
  refine t_q (q_assertMap rfl) rfl rfl rfl ?_
  refine gzU ?_
  exact k_ret [] rfl .refl (by exact zRes) ⟨b, _, rfl, ⟨es, clock, rfl, hE⟩, rfl⟩
theorem SetE.val {κ : Type} [DecidableEq κ] {S : κ → Prop} {es : List (EntS κ)} {clock : Nat} (h : SetE S es clock) {e : EntS κ} (he : e ∈ es) : S e.1 ∧ e.2.1 = .int .i64 1 := by
  obtain ⟨A, B, rfl⟩ := List.append_of_mem he
  have hk := h.ok.keys
  rw [List.map_append, List.nodup_append] at hk
  have hn : getS e.1 A = none := by
    unfold getS
    rw [Option.map_eq_none_iff, findS_none]
    intro x hx e1
    exact hk.2.2 x.1 (List.mem_map.2 ⟨x, hx, rfl⟩) e.1 (by simp) e1
  have hg : getS e.1 (A ++ e :: B) = some e.2.1 := by rw [getS_append, hn, getS_cons, if_pos rfl]; rfl
  exact (h.get _ _).1 hg
set_option maxHeartbeats 1000000 in
theorem copyS_any (m1 m2 : Nat) (S1 S2 : Int → Prop) (c1 c2 : Chunk) (h1 : StI m1 S1 c1) (h2 : StI m2 S2 c2) (l : List Chunk) : Fn Tryz.prog 93 [.map (some m1), .map (some m2)] (c1 :: c2 :: l) fun v l' => v = .tuple #[] ∧ ∃ c1', StI m1 (fun x => S1 x ∨ S2 x) c1' ∧ l' = c1' :: c2 :: l := by
  obtain ⟨es1, k1, rfl, hE1⟩ := h1
  obtain ⟨es, clock, rfl, hE⟩ := h2
  refine fn_of_body Tryz.func93 rfl rfl fun E => ?_
  simp only [argF, Tryz.ntmps93]
  refine gzU ?_
  refine t_e (e_range (es := es) (clock := clock) rfl (.tail _ (.head _))) rfl rfl rfl ?_
  rintro _ _ ⟨b0, hb0, rfl, rfl⟩
  refine gzU ?_
  refine k_loop (α := Array Nat × List Ent × List Ent × Nat) (fun x => [(0, .map (some m1)), (1, .map (some m2)), (7, pV b0)]) (fun x => (b0, .mapIter (some m2) clock x.1 clock) :: (m1, mapO .i64 x.2.2.1 x.2.2.2) :: (m2, mapO .i64 es clock) :: l) (fun x => Th.Came es x.2.1 x.1 ∧ SetE (fun z => S1 z ∨ z ∈ x.2.1.map (·.1)) x.2.2.1 x.2.2.2) (fun x => es.length - x.2.1.length) (#[], [], es1, k1) ⟨⟨rfl, by simp, by simp⟩, hE1.congr (by simp)⟩ ⟨rfl, rfl, rfl, trivial⟩ .refl ?_
  rintro ⟨seen, vis, es1, k1⟩ ⟨hC, hE1⟩
  simp only at hC hE1 ⊢
  refine gzU ?_
  refine t_e (e_next (es := es) (clock := clock) rfl (.tail _ (.head _)) (fun e he => hE.ok.below e he) (Nat.le_refl _)) rfl rfl rfl ?_
  rintro _ _ (⟨rfl, rfl, hall⟩ | ⟨e, he, hns, rfl, rfl⟩)
  · have hp := hC.all hE.ok.stamps hall
    refine gzU ?_
    refine k_ret [] rfl (.drop .refl) (by exact zRes) ⟨rfl, _, ⟨es1, k1, rfl, hE1.congr fun z => ?_⟩, rfl⟩
    rw [hp.mem_iff, hE.mem z]
  · have hC2 := hC.push he hns
    have hl2 := hC2.len hE.ok.stamps
    obtain ⟨_, hv⟩ := hE.val he
    refine gzU ?_
    refine t_q (q_entry rfl (.head _) (.tail _ (.tail _ (.head _))) he hE.ok.stamps) rfl rfl rfl ?_
    rw [hv]
    refine gzU ?_
    refine t_n (e_mapUpdate rfl rfl rfl (.there .here)) rfl rfl ?_
    rintro _ _ ⟨rfl, rfl⟩
    rw [setE_S]
    refine gzU ?_
    refine k_next (seen.push e.2.2, vis ++ [e], (setS e.1 (.int .i64 1) k1 es1).1, (setS e.1 (.int .i64 1) k1 es1).2) ⟨hC2, (hE1.put e.1).congr fun z => ?_⟩ (by simp at hl2 ⊢; omega) ⟨rfl, rfl, rfl, trivial⟩ .refl
    simp [or_assoc]
end Go.Proofs.YtgafamgacpglcaaGreat


/- part.serials: the serials of reached roots, and their pools. -/
-- GU
set_option linter.unusedVariables false
set_option linter.unusedSimpArgs false
namespace Go.Proofs.YtgafamgacpglcaaGreat
open Go.RowKit
set_option maxRecDepth 20000
set_option pp.deepTerms false
set_option pp.deepTerms.threshold 4

abbrev rowP (N : As.ASt) (p : Nat) : List Value := [.int .i64 (N.obj p), .bool (N.dead p), .int .i64 (N.root (4 * p + 0)), .int .i64 (N.root (4 * p + 1)), .int .i64 (N.root (4 * p + 2)), .int .i64 (N.root (4 * p + 3)), .int .i64 (N.ser (4 * p + 0)), .int .i64 (N.ser (4 * p + 1)), .int .i64 (N.ser (4 * p + 2)), .int .i64 (N.ser (4 * p + 3))]
theorem plc_row (N : As.ASt) {p : Nat} (h : p < 8) : ((plc N).drop (p * 10)).take 10 = rowP N p := by
  rcases p with _ | _ | _ | _ | _ | _ | _ | _ | p <;> first | rfl | omega
theorem rowP_root (N : As.ASt) (p : Nat) {i : Nat} (h : i < 4) : [Value.int .i64 (N.root (4 * p + 0)), .int .i64 (N.root (4 * p + 1)), .int .i64 (N.root (4 * p + 2)), .int .i64 (N.root (4 * p + 3))][i * 1]? = some (.int .i64 (N.root (4 * p + i))) := by
  rcases i with _ | _ | _ | _ | i <;> first | rfl | omega
theorem rowP_ser (N : As.ASt) (p : Nat) {i : Nat} (h : i < 4) : (List.toArray (rowP N p))[6 + i * 1]? = some (.int .i64 (N.ser (4 * p + i))) := by
  rcases i with _ | _ | _ | _ | i <;> first | rfl | omega
/-- the j-th number is a reached root's -/
def HitP (x : VwT) (S : Int → Prop) (j : Nat) : Prop := x.nn.root j ≠ 0 ∧ S (x.nn.root j) ∧ Pt.kn x.vd (x.nn.root j) 5 = true
def SerT (x : VwT) (S : Int → Prop) (n : Nat) (s : Int) : Prop := ∃ j, j < n ∧ HitP x S j ∧ s = x.nn.ser j
def ObjT (x : VwT) (S : Int → Prop) (n : Nat) (o : Int) : Prop := ∃ j, j < n ∧ HitP x S j ∧ o = x.nn.obj (j / 4)
theorem SerT.skip {x : VwT} {S : Int → Prop} {n : Nat} (h : ¬ HitP x S n) (s : Int) : SerT x S (n + 1) s ↔ SerT x S n s :=
  ⟨fun ⟨j, h1, h2, h3⟩ => ⟨j, by
    by_cases e : j = n
    · subst e; exact absurd h2 h
    · omega, h2, h3⟩, fun ⟨j, h1, h2, h3⟩ => ⟨j, by omega, h2, h3⟩⟩
theorem ObjT.skip {x : VwT} {S : Int → Prop} {n : Nat} (h : ¬ HitP x S n) (s : Int) : ObjT x S (n + 1) s ↔ ObjT x S n s :=
  ⟨fun ⟨j, h1, h2, h3⟩ => ⟨j, by
    by_cases e : j = n
    · subst e; exact absurd h2 h
    · omega, h2, h3⟩, fun ⟨j, h1, h2, h3⟩ => ⟨j, by omega, h2, h3⟩⟩
theorem SerT.hit {x : VwT} {S : Int → Prop} {n : Nat} (h : HitP x S n) (s : Int) : SerT x S (n + 1) s ↔ SerT x S n s ∨ s = x.nn.ser n :=
  ⟨fun ⟨j, h1, h2, h3⟩ => by
    by_cases e : j = n
    · subst e; exact .inr h3
    · exact .inl ⟨j, by omega, h2, h3⟩, fun h4 => h4.elim (fun ⟨j, h1, h2, h3⟩ => ⟨j, by omega, h2, h3⟩) fun e => ⟨n, by omega, h, e⟩⟩
theorem ObjT.hit {x : VwT} {S : Int → Prop} {n : Nat} (h : HitP x S n) (s : Int) : ObjT x S (n + 1) s ↔ ObjT x S n s ∨ s = x.nn.obj (n / 4) :=
  ⟨fun ⟨j, h1, h2, h3⟩ => by
    by_cases e : j = n
    · subst e; exact .inr h3
    · exact .inl ⟨j, by omega, h2, h3⟩, fun h4 => h4.elim (fun ⟨j, h1, h2, h3⟩ => ⟨j, by omega, h2, h3⟩) fun e => ⟨n, by omega, h, e⟩⟩
theorem vd_root {x : VwT} {S : Int → Prop} {q : Int × List (Int × Int)} {s : Int} : Pt.Root x.vd S q s ↔ ∃ p i, p < 8 ∧ i < 4 ∧ q = (x.nn.obj p, (List.range 4).map fun i => (x.nn.root (4 * p + i), x.nn.ser (4 * p + i))) ∧ HitP x S (4 * p + i) ∧ s = x.nn.ser (4 * p + i) := by
  constructor
  · rintro ⟨h1, r, h2, h3, h4, h5⟩
    obtain ⟨p, hp, rfl⟩ := List.mem_map.1 h1
    obtain ⟨i, hi, e⟩ := List.mem_map.1 h2
    cases e
    exact ⟨p, i, List.mem_range.1 hp, List.mem_range.1 hi, rfl, ⟨h3, h4, h5⟩, rfl⟩
  · rintro ⟨p, i, hp, hi, rfl, ⟨h3, h4, h5⟩, rfl⟩
    exact ⟨List.mem_map.2 ⟨p, List.mem_range.2 hp, rfl⟩, _, List.mem_map.2 ⟨i, List.mem_range.2 hi, rfl⟩, h3, h4, h5⟩
theorem ser_spc (x : VwT) (S : Int → Prop) (s : Int) : Pt.Spc x.vd S s ↔ SerT x S 32 s ∧ s ≠ 0 := by
  constructor
  · rintro ⟨h0, q, hq⟩
    obtain ⟨p, i, hp, hi, _, h1, h2⟩ := vd_root.1 hq
    exact ⟨⟨4 * p + i, by omega, h1, h2⟩, h0⟩
  · rintro ⟨⟨j, hj, h1, h2⟩, h0⟩
    refine ⟨h0, _, vd_root.2 ⟨j / 4, j % 4, by omega, by omega, rfl, ?_, ?_⟩⟩ <;> rw [show 4 * (j / 4) + j % 4 = j by omega]
    · exact h1
    · exact h2
theorem obj_pol (x : VwT) (S : Int → Prop) (o : Int) : Pt.Pol x.vd S o ↔ ObjT x S 32 o ∧ o ≠ 0 := by
  constructor
  · rintro ⟨h0, q, s, hq, rfl⟩
    obtain ⟨p, i, hp, hi, rfl, h1, h2⟩ := vd_root.1 hq
    exact ⟨⟨4 * p + i, by omega, h1, by simp only; rw [show (4 * p + i) / 4 = p by omega]⟩, h0⟩
  · rintro ⟨⟨j, hj, h1, h2⟩, h0⟩
    refine ⟨h0, _, x.nn.ser (4 * (j / 4) + j % 4), vd_root.2 ⟨j / 4, j % 4, by omega, by omega, rfl, ?_, rfl⟩, h2⟩
    rw [show 4 * (j / 4) + j % 4 = j by omega]; exact h1
set_option maxHeartbeats 4000000 in
theorem serials_any (x : VwT) (c : List Value) (m : Nat) (S : Int → Prop) (ch : Chunk) (hS : StI m S ch) (l : List Chunk) (hm : ch ∈ l) (hV : VwIn l x c) :
    Fn Tryz.prog 92 [.agg (List.toArray c), .map (some m)] l fun v l' => ∃ m1 m2 c1 c2, v = .tuple #[.map (some m1), .map (some m2)] ∧ StI m1 (Pt.Spc x.vd S) c1 ∧ StI m2 (Pt.Pol x.vd S) c2 ∧ l' = c1 :: c2 :: l := by
  obtain ⟨es, clock, rfl, hE⟩ := hS
  obtain ⟨vo, vc, vt, vh, hC⟩ := hV.cells
  refine fn_of_body Tryz.func92 rfl rfl fun E => ?_
  simp only [argF, Tryz.ntmps92]
  refine gzU ?_
  refine t_e (e_boxA rfl) rfl rfl rfl ?_
  rintro _ _ ⟨b2, _, rfl, rfl⟩
  refine gzU ?_
  refine t_e e_makeMap rfl rfl rfl ?_
  rintro _ _ ⟨m1, _, rfl, rfl⟩
  refine t_e e_makeMap rfl rfl rfl ?_
  rintro _ _ ⟨m2, _, rfl, rfl⟩
  refine gzU ?_
  refine t_q (q_loadL rfl (.tail _ (.tail _ (.head _))) hC.p) rfl rfl rfl ?_
  refine gzU ?_
  refine k_loop (α := Nat × List Ent × Nat × List Ent × Nat) (fun y => [(1, .map (some m)), (2, pV b2), (6, .map (some m1)), (7, .map (some m2)), (15, .agg (List.toArray (plc x.nn))), (16, .int .i64 y.1)]) (fun y => (m1, mapO .i64 y.2.1 y.2.2.1) :: (m2, mapO .i64 y.2.2.2.1 y.2.2.2.2) :: vwB b2 c :: l) (fun y => y.1 ≤ 8 ∧ SetE (SerT x S (4 * y.1)) y.2.1 y.2.2.1 ∧ SetE (ObjT x S (4 * y.1)) y.2.2.2.1 y.2.2.2.2) (fun y => 8 - y.1) (0, [], 0, [], 0) ⟨by omega, SetE.zero.congr fun z => ⟨fun ⟨j, h, _⟩ => by omega, fun h => h.elim⟩, SetE.zero.congr fun z => ⟨fun ⟨j, h, _⟩ => by omega, fun h => h.elim⟩⟩ ⟨rfl, rfl, rfl, rfl, rfl, rfl, trivial⟩ (.of_perm (.swap _ _ _)) ?_
  rintro ⟨p, e1, k1, e2, k2⟩ ⟨hp, h1, h2⟩
  simp only at hp h1 h2 ⊢
  by_cases hlt : p < 8
  · refine gzU ?_
    refine t_q (q_idxA rfl rfl hlt (plc_row x.nn hlt)) rfl rfl rfl ?_
    refine gzU ?_
    refine t_e e_alloc rfl rfl rfl ?_; rintro _ _ ⟨b9, _, rfl, rfl⟩
    refine gzU ?_
    refine k_loop (α := Nat × List Ent × Nat × List Ent × Nat) (fun y => [(1, .map (some m)), (2, pV b2), (6, .map (some m1)), (7, .map (some m2)), (15, .agg (List.toArray (plc x.nn))), (16, .int .i64 p), (9, pV b9), (20, .agg (List.toArray [.int .i64 (x.nn.root (4 * p + 0)), .int .i64 (x.nn.root (4 * p + 1)), .int .i64 (x.nn.root (4 * p + 2)), .int .i64 (x.nn.root (4 * p + 3))])), (21, .int .i64 y.1)]) (fun y => (b9, .cells (List.toArray (rowP x.nn p)) 28 (0, 0)) :: (m1, mapO .i64 y.2.1 y.2.2.1) :: (m2, mapO .i64 y.2.2.2.1 y.2.2.2.2) :: vwB b2 c :: l) (fun y => y.1 ≤ 4 ∧ SetE (SerT x S (4 * p + y.1)) y.2.1 y.2.2.1 ∧ SetE (ObjT x S (4 * p + y.1)) y.2.2.2.1 y.2.2.2.2) (fun y => 4 - y.1) (0, e1, k1, e2, k2) ⟨by omega, h1, h2⟩ ⟨rfl, rfl, rfl, rfl, rfl, rfl, rfl, rfl, rfl, trivial⟩ .refl ?_
    clear h1 h2
    rintro ⟨i, e1, k1, e2, k2⟩ ⟨hi, h1, h2⟩
    simp only at hi h1 h2 ⊢
    by_cases hl4 : i < 4
    · obtain ⟨r, hr⟩ : ∃ r, r = x.nn.root (4 * p + i) := ⟨_, rfl⟩
      have next : ¬ HitP x S (4 * p + i) → SetE (SerT x S (4 * p + (i + 1))) e1 k1 ∧ SetE (ObjT x S (4 * p + (i + 1))) e2 k2 := fun hh => ⟨h1.congr (SerT.skip hh), h2.congr (ObjT.skip hh)⟩
      refine gzU ?_
      refine t_q (q_idxV rfl rfl hl4 (rowP_root x.nn p hl4)) rfl rfl rfl ?_
      rw [← hr]
      refine gzU ?_
      by_cases hr0 : r = 0
      · refine gzU ?_
        exact k_next (i + 1, e1, k1, e2, k2) ⟨by omega, (next fun h => h.1 (hr ▸ hr0)).1, (next fun h => h.1 (hr ▸ hr0)).2⟩ (by simp only; omega) ⟨rfl, rfl, rfl, rfl, rfl, rfl, rfl, rfl, rfl, trivial⟩ .refl
      refine gzU ?_
      by_cases hSr : S r
      case neg =>
        rw [getE_S, hE.no hSr]
        simp only [Option.getD_none]
        refine gzU ?_
        exact k_next (i + 1, e1, k1, e2, k2) ⟨by omega, (next fun h => hSr (hr ▸ h.2.1)).1, (next fun h => hSr (hr ▸ h.2.1)).2⟩ (by simp only; omega) ⟨rfl, rfl, rfl, rfl, rfl, rfl, rfl, rfl, rfl, trivial⟩ .refl
      rw [getE_S, hE.yes hSr]
      simp only [Option.getD_some]
      refine gzU ?_
      refine t_h (q_loadL rfl (.tail _ (.tail _ (.tail _ (.head _)))) (As.LSub.of_all (n := 86) _ hC.len)) rfl rfl rfl ?_
      refine gzU ?_
      refine t_h (q_call rfl rfl (fun l2 hl => known_any x c r 5 l2 (hV.mono fun c hc => hl _ (.tail _ (.tail _ (.tail _ (.tail _ hc))))))) rfl rfl rfl ?_
      cases hk : Pt.kn x.vd r 5 with
      | false =>
        have hh : ¬ HitP x S (4 * p + i) := fun h => by have := h.2.2; rw [← hr, hk] at this; cases this
        refine gzU ?_
        exact k_next (i + 1, e1, k1, e2, k2) ⟨by omega, (next hh).1, (next hh).2⟩ (by simp only; omega) ⟨rfl, rfl, rfl, rfl, rfl, rfl, rfl, rfl, rfl, trivial⟩ .refl
      | true =>
        have hh : HitP x S (4 * p + i) := ⟨hr ▸ hr0, hr ▸ hSr, by rw [← hr]; exact hk⟩
        have g1 := (h1.put (x.nn.ser (4 * p + i))).congr (SerT.hit hh)
        have g2 := (h2.put (x.nn.obj ((4 * p + i) / 4))).congr (ObjT.hit hh)
        rw [show (4 * p + i) / 4 = p by omega] at g2
        refine gzU ?_
        refine t_q (q_load rfl (.head _) (rowP_ser x.nn p hl4)) rfl rfl rfl ?_
        refine t_n (e_mapUpdate rfl rfl rfl (.there .here)) rfl rfl ?_
        rintro _ _ ⟨rfl, rfl⟩
        rw [setE_S]
        refine gzU ?_
        refine t_n (e_mapUpdate rfl rfl rfl (.there (.there .here))) rfl rfl ?_
        rintro _ _ ⟨rfl, rfl⟩
        rw [setE_S]
        refine gzU ?_
        exact k_next (i + 1, _, _, _, _) ⟨by omega, g1, g2⟩ (by simp only; omega) ⟨rfl, rfl, rfl, rfl, rfl, rfl, rfl, rfl, rfl, trivial⟩ .refl
    · obtain rfl : i = 4 := by omega
      refine gzU ?_
      exact k_next (p + 1, e1, k1, e2, k2) ⟨by omega, h1, h2⟩ (by simp only; omega) ⟨rfl, rfl, rfl, rfl, rfl, rfl, trivial⟩ (.drop .refl)
  · obtain rfl : p = 8 := by omega
    refine gzU ?_
    refine t_n (e_delete rfl rfl .here) rfl rfl ?_
    rintro _ _ ⟨rfl, rfl⟩
    rw [delE_S]
    refine gzU ?_
    refine t_n (e_delete rfl rfl (.there .here)) rfl rfl ?_
    rintro _ _ ⟨rfl, rfl⟩
    rw [delE_S]
    refine gzU ?_
    exact k_ret [] rfl (.pick .here (.pick .here (.drop .refl))) (by exact zRes) ⟨m1, m2, _, _, rfl, ⟨_, _, rfl, (h1.del 0).congr (ser_spc x S)⟩, ⟨_, _, rfl, (h2.del 0).congr (obj_pol x S)⟩, rfl⟩
end Go.Proofs.YtgafamgacpglcaaGreat


/- part.leans: all that threads lean on. -/
-- GU
set_option linter.unusedVariables false
set_option linter.unusedSimpArgs false
namespace Go.Proofs.YtgafamgacpglcaaGreat
open Go.RowKit
set_option maxRecDepth 20000
set_option pp.deepTerms false
set_option pp.deepTerms.threshold 4

theorem ex_take {α : Type} {L : List α} {k : Nat} {o : α} (h : L[k]? = some o) (P : α → Prop) : (∃ a, a ∈ L.take (k + 1) ∧ P a) ↔ (∃ a, a ∈ L.take k ∧ P a) ∨ P o := by
  rw [List.take_add_one, h]
  constructor
  · rintro ⟨a, ha, hp⟩
    rcases List.mem_append.1 ha with ha | ha
    · exact .inl ⟨a, ha, hp⟩
    · simp at ha; subst ha; exact .inr hp
  · rintro (⟨a, ha, hp⟩ | hp)
    · exact ⟨a, List.mem_append_left _ ha, hp⟩
    · exact ⟨o, by simp, hp⟩
def ObP (x : VwT) (A : Int → Prop) (z : Int) (o : Ar.ObT) : Prop := o.kd = 4 ∧ Pt.Spc x.vd A o.se ∧ z = o.id
def CaP (x : VwT) (A : Int → Prop) (z : Int) (t : Th.ThT) : Prop := A t.ca ∧ Pt.kn x.vd t.ca 9 = true ∧ z = t.id
def WaP (A : Int → Prop) (n : Nat) (z : Int) (t : Th.ThT) : Prop := A t.id ∧ z ≠ 0 ∧ ((0 < n ∧ z = t.wa) ∨ (1 < n ∧ z = t.ca))
def OutO (x : VwT) (A : Int → Prop) (k : Nat) (z : Int) : Prop := (A z ∨ Pt.Pol x.vd A z) ∨ ∃ o, o ∈ x.os.take k ∧ ObP x A z o
def OutT (x : VwT) (A : Int → Prop) (k : Nat) (z : Int) : Prop := OutO x A x.os.length z ∨ ∃ t, t ∈ x.ts.take k ∧ (CaP x A z t ∨ WaP A 2 z t)
theorem WaP.succ {A : Int → Prop} {n : Nat} {t : Th.ThT} {w : Int} (hn : [t.wa, t.ca][n]? = some w) (z : Int) : WaP A (n + 1) z t ↔ WaP A n z t ∨ (A t.id ∧ z ≠ 0 ∧ z = w) := by
  unfold WaP
  rcases n with _ | _ | n
  · cases hn
    exact ⟨fun ⟨h1, h2, h3⟩ => h3.elim (fun h => .inr ⟨h1, h2, h.2⟩) fun h => by omega, fun h => h.elim (fun ⟨_, _, h3⟩ => by omega) fun ⟨h1, h2, h3⟩ => ⟨h1, h2, .inl ⟨by omega, h3⟩⟩⟩
  · cases hn
    exact ⟨fun ⟨h1, h2, h3⟩ => h3.elim (fun h => .inl ⟨h1, h2, .inl ⟨by omega, h.2⟩⟩) fun h => .inr ⟨h1, h2, h.2⟩, fun h => h.elim (fun ⟨h1, h2, h3⟩ => ⟨h1, h2, h3.elim (fun h => .inl ⟨by omega, h.2⟩) fun h => by omega⟩) fun ⟨h1, h2, h3⟩ => ⟨h1, h2, .inr ⟨by omega, h3⟩⟩⟩
  · cases hn
theorem outT_lns (x : VwT) (A : Int → Prop) (z : Int) : Pt.LnA x.vd A z ↔ OutT x A x.ts.length z := by
  unfold Pt.LnA OutT OutO
  rw [List.take_length, List.take_length]
  constructor
  · rintro (h | h | ⟨o, h1, h2, h3, h4⟩ | ⟨t, h1, h2, h3, h4⟩ | ⟨t, h1, h2, h3, h4⟩)
    · exact .inl (.inl (.inl h))
    · exact .inl (.inl (.inr h))
    · obtain ⟨o', ho, rfl⟩ := List.mem_map.1 h1; exact .inl (.inr ⟨o', ho, h2, h3, h4⟩)
    · obtain ⟨t', ht, rfl⟩ := List.mem_map.1 h1; exact .inr ⟨t', ht, .inl ⟨h2, h3, h4⟩⟩
    · obtain ⟨t', ht, rfl⟩ := List.mem_map.1 h1; exact .inr ⟨t', ht, .inr ⟨h2, h3, h4.elim (fun e => .inl ⟨by omega, e⟩) fun e => .inr ⟨by omega, e⟩⟩⟩
  · rintro (((h | h) | ⟨o, h1, h2, h3, h4⟩) | ⟨t, h1, ⟨h2, h3, h4⟩ | ⟨h2, h3, h4⟩⟩)
    · exact .inl h
    · exact .inr (.inl h)
    · exact .inr (.inr (.inl ⟨_, List.mem_map.2 ⟨o, h1, rfl⟩, h2, h3, h4⟩))
    · exact .inr (.inr (.inr (.inl ⟨_, List.mem_map.2 ⟨t, h1, rfl⟩, h2, h3, h4⟩)))
    · exact .inr (.inr (.inr (.inr ⟨_, List.mem_map.2 ⟨t, h1, rfl⟩, h2, h3, h4.elim (fun e => .inl e.2) fun e => .inr e.2⟩)))
set_option maxHeartbeats 4000000 in
theorem leans_any (x : VwT) (c : List Value) (vt : Value) (ths : List Int) (l : List Chunk) (hV : VwIn l x c) (hth : IntSl l vt ths) (hn : ths.length ≤ 100) :
    Fn Tryz.prog 40 [.agg (List.toArray c), vt] l fun v l' => ∃ m ch, v = .map (some m) ∧ StI m (Pt.Lns x.vd ths) ch ∧ l' = ch :: l := by
  obtain ⟨vo, vc, vt2, vh, hC⟩ := hV.cells
  obtain ⟨aO, capO, hvo, hrO⟩ := hC.o
  obtain ⟨aT, capT, hvh, hrT⟩ := hC.s
  rw [List.length_map] at hvo hrO hvh hrT
  subst hvo hvh
  have hlo := hV.lo
  have hls := hV.ls
  have hIm : ∀ l2 : List Chunk, (∀ q, q ∈ l → q ∈ l2) → IntSl l2 vt ths := fun l2 hl => by
    obtain ⟨a, cap, h1, h2⟩ := hth
    exact ⟨a, cap, h1, fun h0 => by obtain ⟨b, off, cs, t, fz, k1, k2, k3⟩ := h2 h0; exact ⟨b, off, cs, t, fz, k1, hl _ k2, k3⟩⟩
  refine fn_of_body Tryz.func40 rfl rfl fun E => ?_
  simp only [argF, Tryz.ntmps40]
  refine gzU ?_
  refine t_e (e_boxA rfl) rfl rfl rfl ?_
  rintro _ _ ⟨b2, _, rfl, rfl⟩
  refine gzU ?_
  refine t_q (q_loadL rfl (.head _) (As.LSub.of_all (n := 86) _ hC.len)) rfl rfl rfl ?_
  refine gzU ?_
  refine t_e (e_call0 rfl rfl (reach_any x c vt ths _ (hV.mono fun q hq => .tail _ hq) (hIm _ fun q hq => .tail _ hq) hn)) rfl rfl rfl ?_
  rintro _ _ ⟨m, ch, rfl, hA, rfl⟩
  obtain ⟨A, hAe⟩ : ∃ A, A = Pt.Rch x.vd ths := ⟨_, rfl⟩
  rw [← hAe] at hA
  refine gzU ?_
  refine t_e (e_call0 rfl rfl (cloneS_any m A ch hA _ (.head _))) rfl rfl rfl ?_
  rintro _ _ ⟨mo, co, rfl, hO, rfl⟩
  refine gzU ?_
  refine t_q (q_loadL rfl (.tail _ (.tail _ (.head _))) (As.LSub.of_all (n := 86) _ hC.len)) rfl rfl rfl ?_
  refine gzU ?_
  refine t_e (e_call0 rfl rfl (serials_any x c m A ch hA _ (.tail _ (.head _)) (hV.mono fun q hq => .tail _ (.tail _ (.tail _ hq))))) rfl rfl rfl ?_
  rintro _ _ ⟨ms, mp, cS, cP, rfl, hS, hP, rfl⟩
  refine gzU ?_
  refine s_keep (l' := co :: cP :: cS :: ch :: vwB b2 c :: l) (by exact zKeep) ?_
  refine t_e (e_call0 rfl rfl (copyS_any mo mp _ _ co cP hO hP _)) rfl rfl rfl ?_
  rintro _ _ ⟨rfl, co', hO', rfl⟩
  obtain ⟨eA, kA, rfl, hEA⟩ := hA
  obtain ⟨eS, kS, rfl, hES⟩ := hS
  obtain ⟨eO, kO, rfl, hEO⟩ := hO'
  refine gzU ?_
  refine t_q (q_load rfl (.tail _ (.tail _ (.tail _ (.tail _ (.head _))))) hC.c0) rfl rfl rfl ?_
  refine gzU ?_
  refine k_loop (α := Nat × List Ent × Nat) (fun y => [(2, pV b2), (5, .map (some m)), (6, .map (some mo)), (7, .map (some ms)), (30, .slice aO x.os.length capO), (31, .int .i64 (x.os.length : Nat)), (32, .int .i64 y.1)]) (fun y => (mo, mapO .i64 y.2.1 y.2.2) :: (ms, mapO .i64 eS kS) :: (m, mapO .i64 eA kA) :: vwB b2 c :: l) (fun y => y.1 ≤ x.os.length ∧ SetE (OutO x A y.1) y.2.1 y.2.2) (fun y => x.os.length - y.1) (0, eO, kO) ⟨Nat.zero_le _, hEO.congr fun z => by simp [OutO]⟩ ⟨rfl, rfl, rfl, rfl, rfl, rfl, rfl, trivial⟩ (by exact zKeep) ?_
  clear hEO
  rintro ⟨k, eO, kO⟩ ⟨hk, hEO⟩
  simp only at hk hEO ⊢
  by_cases hlt : k < x.os.length
  · obtain ⟨o, hio⟩ : ∃ o, x.os[k]? = some o := ⟨_, List.getElem?_eq_getElem hlt⟩
    obtain ⟨bB, off, cs, t, fz, rfl, hmr, hrow⟩ := hrO (by omega)
    obtain ⟨x1, x2, _⟩ := hrow k (Ar.obC o) (by rw [List.getElem?_map, hio]; rfl)
    have hs : ∀ z, OutO x A (k + 1) z ↔ OutO x A k z ∨ ObP x A z o := fun z => by unfold OutO; rw [ex_take hio]; simp only [or_assoc]
    refine gzU ?_
    refine t_q (q_loadA rfl (.tail _ (.tail _ (.tail _ (.tail _ hmr)))) x1 x2) rfl rfl rfl ?_
    refine gzU ?_
    refine t_e e_alloc rfl rfl rfl ?_; rintro _ _ ⟨b10, _, rfl, rfl⟩
    refine gzU ?_
    by_cases h4 : o.kd = 4
    case neg =>
      refine gzU ?_
      exact k_next (k + 1, eO, kO) ⟨by simp only; omega, hEO.congr fun z => by rw [hs]; exact ⟨fun h => h.elim id fun h => absurd h.1 h4, .inl⟩⟩ (by simp only; omega) ⟨rfl, rfl, rfl, rfl, rfl, rfl, rfl, trivial⟩ (.drop .refl)
    refine gzU ?_
    by_cases hsp : Pt.Spc x.vd A o.se
    case neg =>
      rw [getE_S, hES.no hsp]
      simp only [Option.getD_none]
      refine gzU ?_
      exact k_next (k + 1, eO, kO) ⟨by simp only; omega, hEO.congr fun z => by rw [hs]; exact ⟨fun h => h.elim id fun h => absurd h.2.1 hsp, .inl⟩⟩ (by simp only; omega) ⟨rfl, rfl, rfl, rfl, rfl, rfl, rfl, trivial⟩ (.drop .refl)
    rw [getE_S, hES.yes hsp]
    simp only [Option.getD_some]
    refine gzU ?_
    refine t_n (e_mapUpdate rfl rfl rfl (.there .here)) rfl rfl ?_
    rintro _ _ ⟨rfl, rfl⟩
    rw [setE_S]
    refine gzU ?_
    exact k_next (k + 1, _, _) ⟨by simp only; omega, (hEO.put o.id).congr fun z => by rw [hs]; exact ⟨fun h => h.imp id fun h => h.2.2, fun h => h.imp id fun h => ⟨h4, hsp, h⟩⟩⟩ (by simp only; omega) ⟨rfl, rfl, rfl, rfl, rfl, rfl, rfl, trivial⟩ (.drop .refl)
  obtain rfl : k = x.os.length := by omega
  refine gzU ?_
  refine t_q (q_load rfl (.tail _ (.tail _ (.tail _ (.head _)))) hC.c3) rfl rfl rfl ?_
  refine gzU ?_
  refine k_loop (α := Nat × List Ent × Nat) (fun y => [(2, pV b2), (5, .map (some m)), (6, .map (some mo)), (51, .slice aT x.ts.length capT), (52, .int .i64 (x.ts.length : Nat)), (53, .int .i64 y.1)]) (fun y => (mo, mapO .i64 y.2.1 y.2.2) :: (ms, mapO .i64 eS kS) :: (m, mapO .i64 eA kA) :: vwB b2 c :: l) (fun y => y.1 ≤ x.ts.length ∧ SetE (OutT x A y.1) y.2.1 y.2.2) (fun y => x.ts.length - y.1) (0, eO, kO) ⟨Nat.zero_le _, hEO.congr fun z => by simp [OutT]⟩ ⟨rfl, rfl, rfl, rfl, rfl, rfl, trivial⟩ .refl ?_
  clear hEO
  rintro ⟨k, eO, kO⟩ ⟨hk, hEO⟩
  simp only at hk hEO ⊢
  by_cases hlt : k < x.ts.length
  · obtain ⟨t, hit⟩ : ∃ t, x.ts[k]? = some t := ⟨_, List.getElem?_eq_getElem hlt⟩
    obtain ⟨bB, off, cs, tt, fz, rfl, hmr, hrow⟩ := hrT (by omega)
    obtain ⟨x1, x2, _⟩ := hrow k (Th.encH t) (by rw [List.getElem?_map, hit]; rfl)
    have hs : ∀ z, OutT x A (k + 1) z ↔ OutT x A k z ∨ (CaP x A z t ∨ WaP A 2 z t) := fun z => by unfold OutT; rw [ex_take hit]; simp only [or_assoc]
    refine gzU ?_
    refine t_q (q_loadA rfl (.tail _ (.tail _ (.tail _ (.tail _ hmr)))) x1 x2) rfl rfl rfl ?_
    refine gzU ?_
    refine t_e e_alloc rfl rfl rfl ?_; rintro _ _ ⟨b12, _, rfl, rfl⟩
    iterate 3 refine gzSU ?_
    refine c_join (α := List Ent × Nat) (fun _ => [(2, pV b2), (5, .map (some m)), (6, .map (some mo)), (12, pV b12), (51, .slice (some ⟨bB, off, none⟩) x.ts.length capT), (52, .int .i64 (x.ts.length : Nat)), (53, .int .i64 k)]) (fun y => Th.thC b12 t :: (mo, mapO .i64 y.1 y.2) :: (ms, mapO .i64 eS kS) :: (m, mapO .i64 eA kA) :: vwB b2 c :: l) (fun y => SetE (fun z => OutT x A k z ∨ CaP x A z t) y.1 y.2) ?_ ?_
    · refine gzU ?_
      by_cases hA1 : A t.ca
      case neg =>
        rw [getE_S, hEA.no hA1]
        simp only [Option.getD_none]
        refine gzU ?_
        exact p_join (eO, kO) (hEO.congr fun z => ⟨fun h => h.elim id fun h => absurd h.1 hA1, .inl⟩) ⟨rfl, rfl, rfl, rfl, rfl, rfl, rfl, trivial⟩ .refl
      rw [getE_S, hEA.yes hA1]
      simp only [Option.getD_some]
      refine gzU ?_
      refine t_h (q_loadL rfl (.tail _ (.tail _ (.tail _ (.tail _ (.head _))))) (As.LSub.of_all (n := 86) _ hC.len)) rfl rfl rfl ?_
      refine gzU ?_
      refine t_h (q_call rfl rfl (fun l2 hl => known_any x c t.ca 9 l2 (hV.mono fun c hc => hl _ (.tail _ (.tail _ (.tail _ (.tail _ (.tail _ hc)))))))) rfl rfl rfl ?_
      cases hk : Pt.kn x.vd t.ca 9 with
      | false =>
        refine gzU ?_
        exact p_join (eO, kO) (hEO.congr fun z => ⟨fun h => h.elim id fun h => (nomatch hk.symm.trans h.2.1), .inl⟩) ⟨rfl, rfl, rfl, rfl, rfl, rfl, rfl, trivial⟩ .refl
      | true =>
        refine gzU ?_
        refine t_n (e_mapUpdate rfl rfl rfl (.there .here)) rfl rfl ?_
        rintro _ _ ⟨rfl, rfl⟩
        rw [setE_S]
        refine gzU ?_
        exact p_join (_, _) ((hEO.put t.id).congr fun z => ⟨fun h => h.imp id fun h => h.2.2, fun h => h.imp id fun h => ⟨hA1, hk, h⟩⟩) ⟨rfl, rfl, rfl, rfl, rfl, rfl, rfl, trivial⟩ .refl
    · clear hEO
      rintro ⟨eO, kO⟩ hEO
      simp only at hEO ⊢
      refine gzU ?_
      refine t_q (q_buildArr (k := 1) (cs := [.int .i64 t.wa, .int .i64 t.ca]) rfl rfl) rfl rfl rfl ?_
      refine gzU ?_
      refine k_loop (α := Nat × List Ent × Nat) (fun y => [(2, pV b2), (5, .map (some m)), (6, .map (some mo)), (12, pV b12), (51, .slice (some ⟨bB, off, none⟩) x.ts.length capT), (52, .int .i64 (x.ts.length : Nat)), (53, .int .i64 k), (75, .agg (List.toArray [.int .i64 t.wa, .int .i64 t.ca])), (76, .int .i64 y.1)]) (fun y => Th.thC b12 t :: (mo, mapO .i64 y.2.1 y.2.2) :: (ms, mapO .i64 eS kS) :: (m, mapO .i64 eA kA) :: vwB b2 c :: l) (fun y => y.1 ≤ 2 ∧ SetE (fun z => (OutT x A k z ∨ CaP x A z t) ∨ WaP A y.1 z t) y.2.1 y.2.2) (fun y => 2 - y.1) (0, eO, kO) ⟨by omega, hEO.congr fun z => by simp [WaP]⟩ ⟨rfl, rfl, rfl, rfl, rfl, rfl, rfl, rfl, rfl, trivial⟩ .refl ?_
      clear hEO
      rintro ⟨i, eO, kO⟩ ⟨hi, hEO⟩
      simp only at hi hEO ⊢
      by_cases hl2 : i < 2
      · obtain ⟨w, hw⟩ : ∃ w, [t.wa, t.ca][i]? = some w := ⟨_, List.getElem?_eq_getElem hl2⟩
        have hwv : [Value.int .i64 t.wa, .int .i64 t.ca][i * 1]? = some (.int .i64 w) := by
          rcases i with _ | _ | i
          · cases hw; rfl
          · cases hw; rfl
          · omega
        refine gzU ?_
        refine t_q (q_idxV rfl rfl hl2 hwv) rfl rfl rfl ?_
        refine gzU ?_
        by_cases hA2 : A t.id
        case neg =>
          rw [getE_S, hEA.no hA2]
          simp only [Option.getD_none]
          refine gzU ?_
          exact k_next (i + 1, eO, kO) ⟨by simp only; omega, hEO.congr fun z => by rw [WaP.succ hw]; exact ⟨fun h => h.imp id fun h => h.elim id fun h => absurd h.1 hA2, fun h => h.imp id .inl⟩⟩ (by simp only; omega) ⟨rfl, rfl, rfl, rfl, rfl, rfl, rfl, rfl, rfl, trivial⟩ .refl
        rw [getE_S, hEA.yes hA2]
        simp only [Option.getD_some]
        refine gzU ?_
        by_cases hw0 : w = 0
        · refine gzU ?_
          exact k_next (i + 1, eO, kO) ⟨by simp only; omega, hEO.congr fun z => by rw [WaP.succ hw]; exact ⟨fun h => h.imp id fun h => h.elim id fun h => absurd (h.2.2.trans hw0) h.2.1, fun h => h.imp id .inl⟩⟩ (by simp only; omega) ⟨rfl, rfl, rfl, rfl, rfl, rfl, rfl, rfl, rfl, trivial⟩ .refl
        refine gzU ?_
        refine t_n (e_mapUpdate rfl rfl rfl (.there .here)) rfl rfl ?_
        rintro _ _ ⟨rfl, rfl⟩
        rw [setE_S]
        refine gzU ?_
        exact k_next (i + 1, _, _) ⟨by simp only; omega, (hEO.put w).congr fun z => by rw [WaP.succ hw, ← or_assoc]; exact ⟨fun h => h.imp id fun h => h.2.2, fun h => h.elim (fun h => .inl h) fun h => .inr ⟨hA2, fun e => hw0 ((Eq.symm h).trans e), h⟩⟩⟩ (by simp only; omega) ⟨rfl, rfl, rfl, rfl, rfl, rfl, rfl, rfl, rfl, trivial⟩ .refl
      obtain rfl : i = 2 := by omega
      refine gzU ?_
      exact k_next (k + 1, eO, kO) ⟨by simp only; omega, hEO.congr fun z => by rw [hs, or_assoc]⟩ (by simp only; omega) ⟨rfl, rfl, rfl, rfl, rfl, rfl, trivial⟩ (.drop .refl)
  obtain rfl : k = x.ts.length := by omega
  refine gzU ?_
  rw [hAe] at hEO
  exact k_ret [] rfl (l' := (mo, mapO .i64 eO kO) :: l) (.pick .here (.drop (.drop (.drop .refl)))) (by exact zRes) ⟨mo, _, rfl, ⟨eO, kO, rfl, hEO.congr (outT_lns x _)⟩, rfl⟩
end Go.Proofs.YtgafamgacpglcaaGreat


/- part.Reach, part.Leans: the sets' numbers, rising. -/
-- GU
set_option linter.unusedVariables false
set_option linter.unusedSimpArgs false
namespace Go.Proofs.YtgafamgacpglcaaGreat
open Go.RowKit
set_option maxRecDepth 20000
set_option pp.deepTerms false
set_option pp.deepTerms.threshold 4

theorem IntSl.mono {l l2 : List Chunk} {v : Value} {xs : List Int} (h : IntSl l v xs) (hl : ∀ q, q ∈ l → q ∈ l2) : IntSl l2 v xs := by
  obtain ⟨a, cap, h1, h2⟩ := h
  exact ⟨a, cap, h1, fun h0 => by obtain ⟨b, off, cs, t, fz, k1, k2, k3⟩ := h2 h0; exact ⟨b, off, cs, t, fz, k1, hl _ k2, k3⟩⟩
theorem keep_app (X : List Chunk) {A B : List Chunk} (h : Keep A B) : Keep (X ++ A) (X ++ B) := by
  obtain ⟨q, hq⟩ := h
  exact ⟨q, (hq.append_left X).trans (List.perm_append_comm_assoc X q B)⟩
def rchU (x : VwT) (ths : List Int) : List Int := ths ++ x.hs.map fun h => h.2.obj
theorem rchU_all (x : VwT) (ths : List Int) {z : Int} (h : Pt.Rch x.vd ths z) : z ∈ rchU x ths := by
  refine Pt.Rch.least (fun t ht _ => List.mem_append_left _ ht) (fun y w _ _ hw => ?_) h
  rw [from_vd] at hw
  obtain ⟨q, hq, rfl⟩ := List.mem_map.1 hw
  exact List.mem_append_right _ (List.mem_map.2 ⟨q, (List.mem_filter.1 hq).1, rfl⟩)
set_option maxHeartbeats 1000000 in
theorem Reach_any (x : VwT) (c : List Value) (vt : Value) (ths : List Int) (l : List Chunk) (hV : VwIn l x c) (hth : IntSl l vt ths) (hn : ths.length ≤ 100) :
    Fn Tryz.prog 12 [.agg (List.toArray c), vt] l fun v l' => ∃ (xs : List Int) (cs : List Chunk), (∀ z, z ∈ xs ↔ Pt.Rch x.vd ths z) ∧ xs.length ≤ 200 ∧ OwnSl 3 1 v xs.length (xs.map intQ) cs ∧ l' = cs ++ l := by
  obtain ⟨a, cap, rfl, hth⟩ := hth
  obtain ⟨vo, vc, vt, vh, hC⟩ := hV.cells
  have hlh := hV.lh
  refine fn_of_body Tryz.func12 rfl rfl fun E => ?_
  simp only [argF, Tryz.ntmps12]
  refine gzU ?_
  refine t_e (e_boxA rfl) rfl rfl rfl ?_
  rintro _ _ ⟨b2, _, rfl, rfl⟩
  refine gzU ?_
  refine t_q (q_loadL rfl (.head _) (As.LSub.of_all (n := 86) _ hC.len)) rfl rfl rfl ?_
  refine gzU ?_
  refine t_e (e_call0 rfl rfl (reach_any x c _ ths _ (hV.mono fun q hq => .tail _ hq) (IntSl.mono ⟨a, cap, rfl, hth⟩ fun q hq => .tail _ hq) hn)) rfl rfl rfl ?_
  rintro _ _ ⟨m, ch, rfl, hA, rfl⟩
  have hUl : (rchU x ths).length ≤ 200 := by unfold rchU; rw [List.length_append, List.length_map]; omega
  refine t_e (e_call0 rfl rfl (rising_any m _ ch hA (rchU x ths) (fun z hz => rchU_all x ths hz) (by omega) _ (.head _))) rfl rfl rfl ?_
  rintro v _ ⟨xs, cs, hxs, hle, ho, rfl⟩
  have hv1 : v.oneCell' = true := ho.one
  refine gzU ?_
  refine k_ret [] rfl (l' := cs ++ l) (keep_app cs (.drop (.drop .refl))) (by exact zRes) ?_
  exact ⟨xs, cs, hxs, by omega, ho, rfl⟩
end Go.Proofs.YtgafamgacpglcaaGreat


/- part.Slots, part.Maps: slots of held capabilities. -/
-- GU
set_option linter.unusedVariables false
set_option linter.unusedSimpArgs false
namespace Go.Proofs.YtgafamgacpglcaaGreat
open Go.RowKit
set_option maxRecDepth 20000
set_option pp.deepTerms false
set_option pp.deepTerms.threshold 4

theorem containsI_any (v : Value) (xs : List Int) (id : Int) (l : List Chunk) (h1 : IntSl l v xs) (hx : xs.length ≤ 1000000) :
    Fn Tryz.prog 97 [v, .int .i64 id] l fun r l' => r = .bool (decide (id ∈ xs)) ∧ l' = l := by
  have hv1 : v.oneCell' = true := by obtain ⟨a, ca, rfl, _⟩ := h1; rfl
  refine fn_of_body Tryz.func97 rfl rfl fun E => ?_
  simp only [argF, Tryz.ntmps97]
  refine gzU ?_
  refine t_q (q_call rfl rfl (fun l2 hl => Qu.index_any v xs id l2 (h1.mono hl) hx)) rfl rfl rfl ?_
  refine gzU ?_
  refine k_ret [] rfl .refl (by exact zRes) ⟨?_, rfl⟩
  by_cases h : id ∈ xs
  · simp [tup, Qu.indexI, h]
  · simp [tup, Qu.indexI, h]
abbrev sltC (s : Int × Int) : List Value := [.int .i64 s.1, .int .i64 s.2]
def slotsT (xs : List Int) (hs : List HdT) : List (Int × Int) := (hs.filter fun h => decide (h.1.1 ∈ xs)).map fun h => h.1
theorem slotsT_snoc (xs : List Int) (hs : List HdT) (h : HdT) : slotsT xs (hs ++ [h]) = slotsT xs hs ++ (if h.1.1 ∈ xs then [h.1] else []) := by
  unfold slotsT
  rw [List.filter_append, List.map_append]
  congr 1
  rw [List.filter_cons]
  split <;> simp_all
theorem slotsT_le (xs : List Int) (hs : List HdT) : (slotsT xs hs).length ≤ hs.length := by
  unfold slotsT; rw [List.length_map]; exact List.length_filter_le ..
set_option maxHeartbeats 4000000 in
theorem Slots_any (x : VwT) (c : List Value) (vt : Value) (xs : List Int) (l : List Chunk) (hV : VwIn l x c) (hth : IntSl l vt xs) (hn : xs.length ≤ 1000000) :
    Fn Tryz.prog 45 [.agg (List.toArray c), vt] l fun v l' => ∃ cs, OwnSl 113 2 v (slotsT xs x.hs).length ((slotsT xs x.hs).map sltC).flatten cs ∧ l' = cs ++ l := by
  have hvt1 : vt.oneCell' = true := by obtain ⟨a, ca, rfl, _⟩ := hth; rfl
  obtain ⟨vo, vc, vt2, vh, hC⟩ := hV.cells
  have hlh := hV.lh
  obtain ⟨a, cap, hvc, hr⟩ := hC.h
  rw [List.length_map] at hvc hr
  subst hvc
  refine fn_of_body Tryz.func45 rfl rfl fun E => ?_
  simp only [argF, Tryz.ntmps45]
  refine gzU ?_
  refine t_e (e_boxA rfl) rfl rfl rfl ?_
  rintro _ _ ⟨b2, _, rfl, rfl⟩
  refine gzU ?_
  refine t_q (q_load rfl (.head _) hC.c1) rfl rfl rfl ?_
  refine gzU ?_
  refine k_loop (α := Nat × Value × List Chunk) (fun y => [(1, vt), (5, y.2.1), (9, .slice a x.hs.length cap), (10, .int .i64 (x.hs.length : Nat)), (11, .int .i64 y.1)]) (fun y => y.2.2 ++ l) (fun y => y.1 ≤ x.hs.length ∧ OwnSl 113 2 y.2.1 (slotsT xs (x.hs.take y.1)).length ((slotsT xs (x.hs.take y.1)).map sltC).flatten y.2.2) (fun y => x.hs.length - y.1) (0, nilS, []) ⟨Nat.zero_le _, OwnSl.nil _ _⟩ ⟨rfl, rfl, rfl, rfl, rfl, trivial⟩ (.drop .refl) ?_
  rintro ⟨k, v, cs⟩ ⟨hk, ho⟩
  simp only at hk ho ⊢
  by_cases hlt : k < x.hs.length
  · obtain ⟨h, hih⟩ : ∃ h, x.hs[k]? = some h := ⟨_, List.getElem?_eq_getElem hlt⟩
    obtain ⟨bB, off, rw_, t, fz, rfl, hmr, hrow⟩ := hr (by omega)
    obtain ⟨x1, x2, _⟩ := hrow k (encE h) (by rw [List.getElem?_map, hih]; rfl)
    have htk : x.hs.take (k + 1) = x.hs.take k ++ [h] := by rw [List.take_add_one, hih]; rfl
    have hsn := slotsT_snoc xs (x.hs.take k) h
    rw [← htk] at hsn
    have hv1 := ho.one
    refine gzU ?_
    refine t_q (q_loadA rfl (List.mem_append_right _ hmr) x1 x2) rfl rfl rfl ?_
    refine gzU ?_
    refine t_e e_alloc rfl rfl rfl ?_; rintro _ _ ⟨b7, _, rfl, rfl⟩
    refine gzU ?_
    refine t_q (q_call rfl rfl (fun l2 hl => containsI_any vt xs h.1.1 l2 (hth.mono fun q hq => hl _ (.tail _ (List.mem_append_right _ hq))) hn)) rfl rfl rfl ?_
    by_cases hin : h.1.1 ∈ xs
    case neg =>
      rw [if_neg hin, List.append_nil] at hsn
      refine gzU ?_
      exact k_next (k + 1, v, cs) ⟨by simp only; omega, by simp only; rw [hsn]; exact ho⟩ (by simp only; omega) ⟨rfl, rfl, rfl, rfl, rfl, trivial⟩ (.drop .refl)
    rw [if_pos hin] at hsn
    have hle := slotsT_le xs (x.hs.take k)
    rw [List.length_take] at hle
    refine gzU ?_
    refine t_e (e_litA (k := 2) (ws := sltC h.1) rfl rfl rfl (by decide) (by decide)) rfl rfl rfl ?_
    rintro _ _ ⟨bl, _, rfl, rfl⟩
    refine t_e (e_appX (k := 2) (X := [_]) rfl rfl rfl ho rfl (by simp [Value.oneCell', sltC]) (by omega) (by decide)) rfl rfl rfl ?_
    rintro v' _ ⟨c2, ho2, rfl⟩
    have hv2 : v'.oneCell' = true := ho2.one
    refine gzU ?_
    refine k_next (k + 1, v', c2) ⟨by simp only; omega, ?_⟩ (by simp only; omega) ⟨rfl, rfl, rfl, rfl, rfl, trivial⟩ (.drop .refl)
    simp only [hsn, List.length_append, List.map_append, List.map_cons, List.map_nil, List.flatten_append, List.flatten_cons, List.flatten_nil, List.append_nil]
    exact ho2
  obtain rfl : k = x.hs.length := by omega
  rw [List.take_length] at ho
  have hv1 := ho.one
  refine gzU ?_
  refine k_ret [] rfl (l' := cs ++ l) .refl (by exact zRes) ?_
  exact ⟨cs, ho, rfl⟩
end Go.Proofs.YtgafamgacpglcaaGreat


/- part.Maps: a group's maps. -/
-- GU
set_option linter.unusedVariables false
set_option linter.unusedSimpArgs false
namespace Go.Proofs.YtgafamgacpglcaaGreat
open Go.RowKit
set_option maxRecDepth 20000
set_option pp.deepTerms false
set_option pp.deepTerms.threshold 4

open Classical in
noncomputable def mapsT (S : Int → Prop) (hs : List HdT) : List (Int × Int) := (hs.filter fun h => decide (h.2.kind = 3 ∧ S h.2.serial)).map fun h => h.1
open Classical in
theorem mapsT_snoc (S : Int → Prop) (hs : List HdT) (h : HdT) : mapsT S (hs ++ [h]) = mapsT S hs ++ (if h.2.kind = 3 ∧ S h.2.serial then [h.1] else []) := by
  unfold mapsT
  rw [List.filter_append, List.map_append]
  congr 1
  rw [List.filter_cons]
  split <;> simp_all
theorem mapsT_le (S : Int → Prop) (hs : List HdT) : (mapsT S hs).length ≤ hs.length := by
  unfold mapsT; rw [List.length_map]; exact List.length_filter_le ..
set_option maxHeartbeats 4000000 in
theorem Maps_any (x : VwT) (c : List Value) (vt : Value) (ths : List Int) (l : List Chunk) (hV : VwIn l x c) (hth : IntSl l vt ths) (hn : ths.length ≤ 100) :
    Fn Tryz.prog 46 [.agg (List.toArray c), vt] l fun v l' => ∃ cs, OwnSl 113 2 v (mapsT (Pt.Spc x.vd (Pt.Rch x.vd ths)) x.hs).length ((mapsT (Pt.Spc x.vd (Pt.Rch x.vd ths)) x.hs).map sltC).flatten cs ∧ l' = cs ++ l := by
  have hvt1 : vt.oneCell' = true := by obtain ⟨a, ca, rfl, _⟩ := hth; rfl
  obtain ⟨vo, vc, vt2, vh, hC⟩ := hV.cells
  have hlh := hV.lh
  obtain ⟨a, cap, hvc, hr⟩ := hC.h
  rw [List.length_map] at hvc hr
  subst hvc
  refine fn_of_body Tryz.func46 rfl rfl fun E => ?_
  simp only [argF, Tryz.ntmps46]
  refine gzU ?_
  refine t_e (e_boxA rfl) rfl rfl rfl ?_
  rintro _ _ ⟨b2, _, rfl, rfl⟩
  refine gzU ?_
  refine c_draw [(0, true), (1, true), (2, true), (3, false), (4, false), (5, true), (6, true), (7, true), (8, true), (9, true)] [[], [], [], [1, 2], [0, 1, 2, 3], [0, 1, 2, 3, 4], [0, 1, 2, 3, 4, 5], [0, 1, 2, 3, 4, 5], [0, 1, 2, 3, 4, 5, 6], [0, 1, 2, 3, 4, 5, 6, 7, 8]] _ (by kernel_rfl) (by kernel_rfl) zAtt (fun _ h => h) ?_
  refine pzU ?_
  apply pl_q
  · exact q_loadL rfl (.head _) (As.LSub.of_all (n := 86) _ hC.len)
  · rfl
  · rfl
  · rfl
  refine pzU ?_
  apply pl_q
  · exact q_loadL rfl (.head _) (As.LSub.of_all (n := 86) _ hC.len)
  · rfl
  · rfl
  · rfl
  refine pzU ?_
  apply pl_e
  · exact e_call0 rfl rfl (reach_any x c _ ths _ (hV.mono fun q hq => .tail _ hq) (hth.mono fun q hq => .tail _ hq) hn)
  · rfl
  · rfl
  · rfl
  · rintro _ _ ⟨_, _, _, _, rfl⟩ q hq; exact .tail _ hq
  rintro _ _ ⟨m, ch, rfl, hA, rfl⟩
  obtain ⟨A, hAe⟩ : ∃ A, A = Pt.Rch x.vd ths := ⟨_, rfl⟩
  rw [← hAe] at hA ⊢
  refine pzU ?_
  apply pl_e
  · exact e_call0 rfl rfl (serials_any x c m A ch hA _ (.head _) (hV.mono fun q hq => .tail _ (.tail _ hq)))
  · rfl
  · rfl
  · rfl
  · rintro _ _ ⟨_, _, _, _, _, _, _, rfl⟩ q hq; exact .tail _ (.tail _ (.tail _ hq))
  rintro _ _ ⟨ms, mp, cS, cP, rfl, hS, _, rfl⟩
  obtain ⟨S, hSe⟩ : ∃ S, S = Pt.Spc x.vd A := ⟨_, rfl⟩
  rw [← hSe] at hS ⊢
  obtain ⟨eS, kS, rfl, hES⟩ := hS
  refine pzU ?_
  refine gzU ?_
  refine t_q (q_load rfl (.tail _ (.tail _ (.tail _ (.head _)))) hC.c1) rfl rfl rfl ?_
  refine gzU ?_
  refine k_loop (α := Nat × Value × List Chunk) (fun y => [(5, .map (some ms)), (7, y.2.1), (19, .slice a x.hs.length cap), (20, .int .i64 (x.hs.length : Nat)), (21, .int .i64 y.1)]) (fun y => (ms, mapO .i64 eS kS) :: (y.2.2 ++ l)) (fun y => y.1 ≤ x.hs.length ∧ OwnSl 113 2 y.2.1 (mapsT S (x.hs.take y.1)).length ((mapsT S (x.hs.take y.1)).map sltC).flatten y.2.2) (fun y => x.hs.length - y.1) (0, nilS, []) ⟨Nat.zero_le _, OwnSl.nil _ _⟩ ⟨rfl, rfl, rfl, rfl, rfl, trivial⟩ (.pick .here (.drop (.drop (.drop .refl)))) ?_
  rintro ⟨k, v, cs⟩ ⟨hk, ho⟩
  simp only at hk ho ⊢
  by_cases hlt : k < x.hs.length
  · obtain ⟨h, hih⟩ : ∃ h, x.hs[k]? = some h := ⟨_, List.getElem?_eq_getElem hlt⟩
    obtain ⟨bB, off, rw_, t, fz, rfl, hmr, hrow⟩ := hr (by omega)
    obtain ⟨x1, x2, _⟩ := hrow k (encE h) (by rw [List.getElem?_map, hih]; rfl)
    have htk : x.hs.take (k + 1) = x.hs.take k ++ [h] := by rw [List.take_add_one, hih]; rfl
    have hsn := mapsT_snoc S (x.hs.take k) h
    rw [← htk] at hsn
    have hv1 := ho.one
    have skip : ¬ (h.2.kind = 3 ∧ S h.2.serial) → OwnSl 113 2 v (mapsT S (x.hs.take (k + 1))).length ((mapsT S (x.hs.take (k + 1))).map sltC).flatten cs := fun hh => by
      rw [if_neg hh, List.append_nil] at hsn; rw [hsn]; exact ho
    refine gzU ?_
    refine t_q (q_loadA rfl (.tail _ (List.mem_append_right _ hmr)) x1 x2) rfl rfl rfl ?_
    refine gzU ?_
    refine t_e e_alloc rfl rfl rfl ?_; rintro _ _ ⟨b9, _, rfl, rfl⟩
    refine gzU ?_
    by_cases h3 : h.2.kind = 3
    case neg =>
      refine gzU ?_
      exact k_next (k + 1, v, cs) ⟨by simp only; omega, skip fun hh => h3 hh.1⟩ (by simp only; omega) ⟨rfl, rfl, rfl, rfl, rfl, trivial⟩ (.drop .refl)
    refine gzU ?_
    by_cases hsp : S h.2.serial
    case neg =>
      rw [getE_S, hES.no hsp]
      simp only [Option.getD_none]
      refine gzU ?_
      exact k_next (k + 1, v, cs) ⟨by simp only; omega, skip fun hh => hsp hh.2⟩ (by simp only; omega) ⟨rfl, rfl, rfl, rfl, rfl, trivial⟩ (.drop .refl)
    rw [getE_S, hES.yes hsp]
    simp only [Option.getD_some]
    rw [if_pos ⟨h3, hsp⟩] at hsn
    have hle := mapsT_le S (x.hs.take k)
    rw [List.length_take] at hle
    refine gzU ?_
    refine t_e (e_litA (k := 2) (ws := sltC h.1) rfl rfl rfl (by decide) (by decide)) rfl rfl rfl ?_
    rintro _ _ ⟨bl, _, rfl, rfl⟩
    refine t_e (e_appX (k := 2) (X := [_, _]) rfl rfl rfl ho rfl (by simp [Value.oneCell', sltC]) (by omega) (by decide)) rfl rfl rfl ?_
    rintro v' _ ⟨c2, ho2, rfl⟩
    have hv2 : v'.oneCell' = true := ho2.one
    refine gzU ?_
    refine k_next (k + 1, v', c2) ⟨by simp only; omega, ?_⟩ (by simp only; omega) ⟨rfl, rfl, rfl, rfl, rfl, trivial⟩ (.drop .refl)
    simp only [hsn, List.length_append, List.map_append, List.map_cons, List.map_nil, List.flatten_append, List.flatten_cons, List.flatten_nil, List.append_nil]
    exact ho2
  obtain rfl : k = x.hs.length := by omega
  rw [List.take_length] at ho
  have hv1 := ho.one
  refine gzU ?_
  refine k_ret [] rfl (l' := cs ++ l) (.drop .refl) (by exact zRes) ?_
  exact ⟨cs, ho, rfl⟩
end Go.Proofs.YtgafamgacpglcaaGreat


/- part.sideOf: what is asked of a group. -/
-- GU
set_option linter.unusedVariables false
set_option linter.unusedSimpArgs false
namespace Go.Proofs.YtgafamgacpglcaaGreat
open Go.RowKit
set_option maxRecDepth 20000
set_option pp.deepTerms false
set_option pp.deepTerms.threshold 4

theorem OwnSl.inRows2 {e k : Nat} {v : Value} {es : List (List Value)} {cs : List Chunk} (h : OwnSl e k v es.length es.flatten cs) (hk : ∀ r ∈ es, r.length = k) (l : List Chunk) : ∃ a cap, v = .slice a es.length cap ∧ InRows (cs ++ l) a es.length k es := by
  rcases h.2 with ⟨rfl, h0, rfl⟩ | ⟨b, cap, sp, rfl, rfl, h1, h2, h3⟩
  · exact ⟨none, 0, by rw [h0], fun h => by omega⟩
  · refine ⟨_, cap, rfl, fun h0 => ⟨b, 0, _, e, (0, 0), rfl, List.mem_append_left _ (.head _), fun i row hi => ?_⟩⟩
    have key : ∀ (es : List (List Value)) (i : Nat) (row : List Value), (∀ r ∈ es, r.length = k) → es[i]? = some row → ((es.flatten ++ sp).drop (i * k)).take k = row ∧ i * k + k ≤ (es.flatten ++ sp).length := by
      intro es
      induction es with
      | nil => intro i row _ h; simp at h
      | cons x r ih =>
        intro i row hk hi
        have hx := hk x (.head _)
        cases i with
        | zero =>
          simp only [List.getElem?_cons_zero, Option.some.injEq] at hi
          subst hi
          rw [List.flatten_cons, List.append_assoc, Nat.zero_mul, List.drop_zero, List.take_left' hx, List.length_append]
          exact ⟨rfl, by omega⟩
        | succ i =>
          obtain ⟨a1, a2⟩ := ih i row (fun q hq => hk q (.tail _ hq)) (by simpa using hi)
          rw [List.flatten_cons, List.append_assoc]
          refine ⟨?_, by rw [List.length_append, Nat.succ_mul]; omega⟩
          rw [show (i + 1) * k = x.length + i * k by rw [Nat.succ_mul, hx, Nat.add_comm], ← List.drop_drop, List.drop_left]
          exact a1
    obtain ⟨q1, q2⟩ := key es i row hk hi
    have hrl := hk row (List.mem_of_getElem? hi)
    simp only [Nat.zero_add]
    refine ⟨by simpa using q2, by rw [List.extract_toArray, List.extract_eq_take_drop, Nat.add_sub_cancel_left, q1], fun j v hj => ?_⟩
    have hj2 := (List.getElem?_eq_some_iff.1 hj).1
    rw [← q1, List.getElem?_take, if_pos (by omega), List.getElem?_drop] at hj
    rw [List.getElem?_toArray]
    exact hj
theorem OwnSl.rd {e k : Nat} {v : Value} {es : List (List Value)} {cs l : List Chunk} (h : OwnSl e k v es.length es.flatten cs) (hk : ∀ r ∈ es, r.length = k) (hl : ∀ c, c ∈ cs → c ∈ l) : RdS l v k es := by
  obtain ⟨a, cap, h1, h2⟩ := h.inRows2 hk []
  exact ⟨a, cap, h1, h2.mono fun c hc => by rw [List.append_nil] at hc; exact hl c hc⟩
theorem sltC_ok : EncOk sltC [some .i64, some .i64] := ⟨fun a => ⟨_, _, rfl, ⟨_, rfl⟩, _, _, rfl, ⟨_, rfl⟩, rfl⟩, fun a b h => by
  simp only [sltC, List.cons.injEq, Value.int.injEq, true_and, and_true] at h
  exact Prod.ext h.1 h.2⟩
/-- a set of slots, in block m -/
def StS (m : Nat) (S : Int × Int → Prop) (c : Chunk) : Prop := ∃ es clock, c = (m, mapS sltC es clock) ∧ SetE S es clock
abbrev sdV (m1 m2 m3 : Nat) : List Value := [.map (some m1), .map (some m2), .map (some m3)]
abbrev sdB (B m1 m2 m3 : Nat) : Chunk := (B, .cells (List.toArray (sdV m1 m2 m3)) 52 (0, 0))
abbrev sd0 (B : Nat) : Chunk := (B, .cells (List.toArray [.map none, .map none, .map none]) 52 (0, 0))
theorem slots_slt (x : VwT) (ths xs : List Int) (h : ∀ z, z ∈ xs ↔ Pt.Rch x.vd ths z) (s : Int × Int) : Pt.Slt x.vd ths s ↔ s ∈ slotsT xs x.hs := by
  unfold Pt.Slt slotsT
  simp only [List.mem_map, List.mem_filter, decide_eq_true_eq]
  constructor
  · rintro ⟨q, hq, hr, rfl⟩
    obtain ⟨q2, hq2, rfl⟩ := List.mem_map.1 hq
    exact ⟨q2, ⟨hq2, (h _).2 hr⟩, rfl⟩
  · rintro ⟨q, ⟨hq, hr⟩, rfl⟩
    exact ⟨_, List.mem_map.2 ⟨q, hq, rfl⟩, (h _).1 hr, rfl⟩
theorem maps_mps (x : VwT) (ths : List Int) (s : Int × Int) : Pt.Mps x.vd ths s ↔ s ∈ mapsT (Pt.Spc x.vd (Pt.Rch x.vd ths)) x.hs := by
  unfold Pt.Mps mapsT
  simp only [List.mem_map, List.mem_filter, decide_eq_true_eq]
  constructor
  · rintro ⟨q, hq, h1, h2, rfl⟩
    obtain ⟨q2, hq2, rfl⟩ := List.mem_map.1 hq
    exact ⟨q2, ⟨hq2, h1, h2⟩, rfl⟩
  · rintro ⟨q, ⟨hq, h1, h2⟩, rfl⟩
    exact ⟨_, List.mem_map.2 ⟨q, hq, rfl⟩, h1, h2, rfl⟩
set_option maxHeartbeats 4000000 in
theorem sideOf_any (x : VwT) (c : List Value) (vt : Value) (ths : List Int) (l : List Chunk) (hV : VwIn l x c) (hth : IntSl l vt ths) (hn : ths.length ≤ 100) :
    Fn Tryz.prog 16 [.agg (List.toArray c), vt] l fun v l' => ∃ m1 m2 m3 c1 c2 c3, v = .agg (List.toArray (sdV m1 m2 m3)) ∧ StI m1 (Pt.Lns x.vd ths) c1 ∧ StS m2 (Pt.Slt x.vd ths) c2 ∧ StS m3 (Pt.Mps x.vd ths) c3 ∧ l' = c1 :: c2 :: c3 :: l := by
  have hvt1 : vt.oneCell' = true := by obtain ⟨a, ca, rfl, _⟩ := hth; rfl
  obtain ⟨vo, vc, vt2, vh, hC⟩ := hV.cells
  have hlh := hV.lh
  refine fn_of_body Tryz.func16 rfl rfl fun E => ?_
  simp only [argF, Tryz.ntmps16]
  refine gzU ?_
  refine t_e (e_boxA rfl) rfl rfl rfl ?_
  rintro _ _ ⟨b2, _, rfl, rfl⟩
  refine gzU ?_
  refine t_e e_alloc rfl rfl rfl ?_; rintro _ _ ⟨b4, _, rfl, rfl⟩
  refine gzU ?_
  refine t_q (q_loadL rfl (.tail _ (.head _)) (As.LSub.of_all (n := 86) _ hC.len)) rfl rfl rfl ?_
  refine gzU ?_
  refine t_e (e_call0 rfl rfl (leans_any x c _ ths _ (hV.mono fun q hq => .tail _ (.tail _ hq)) (hth.mono fun q hq => .tail _ (.tail _ hq)) hn)) rfl rfl rfl ?_
  rintro _ _ ⟨m1, c1, rfl, hL, rfl⟩
  refine gzU ?_
  refine t_e e_makeMap rfl rfl rfl ?_
  rintro _ _ ⟨m2, _, rfl, rfl⟩
  refine t_e e_makeMap rfl rfl rfl ?_
  rintro _ _ ⟨m3, _, rfl, rfl⟩
  refine gzU ?_
  refine t_e e_alloc rfl rfl rfl ?_; rintro _ _ ⟨b5, _, rfl, rfl⟩
  refine gzU ?_
  refine c_draw [(0, true), (1, true), (2, true), (6, true), (3, false), (4, false), (5, true)] [[], [], [], [1, 2], [0, 1, 2, 3], [0, 1, 2, 3, 4], []] _ (by kernel_rfl) (by kernel_rfl) zAtt (fun _ h => h) ?_
  refine pzU ?_
  apply pl_q
  · exact q_loadL rfl (.tail _ (.tail _ (.tail _ (.tail _ (.tail _ (.head _)))))) (As.LSub.of_all (n := 86) _ hC.len)
  · rfl
  · rfl
  · rfl
  refine pzU ?_
  apply pl_q
  · exact q_loadL rfl (.tail _ (.tail _ (.tail _ (.tail _ (.tail _ (.head _)))))) (As.LSub.of_all (n := 86) _ hC.len)
  · rfl
  · rfl
  · rfl
  refine pzU ?_
  apply pl_e
  · exact e_call0 rfl rfl (Reach_any x c _ ths _ (hV.mono fun q hq => .tail _ (.tail _ (.tail _ (.tail _ (.tail _ (.tail _ hq)))))) (hth.mono fun q hq => .tail _ (.tail _ (.tail _ (.tail _ (.tail _ (.tail _ hq)))))) hn)
  · rfl
  · rfl
  · rfl
  · rintro _ _ ⟨_, _, _, _, _, rfl⟩ q hq; exact List.mem_append_right _ hq
  rintro vr _ ⟨xs, cr, hxs, hxl, hor, rfl⟩
  have hvr1 : vr.oneCell' = true := hor.one
  refine pzU ?_
  apply pl_e
  · exact e_call0 rfl rfl (Slots_any x c vr xs _ (hV.mono fun q hq => List.mem_append_right _ (.tail _ (.tail _ (.tail _ (.tail _ (.tail _ (.tail _ hq))))))) (hor.intsQ fun q hq => List.mem_append_left _ hq) (by omega))
  · rfl
  · rfl
  · rfl
  · rintro _ _ ⟨_, _, rfl⟩ q hq; exact List.mem_append_right _ (List.mem_append_right _ hq)
  rintro vs _ ⟨cs, hos, rfl⟩
  obtain ⟨sl, hsl⟩ : ∃ sl, sl = slotsT xs x.hs := ⟨_, rfl⟩
  rw [← hsl] at hos
  have hos' : OwnSl 113 2 vs (sl.map sltC).length (sl.map sltC).flatten cs := by rw [List.length_map]; exact hos
  have hsll : sl.length ≤ 100 := by rw [hsl]; exact Nat.le_trans (slotsT_le xs x.hs) hlh
  obtain ⟨aS, capS, rfl, hrS⟩ := hos'.rd (l := cs) (fun r hr => by obtain ⟨q, _, rfl⟩ := List.mem_map.1 hr; rfl) fun q hq => hq
  rw [List.length_map] at hrS ⊢
  refine pzU ?_
  refine gzU ?_
  refine k_loop (α := Nat × List (EntS (Int × Int)) × Nat) (fun y => [(1, vt), (2, pV b2), (4, pV b4), (5, pV b5), (20, .slice aS sl.length capS), (21, .int .i64 (sl.length : Nat)), (22, .int .i64 y.1)]) (fun y => sdB b5 m1 m2 m3 :: (m3, mapS sltC [] 0) :: (m2, mapS sltC y.2.1 y.2.2) :: c1 :: sd0 b4 :: vwB b2 c :: (cs ++ l)) (fun y => y.1 ≤ sl.length ∧ SetE (fun s => s ∈ sl.take y.1) y.2.1 y.2.2) (fun y => sl.length - y.1) (0, [], 0) ⟨Nat.zero_le _, SetE.zero.congr fun s => by simp⟩ ⟨rfl, rfl, rfl, rfl, rfl, rfl, rfl, trivial⟩ ((keep_app cs (Keep.dropL cr .refl)).trans (Keep.in_mid cs [_, _, _, _, _, _] l)) ?_
  rintro ⟨k, es, ck⟩ ⟨hk, hE⟩
  simp only at hk hE ⊢
  by_cases hlt : k < sl.length
  · obtain ⟨s, his⟩ : ∃ s, sl[k]? = some s := ⟨_, List.getElem?_eq_getElem hlt⟩
    obtain ⟨bB, off, rw_, t, fz, rfl, hmr, hrow⟩ := hrS (by omega)
    obtain ⟨x1, x2, _⟩ := hrow k (sltC s) (by rw [List.getElem?_map, his]; rfl)
    have htk : sl.take (k + 1) = sl.take k ++ [s] := by rw [List.take_add_one, his]; rfl
    refine gzU ?_
    refine t_q (q_loadA rfl (.tail _ (.tail _ (.tail _ (.tail _ (.tail _ (.tail _ (List.mem_append_left _ hmr))))))) x1 x2) rfl rfl rfl ?_
    refine gzU ?_
    refine t_e e_alloc rfl rfl rfl ?_; rintro _ _ ⟨b7, _, rfl, rfl⟩
    refine gzU ?_
    refine t_n (e_mapUpdateS (enc := sltC) (a := s) (es := es) (clock := ck) (ks := [some .i64, some .i64]) rfl rfl rfl sltC_ok (.there (.there (.there .here)))) rfl rfl ?_
    rintro _ _ ⟨rfl, rfl⟩
    refine gzU ?_
    exact k_next (k + 1, _, _) ⟨by simp only; omega, (hE.put s).congr fun z => by rw [htk]; simp⟩ (by simp only; omega) ⟨rfl, rfl, rfl, rfl, rfl, rfl, rfl, trivial⟩ (.drop .refl)
  obtain rfl : k = sl.length := by omega
  rw [List.take_length] at hE
  have hE2 := hE.congr (T := Pt.Slt x.vd ths) fun s => by rw [slots_slt x ths xs hxs, hsl]
  clear hE
  refine gzU ?_
  refine t_q (q_loadL rfl (.tail _ (.tail _ (.tail _ (.tail _ (.tail _ (.head _)))))) (As.LSub.of_all (n := 86) _ hC.len)) rfl rfl rfl ?_
  refine gzU ?_
  refine t_e (e_call0 rfl rfl (Maps_any x c vt ths _ (hV.mono fun q hq => .tail _ (.tail _ (.tail _ (.tail _ (.tail _ (.tail _ (List.mem_append_right _ hq))))))) (hth.mono fun q hq => .tail _ (.tail _ (.tail _ (.tail _ (.tail _ (.tail _ (List.mem_append_right _ hq))))))) hn)) rfl rfl rfl ?_
  rintro vm _ ⟨cm, hom, rfl⟩
  obtain ⟨ml, hml⟩ : ∃ ml, ml = mapsT (Pt.Spc x.vd (Pt.Rch x.vd ths)) x.hs := ⟨_, rfl⟩
  rw [← hml] at hom
  have hom' : OwnSl 113 2 vm (ml.map sltC).length (ml.map sltC).flatten cm := by rw [List.length_map]; exact hom
  have hmll : ml.length ≤ 100 := by rw [hml]; exact Nat.le_trans (mapsT_le _ x.hs) hlh
  obtain ⟨aM, capM, rfl, hrM⟩ := hom'.rd (l := cm) (fun r hr => by obtain ⟨q, _, rfl⟩ := List.mem_map.1 hr; rfl) fun q hq => hq
  rw [List.length_map] at hrM ⊢
  refine gzU ?_
  refine k_loop (α := Nat × List (EntS (Int × Int)) × Nat) (fun y => [(2, pV b2), (4, pV b4), (5, pV b5), (32, .slice aM ml.length capM), (33, .int .i64 (ml.length : Nat)), (34, .int .i64 y.1)]) (fun y => sdB b5 m1 m2 m3 :: (m3, mapS sltC y.2.1 y.2.2) :: (m2, mapS sltC es ck) :: c1 :: sd0 b4 :: vwB b2 c :: (cm ++ (cs ++ l))) (fun y => y.1 ≤ ml.length ∧ SetE (fun s => s ∈ ml.take y.1) y.2.1 y.2.2) (fun y => ml.length - y.1) (0, [], 0) ⟨Nat.zero_le _, SetE.zero.congr fun s => by simp⟩ ⟨rfl, rfl, rfl, rfl, rfl, rfl, trivial⟩ (Keep.in_mid cm [_, _, _, _, _, _] (cs ++ l)) ?_
  rintro ⟨k, e3, k3⟩ ⟨hk, hE⟩
  simp only at hk hE ⊢
  by_cases hlt : k < ml.length
  · obtain ⟨s, his⟩ : ∃ s, ml[k]? = some s := ⟨_, List.getElem?_eq_getElem hlt⟩
    obtain ⟨bB, off, rw_, t, fz, rfl, hmr, hrow⟩ := hrM (by omega)
    obtain ⟨x1, x2, _⟩ := hrow k (sltC s) (by rw [List.getElem?_map, his]; rfl)
    have htk : ml.take (k + 1) = ml.take k ++ [s] := by rw [List.take_add_one, his]; rfl
    refine gzU ?_
    refine t_q (q_loadA rfl (.tail _ (.tail _ (.tail _ (.tail _ (.tail _ (.tail _ (List.mem_append_left _ hmr))))))) x1 x2) rfl rfl rfl ?_
    refine gzU ?_
    refine t_e e_alloc rfl rfl rfl ?_; rintro _ _ ⟨b9, _, rfl, rfl⟩
    refine gzU ?_
    refine t_n (e_mapUpdateS (enc := sltC) (a := s) (es := e3) (clock := k3) (ks := [some .i64, some .i64]) rfl rfl rfl sltC_ok (.there (.there .here))) rfl rfl ?_
    rintro _ _ ⟨rfl, rfl⟩
    refine gzU ?_
    exact k_next (k + 1, _, _) ⟨by simp only; omega, (hE.put s).congr fun z => by rw [htk]; simp⟩ (by simp only; omega) ⟨rfl, rfl, rfl, rfl, rfl, rfl, trivial⟩ (.drop .refl)
  obtain rfl : k = ml.length := by omega
  rw [List.take_length] at hE
  have hE3 := hE.congr (T := Pt.Mps x.vd ths) fun s => by rw [maps_mps x ths, hml]
  clear hE
  refine gzU ?_
  exact k_ret2 [] ((b4, .cells (List.toArray (sdV m1 m2 m3)) 52 (0, 0)) :: c1 :: (m2, mapS sltC es ck) :: (m3, mapS sltC e3 k3) :: l) rfl (l' := c1 :: (m2, mapS sltC es ck) :: (m3, mapS sltC e3 k3) :: l) (.pick (.there (.there (.there (.there .here)))) (.pick (.there (.there (.there .here))) (.pick (.there (.there .here)) (.pick (.there .here) (.drop (.drop (Keep.dropL cm (Keep.dropL cs .refl)))))))) (by exact zRes) (.drop .refl) ⟨m1, m2, m3, c1, _, _, rfl, hL, ⟨es, ck, rfl, hE2⟩, ⟨e3, k3, rfl, hE3⟩, rfl⟩
end Go.Proofs.YtgafamgacpglcaaGreat


/- part: needs, disjoint. -/
-- GU
set_option linter.unusedVariables false
set_option linter.unusedSimpArgs false
namespace Go.Proofs.YtgafamgacpglcaaGreat
open Go.RowKit
set_option maxRecDepth 20000
set_option pp.deepTerms false
set_option pp.deepTerms.threshold 4

def NdL (x : VwT) (L : Int → Prop) (cp : CapT) : Prop := if cp.kind = 7 then L 0 else cp.kind ≠ 0 ∧ L cp.obj ∧ Pt.kn x.vd cp.obj 3 = false
set_option maxHeartbeats 2000000 in
theorem needs_any (x : VwT) (c : List Value) (m1 m2 m3 : Nat) (L : Int → Prop) (c1 : Chunk) (hL : StI m1 L c1) (cp : CapT) (l : List Chunk) (hV : VwIn l x c) (hm : c1 ∈ l) :
    Fn Tryz.prog 49 [.agg (List.toArray (sdV m1 m2 m3)), .agg (List.toArray c), .agg (List.toArray (encC cp))] l fun v l' => (∃ b, v = .bool b ∧ (b = true ↔ NdL x L cp)) ∧ l' = l := by
  obtain ⟨es, ck, rfl, hE⟩ := hL
  obtain ⟨vo, vc, vt2, vh, hC⟩ := hV.cells
  refine fn_of_body Tryz.func49 rfl rfl fun E => ?_
  simp only [argF, Tryz.ntmps49]
  refine gzU ?_
  refine t_e (e_boxA rfl) rfl rfl rfl ?_
  rintro _ _ ⟨b3, _, rfl, rfl⟩
  refine t_e (e_boxA rfl) rfl rfl rfl ?_
  rintro _ _ ⟨b4, _, rfl, rfl⟩
  refine t_e (e_boxA rfl) rfl rfl rfl ?_
  rintro _ _ ⟨b5, _, rfl, rfl⟩
  refine gzU ?_
  by_cases h7 : cp.kind = 7
  · refine gzU ?_
    by_cases hz : L 0
    · rw [getE_S, hE.yes hz]
      simp only [Option.getD_some]
      refine gzU ?_
      exact k_ret [] rfl (l' := l) (.drop (.drop (.drop .refl))) (by exact zRes) ⟨⟨true, rfl, by simp [NdL, h7, hz]⟩, rfl⟩
    · rw [getE_S, hE.no hz]
      simp only [Option.getD_none]
      refine gzU ?_
      exact k_ret [] rfl (l' := l) (.drop (.drop (.drop .refl))) (by exact zRes) ⟨⟨false, rfl, by simp [NdL, h7, hz]⟩, rfl⟩
  refine gzU ?_
  by_cases h0 : cp.kind = 0
  · refine gzU ?_
    exact k_ret [] rfl (l' := l) (.drop (.drop (.drop .refl))) (by exact zRes) ⟨⟨false, rfl, by simp [NdL, h0]⟩, rfl⟩
  refine gzU ?_
  by_cases hz : L cp.obj
  case neg =>
    rw [getE_S, hE.no hz]
    simp only [Option.getD_none]
    refine gzU ?_
    exact k_ret [] rfl (l' := l) (.drop (.drop (.drop .refl))) (by exact zRes) ⟨⟨false, rfl, by simp [NdL, h7, hz]⟩, rfl⟩
  rw [getE_S, hE.yes hz]
  simp only [Option.getD_some]
  refine gzU ?_
  refine t_h (q_loadL rfl (.tail _ (.head _)) (As.LSub.of_all (n := 86) _ hC.len)) rfl rfl rfl ?_
  refine gzU ?_
  refine t_h (q_call rfl rfl (fun l2 hl => known_any x c cp.obj 3 l2 (hV.mono fun q hq => hl _ (.tail _ (.tail _ (.tail _ hq)))))) rfl rfl rfl ?_
  cases hk : Pt.kn x.vd cp.obj 3 with
  | false =>
    refine gzU ?_
    exact k_ret [] rfl (l' := l) (.drop (.drop (.drop .refl))) (by exact zRes) ⟨⟨true, rfl, by simp [NdL, h7, hz, h0, hk]⟩, rfl⟩
  | true =>
    refine gzU ?_
    exact k_ret [] rfl (l' := l) (.drop (.drop (.drop .refl))) (by exact zRes) ⟨⟨false, rfl, by simp [NdL, h7, hz, h0, hk]⟩, rfl⟩
def DisjL (x : VwT) (L1 L2 : Int → Prop) : Prop := ∀ z, L1 z → L2 z → Pt.kn x.vd z 3 = true
set_option maxHeartbeats 2000000 in
theorem disjoint_any (x : VwT) (c : List Value) (m1 m2 m3 n1 n2 n3 : Nat) (L1 L2 : Int → Prop) (c1 d1 : Chunk) (hL1 : StI m1 L1 c1) (hL2 : StI n1 L2 d1) (l : List Chunk) (hV : VwIn l x c) (hm : c1 ∈ l) (hn : d1 ∈ l) :
    Fn Tryz.prog 17 [.agg (List.toArray c), .agg (List.toArray (sdV m1 m2 m3)), .agg (List.toArray (sdV n1 n2 n3))] l fun v l' => (∃ b, v = .bool b ∧ (b = true ↔ DisjL x L1 L2)) ∧ l' = l := by
  obtain ⟨es, ck, rfl, hE⟩ := hL1
  obtain ⟨fs, fk, rfl, hF⟩ := hL2
  obtain ⟨vo, vc, vt2, vh, hC⟩ := hV.cells
  refine fn_of_body Tryz.func17 rfl rfl fun E => ?_
  simp only [argF, Tryz.ntmps17]
  refine gzU ?_
  refine t_e (e_boxA rfl) rfl rfl rfl ?_
  rintro _ _ ⟨b3, _, rfl, rfl⟩
  refine t_e (e_boxA rfl) rfl rfl rfl ?_
  rintro _ _ ⟨b4, _, rfl, rfl⟩
  refine t_e (e_boxA rfl) rfl rfl rfl ?_
  rintro _ _ ⟨b5, _, rfl, rfl⟩
  refine gzU ?_
  refine t_e (e_range (es := es) (clock := ck) rfl (.tail _ (.tail _ (.tail _ hm)))) rfl rfl rfl ?_
  rintro _ _ ⟨b0, hb0, rfl, rfl⟩
  refine gzU ?_
  refine k_loop (α := Array Nat × List Ent) (fun y => [(3, pV b3), (4, pV b4), (5, pV b5), (10, pV b0)]) (fun y => (b0, .mapIter (some m1) ck y.1 ck) :: sdB b5 n1 n2 n3 :: sdB b4 m1 m2 m3 :: vwB b3 c :: l) (fun y => Th.Came es y.2 y.1 ∧ ∀ z, z ∈ y.2.map (·.1) → L2 z → Pt.kn x.vd z 3 = true) (fun y => es.length - y.2.length) (#[], []) ⟨⟨rfl, by simp, by simp⟩, by simp⟩ ⟨rfl, rfl, rfl, rfl, trivial⟩ .refl ?_
  rintro ⟨seen, vis⟩ ⟨hCm, hno⟩
  simp only at hCm hno ⊢
  refine gzU ?_
  refine t_e (e_next (es := es) (clock := ck) rfl (.tail _ (.tail _ (.tail _ hm))) (fun e he => hE.ok.below e he) (Nat.le_refl _)) rfl rfl rfl ?_
  rintro _ _ (⟨rfl, rfl, hall⟩ | ⟨e, he, hns, rfl, rfl⟩)
  · have hp := hCm.all hE.ok.stamps hall
    refine gzU ?_
    refine k_ret [] rfl (l' := l) (.drop (.drop (.drop (.drop .refl)))) (by exact zRes) ⟨⟨true, rfl, ?_⟩, rfl⟩
    exact ⟨fun _ z h1 h2 => hno z (hp.mem_iff.2 ((hE.mem z).2 h1)) h2, fun _ => rfl⟩
  · have hC2 := hCm.push he hns
    have hl2 := hC2.len hE.ok.stamps
    have he1 : L1 e.1 := (hE.mem e.1).1 (List.mem_map.2 ⟨e, he, rfl⟩)
    refine gzU ?_
    refine t_q (q_entry rfl (.head _) (.tail _ (.tail _ (.tail _ (.tail _ hm)))) he hE.ok.stamps) rfl rfl rfl ?_
    refine gzU ?_
    by_cases h2 : L2 e.1
    case neg =>
      rw [getE_S, hF.no h2]
      simp only [Option.getD_none]
      refine gzU ?_
      exact k_next (seen.push e.2.2, vis ++ [e]) ⟨hC2, fun z hz => by
        rw [List.map_append, List.mem_append] at hz
        rcases hz with hz | hz
        · exact hno z hz
        · simp at hz; subst hz; exact fun h => absurd h h2⟩ (by simp at hl2 ⊢; omega) ⟨rfl, rfl, rfl, rfl, trivial⟩ .refl
    rw [getE_S, hF.yes h2]
    simp only [Option.getD_some]
    refine gzU ?_
    refine t_h (q_loadL rfl (.tail _ (.tail _ (.tail _ (.head _)))) (As.LSub.of_all (n := 86) _ hC.len)) rfl rfl rfl ?_
    refine gzU ?_
    refine t_h (q_call rfl rfl (fun l2 hl => known_any x c e.1 3 l2 (hV.mono fun q hq => hl _ (.tail _ (.tail _ (.tail _ (.tail _ hq))))))) rfl rfl rfl ?_
    cases hk : Pt.kn x.vd e.1 3 with
    | false =>
      refine gzU ?_
      refine k_ret [] rfl (l' := l) (.drop (.drop (.drop (.drop .refl)))) (by exact zRes) ⟨⟨false, rfl, ?_⟩, rfl⟩
      exact ⟨fun h => (nomatch h), fun h => by rw [h e.1 he1 h2] at hk; cases hk⟩
    | true =>
      refine gzU ?_
      exact k_next (seen.push e.2.2, vis ++ [e]) ⟨hC2, fun z hz => by
        rw [List.map_append, List.mem_append] at hz
        rcases hz with hz | hz
        · exact hno z hz
        · simp at hz; subst hz; exact fun _ => hk⟩ (by simp at hl2 ⊢; omega) ⟨rfl, rfl, rfl, rfl, trivial⟩ .refl
end Go.Proofs.YtgafamgacpglcaaGreat


/- part.under: the slots below a group's slots. -/
-- GU
set_option linter.unusedVariables false
set_option linter.unusedSimpArgs false
namespace Go.Proofs.YtgafamgacpglcaaGreat
open Go.RowKit
set_option maxRecDepth 20000
set_option pp.deepTerms false
set_option pp.deepTerms.threshold 4

def UndAt (tr : List ((Int × Int) × Int)) (S : Int × Int → Prop) (i : Nat) (s : Int × Int) : Prop := ∃ (j : Nat) (n : (Int × Int) × Int), tr[i]? = some n ∧ S n.1 ∧ i < j ∧ (∃ m : (Int × Int) × Int, tr[j]? = some m ∧ m.1 = s) ∧ ∀ (k : Nat) (m : (Int × Int) × Int), i < k → k ≤ j → tr[k]? = some m → n.2 < m.2
def UndTo (tr : List ((Int × Int) × Int)) (S : Int × Int → Prop) (k : Nat) (s : Int × Int) : Prop := ∃ i, i < k ∧ UndAt tr S i s
def UndIn (tr : List ((Int × Int) × Int)) (i j : Nat) (s : Int × Int) : Prop := ∃ q m, i < q ∧ q < i + 1 + j ∧ tr[q]? = some m ∧ m.1 = s
theorem UndTo.skip {tr : List ((Int × Int) × Int)} {S : Int × Int → Prop} {k : Nat} {n : (Int × Int) × Int} (hn : tr[k]? = some n) (h : ¬ S n.1) (s : Int × Int) : UndTo tr S (k + 1) s ↔ UndTo tr S k s :=
  ⟨fun ⟨i, h1, h2⟩ => ⟨i, by
    by_cases e : i = k
    · subst e
      obtain ⟨_, n', e1, e2, _⟩ := h2
      rw [hn] at e1; cases e1; exact absurd e2 h
    · omega, h2⟩, fun ⟨i, h1, h2⟩ => ⟨i, by omega, h2⟩⟩
theorem UndTo.done {tr : List ((Int × Int) × Int)} {S : Int × Int → Prop} {i j : Nat} {n : (Int × Int) × Int} (hn : tr[i]? = some n) (hS : S n.1) (hd : ∀ (k : Nat) (m : (Int × Int) × Int), i < k → k < i + 1 + j → tr[k]? = some m → n.2 < m.2) (he : ∀ m, tr[i + 1 + j]? = some m → ¬ n.2 < m.2) (s : Int × Int) : UndTo tr S (i + 1) s ↔ UndTo tr S i s ∨ UndIn tr i j s := by
  constructor
  · rintro ⟨i', h1, h2⟩
    by_cases e : i' = i
    · subst e
      obtain ⟨q, n', e1, _, e3, ⟨m, e4, e5⟩, e6⟩ := h2
      rw [hn] at e1; cases e1
      refine .inr ⟨q, m, e3, ?_, e4, e5⟩
      by_cases hq : q < i' + 1 + j
      · exact hq
      · have hl : i' + 1 + j < tr.length := by have := (List.getElem?_eq_some_iff.1 e4).1; omega
        exact absurd (e6 (i' + 1 + j) _ (by omega) (by omega) (List.getElem?_eq_getElem hl)) (he _ (List.getElem?_eq_getElem hl))
    · exact .inl ⟨i', by omega, h2⟩
  · rintro (⟨i', h1, h2⟩ | ⟨q, m, h1, h2, h3, h4⟩)
    · exact ⟨i', by omega, h2⟩
    · exact ⟨i, by omega, q, n, hn, hS, h1, ⟨m, h3, h4⟩, fun k m' k1 k2 k3 => hd k m' k1 (by omega) k3⟩
theorem UndIn.succ {tr : List ((Int × Int) × Int)} {i j : Nat} {m : (Int × Int) × Int} (hm : tr[i + 1 + j]? = some m) (s : Int × Int) : UndIn tr i (j + 1) s ↔ UndIn tr i j s ∨ s = m.1 := by
  constructor
  · rintro ⟨q, m', h1, h2, h3, h4⟩
    by_cases e : q = i + 1 + j
    · subst e; rw [hm] at h3; cases h3; exact .inr h4.symm
    · exact .inl ⟨q, m', h1, by omega, h3, h4⟩
  · rintro (⟨q, m', h1, h2, h3, h4⟩ | rfl)
    · exact ⟨q, m', h1, by omega, h3, h4⟩
    · exact ⟨_, m, by omega, by omega, hm, rfl⟩
set_option maxHeartbeats 4000000 in
theorem under_any (x : VwT) (c : List Value) (m1 m2 m3 : Nat) (S : Int × Int → Prop) (c2 : Chunk) (hS : StS m2 S c2) (l : List Chunk) (hV : VwIn l x c) (hm : c2 ∈ l) :
    Fn Tryz.prog 48 [.agg (List.toArray c), .agg (List.toArray (sdV m1 m2 m3))] l fun v l' => ∃ m ch, v = .map (some m) ∧ StS m (UndTo x.tr S x.tr.length) ch ∧ l' = ch :: l := by
  obtain ⟨es, ck, rfl, hE⟩ := hS
  obtain ⟨vo, vc, vt, vh, hC⟩ := hV.cells
  have hlt' := hV.lt
  obtain ⟨a, cap, hvt, hr⟩ := hC.t
  have hcp := hV.cp a x.tr.length cap (by rw [hC.c2, hvt, List.length_map])
  rw [List.length_map] at hvt hr
  subst hvt
  refine fn_of_body Tryz.func48 rfl rfl fun E => ?_
  simp only [argF, Tryz.ntmps48]
  refine gzU ?_
  refine t_e (e_boxA rfl) rfl rfl rfl ?_
  rintro _ _ ⟨b2, _, rfl, rfl⟩
  refine t_e (e_boxA rfl) rfl rfl rfl ?_
  rintro _ _ ⟨b3, _, rfl, rfl⟩
  refine gzU ?_
  refine t_e e_makeMap rfl rfl rfl ?_
  rintro _ _ ⟨m, _, rfl, rfl⟩
  refine gzU ?_
  refine t_q (q_load rfl (.tail _ (.tail _ (.head _))) hC.c2) rfl rfl rfl ?_
  refine gzU ?_
  refine k_loop (α := Nat × List (EntS (Int × Int)) × Nat) (fun y => [(2, pV b2), (3, pV b3), (5, .map (some m)), (12, .slice a x.tr.length cap), (13, .int .i64 (x.tr.length : Nat)), (14, .int .i64 y.1)]) (fun y => (m, mapS sltC y.2.1 y.2.2) :: sdB b3 m1 m2 m3 :: vwB b2 c :: l) (fun y => y.1 ≤ x.tr.length ∧ SetE (UndTo x.tr S y.1) y.2.1 y.2.2) (fun y => x.tr.length - y.1) (0, [], 0) ⟨Nat.zero_le _, SetE.zero.congr fun s => by simp [UndTo]⟩ ⟨rfl, rfl, rfl, rfl, rfl, rfl, trivial⟩ .refl ?_
  rintro ⟨i, e1, k1⟩ ⟨hi, h1⟩
  simp only at hi h1 ⊢
  by_cases hlt : i < x.tr.length
  · obtain ⟨n, hin⟩ : ∃ n, x.tr[i]? = some n := ⟨_, List.getElem?_eq_getElem hlt⟩
    obtain ⟨bB, off, rw_, t, fz, rfl, hmr, hrow⟩ := hr (by omega)
    obtain ⟨x1, x2, _⟩ := hrow i (Tr.nV n) (by rw [List.getElem?_map, hin]; rfl)
    refine gzU ?_
    refine t_q (q_loadA rfl (.tail _ (.tail _ (.tail _ hmr))) x1 x2) rfl rfl rfl ?_
    refine gzU ?_
    refine t_e e_alloc rfl rfl rfl ?_; rintro _ _ ⟨b7, _, rfl, rfl⟩
    refine gzU ?_
    refine t_q (q_lookupS (enc := sltC) (a := n.1) (es := es) (clock := ck) rfl rfl sltC_ok (.tail _ (.tail _ (.tail _ (.tail _ hm))))) rfl rfl rfl ?_
    by_cases hn : S n.1
    case neg =>
      rw [hE.no hn]
      simp only [Option.getD_none]
      refine gzU ?_
      exact k_next (i + 1, e1, k1) ⟨by simp only; omega, h1.congr (UndTo.skip hin hn)⟩ (by simp only; omega) ⟨rfl, rfl, rfl, rfl, rfl, rfl, trivial⟩ (.drop .refl)
    rw [hE.yes hn]
    simp only [Option.getD_some]
    refine gzU ?_
    refine t_q (q_load rfl (.tail _ (.tail _ (.tail _ (.head _)))) hC.c2) rfl rfl rfl ?_
    refine gzU ?_
    refine t_q (q_slice (l0 := i + 1) (h0 := x.tr.length) (m0 := cap) (off' := if cap = i + 1 then off else off + (i + 1) * 3) (n' := x.tr.length - (i + 1)) (c' := cap - (i + 1)) rfl (.some rfl (by omega) rfl) .none .none (by simp) (by omega) (by omega) (by omega) rfl (by omega) rfl) rfl rfl rfl ?_
    refine gzU ?_
    generalize hO : (if cap = i + 1 then off else off + (i + 1) * 3) = O
    generalize hN : x.tr.length - (i + 1) = N
    generalize hCc : cap - (i + 1) = C
    refine k_loop (α := Nat × List (EntS (Int × Int)) × Nat) (fun y => [(2, pV b2), (3, pV b3), (5, .map (some m)), (7, pV b7), (12, .slice (some ⟨bB, off, none⟩) x.tr.length cap), (13, .int .i64 (x.tr.length : Nat)), (14, .int .i64 i), (29, .slice (some ⟨bB, O, none⟩) N C), (30, .int .i64 (N : Nat)), (31, .int .i64 y.1)]) (fun y => (b7, .cells (List.toArray (Tr.nV n)) 192 (0, 0)) :: (m, mapS sltC y.2.1 y.2.2) :: sdB b3 m1 m2 m3 :: vwB b2 c :: l) (fun y => y.1 ≤ N ∧ SetE (fun s => UndTo x.tr S i s ∨ UndIn x.tr i y.1 s) y.2.1 y.2.2 ∧ ∀ (k : Nat) (m : (Int × Int) × Int), i < k → k < i + 1 + y.1 → x.tr[k]? = some m → n.2 < m.2) (fun y => N - y.1) (0, e1, k1) ⟨Nat.zero_le _, h1.congr fun s => ⟨fun h => h.elim (fun h => h) fun ⟨q, _, q1, q2, _⟩ => by simp only at q2; omega, .inl⟩, fun k _ h1 h2 => by simp only at h2; omega⟩ ⟨rfl, rfl, rfl, rfl, rfl, rfl, rfl, rfl, rfl, rfl, trivial⟩ .refl ?_
    clear h1
    rintro ⟨j, e1, k1⟩ ⟨hj, h1, hd⟩
    simp only at hj h1 hd ⊢
    by_cases hlj : j < N
    · obtain ⟨w, hw⟩ : ∃ w, x.tr[i + 1 + j]? = some w := ⟨_, List.getElem?_eq_getElem (by omega)⟩
      obtain ⟨y1, y2, _⟩ := hrow (i + 1 + j) (Tr.nV w) (by rw [List.getElem?_map, hw]; rfl)
      have hOj : O + j * 3 = off + (i + 1 + j) * 3 := by rw [← hO, if_neg (by omega)]; omega
      have z1 : O + j * 3 + 3 ≤ rw_.size := by rw [hOj]; exact y1
      have z2 : rw_.extract (O + j * 3) (O + j * 3 + 3) = List.toArray (Tr.nV w) := by rw [hOj]; exact y2
      refine gzU ?_
      refine t_q (q_loadA rfl (.tail _ (.tail _ (.tail _ (.tail _ hmr)))) z1 z2) rfl rfl rfl ?_
      refine gzU ?_
      refine t_e e_alloc rfl rfl rfl ?_; rintro _ _ ⟨b9, _, rfl, rfl⟩
      refine gzU ?_
      by_cases hle : w.2 ≤ n.2
      · refine gzU ?_
        exact k_next (i + 1, e1, k1) ⟨by simp only; omega, h1.congr (UndTo.done hin hn hd fun m hm => by rw [hw] at hm; cases hm; omega)⟩ (by simp only; omega) ⟨rfl, rfl, rfl, rfl, rfl, rfl, trivial⟩ (.drop (.drop .refl))
      refine gzU ?_
      refine t_n (e_mapUpdateS (enc := sltC) (a := w.1) (es := e1) (clock := k1) (ks := [some .i64, some .i64]) rfl rfl rfl sltC_ok (.there (.there .here))) rfl rfl ?_
      rintro _ _ ⟨rfl, rfl⟩
      refine gzU ?_
      exact k_next (j + 1, _, _) ⟨by simp only; omega, (h1.put w.1).congr fun s => by rw [UndIn.succ hw, or_assoc], fun k m q1 q2 q3 => by
        by_cases e : k = i + 1 + j
        · subst e; rw [hw] at q3; cases q3; omega
        · exact hd k m q1 (by simp only at q2; omega) q3⟩ (by simp only; omega) ⟨rfl, rfl, rfl, rfl, rfl, rfl, rfl, rfl, rfl, rfl, trivial⟩ (.drop .refl)
    obtain rfl : j = N := by omega
    refine gzU ?_
    exact k_next (i + 1, e1, k1) ⟨by simp only; omega, h1.congr (UndTo.done hin hn hd fun m hm => by have := (List.getElem?_eq_some_iff.1 hm).1; omega)⟩ (by simp only; omega) ⟨rfl, rfl, rfl, rfl, rfl, rfl, trivial⟩ (.drop .refl)
  obtain rfl : i = x.tr.length := by omega
  refine gzU ?_
  exact k_ret [] rfl (l' := (m, mapS sltC e1 k1) :: l) (.pick .here (.drop (.drop .refl))) (by exact zRes) ⟨m, _, rfl, ⟨_, _, rfl, h1⟩, rfl⟩
end Go.Proofs.YtgafamgacpglcaaGreat


/- part.above. -/
-- GU
set_option linter.unusedVariables false
set_option linter.unusedSimpArgs false
namespace Go.Proofs.YtgafamgacpglcaaGreat
open Go.RowKit
set_option maxRecDepth 20000
set_option pp.deepTerms false
set_option pp.deepTerms.threshold 4

theorem SetE.num {κ : Type} [DecidableEq κ] {S : κ → Prop} {es : List (EntS κ)} {clock : Nat} (h : SetE S es clock) (a : κ) : ∃ w : Int, (getS a es).getD (.int .i64 0) = .int .i64 w ∧ (0 < w ↔ S a) := by
  by_cases ha : S a
  · exact ⟨1, by rw [h.yes ha]; rfl, by simp [ha]⟩
  · exact ⟨0, by rw [h.no ha]; rfl, by simp [ha]⟩
open Classical in
noncomputable def needB (x : VwT) (L : Int → Prop) (cp : CapT) : Bool := decide (NdL x L cp)
theorem needB_eq (x : VwT) (L : Int → Prop) (cp : CapT) {b : Bool} (h : b = true ↔ NdL x L cp) : b = needB x L cp := by
  unfold needB
  rw [Bool.eq_iff_iff, h]; simp
theorem needB_iff (x : VwT) (L : Int → Prop) (cp : CapT) : needB x L cp = true ↔ NdL x L cp := by unfold needB; simp
theorem needs_q (x : VwT) (c : List Value) (m1 m2 m3 : Nat) (L : Int → Prop) (c1 : Chunk) (hL : StI m1 L c1) (cp : CapT) (l : List Chunk) (hV : VwIn l x c) (hm : c1 ∈ l) :
    Fn Tryz.prog 49 [.agg (List.toArray (sdV m1 m2 m3)), .agg (List.toArray c), .agg (List.toArray (encC cp))] l fun v l' => v = .bool (needB x L cp) ∧ l' = l :=
  (needs_any x c m1 m2 m3 L c1 hL cp l hV hm).mono fun v l' ⟨⟨b, h1, h2⟩, h3⟩ => ⟨by rw [h1, needB_eq x L cp h2], h3⟩
def AbvH (x : VwT) (Sx Lw My Sy : Int × Int → Prop) (Ly : Int → Prop) (h : HdT) : Prop := (Sx h.1 ∧ (My h.1 ∨ NdL x Ly h.2)) ∨ (Lw h.1 ∧ (My h.1 ∨ NdL x Ly h.2 ∨ Sy h.1))
set_option maxHeartbeats 4000000 in
theorem above_any (x : VwT) (c : List Value) (m1 m2 m3 n1 n2 n3 : Nat) (Sx My Sy : Int × Int → Prop) (Ly : Int → Prop) (cx2 cy1 cy2 cy3 : Chunk) (hX : StS m2 Sx cx2) (hL : StI n1 Ly cy1) (hY : StS n2 Sy cy2) (hM : StS n3 My cy3) (l : List Chunk) (hV : VwIn l x c) (j1 : cx2 ∈ l) (j2 : cy1 ∈ l) (j3 : cy2 ∈ l) (j4 : cy3 ∈ l) :
    Fn Tryz.prog 19 [.agg (List.toArray c), .agg (List.toArray (sdV m1 m2 m3)), .agg (List.toArray (sdV n1 n2 n3))] l fun v l' => (∃ b, v = .bool b ∧ (b = true ↔ ∃ h, h ∈ x.hs ∧ AbvH x Sx (UndTo x.tr Sx x.tr.length) My Sy Ly h)) ∧ l' = l := by
  obtain ⟨vo, vc, vt, vh, hC⟩ := hV.cells
  have hlh := hV.lh
  obtain ⟨a, cap, hvc, hr⟩ := hC.h
  rw [List.length_map] at hvc hr
  subst hvc
  refine fn_of_body Tryz.func19 rfl rfl fun E => ?_
  simp only [argF, Tryz.ntmps19]
  refine gzU ?_
  refine t_e (e_boxA rfl) rfl rfl rfl ?_
  rintro _ _ ⟨b3, _, rfl, rfl⟩
  refine t_e (e_boxA rfl) rfl rfl rfl ?_
  rintro _ _ ⟨b4, _, rfl, rfl⟩
  refine t_e (e_boxA rfl) rfl rfl rfl ?_
  rintro _ _ ⟨b5, _, rfl, rfl⟩
  refine gzU ?_
  refine t_q (q_loadL rfl (.tail _ (.tail _ (.head _))) (As.LSub.of_all (n := 86) _ hC.len)) rfl rfl rfl ?_
  refine gzU ?_
  refine t_e (e_call0 rfl rfl (under_any x c m1 m2 m3 Sx cx2 hX _ (hV.mono fun q hq => .tail _ (.tail _ (.tail _ hq))) (.tail _ (.tail _ (.tail _ j1))))) rfl rfl rfl ?_
  rintro _ _ ⟨mu, cu, rfl, hU, rfl⟩
  obtain ⟨Lw, hLw⟩ : ∃ Lw, Lw = UndTo x.tr Sx x.tr.length := ⟨_, rfl⟩
  rw [← hLw] at hU ⊢
  obtain ⟨eu, ku, rfl, hEU⟩ := hU
  have hX' := hX
  have hM' := hM
  have hY' := hY
  obtain ⟨ex, kx, rfl, hEX⟩ := hX'
  obtain ⟨em, km, rfl, hEM⟩ := hM'
  obtain ⟨ey, ky, rfl, hEY⟩ := hY'
  refine gzU ?_
  refine t_q (q_load rfl (.tail _ (.tail _ (.tail _ (.head _)))) hC.c1) rfl rfl rfl ?_
  refine gzU ?_
  refine k_loop (α := Nat) (fun y => [(3, pV b3), (4, pV b4), (5, pV b5), (7, .map (some mu)), (16, .slice a x.hs.length cap), (17, .int .i64 (x.hs.length : Nat)), (18, .int .i64 y)]) (fun y => (mu, mapS sltC eu ku) :: sdB b5 n1 n2 n3 :: sdB b4 m1 m2 m3 :: vwB b3 c :: l) (fun y => y ≤ x.hs.length ∧ ∀ h, h ∈ x.hs.take y → ¬ AbvH x Sx Lw My Sy Ly h) (fun y => x.hs.length - y) 0 ⟨Nat.zero_le _, by simp⟩ ⟨rfl, rfl, rfl, rfl, rfl, rfl, rfl, trivial⟩ .refl ?_
  rintro k ⟨hk, hno⟩
  by_cases hlt : k < x.hs.length
  · obtain ⟨h, hih⟩ : ∃ h, x.hs[k]? = some h := ⟨_, List.getElem?_eq_getElem hlt⟩
    obtain ⟨bB, off, rw_, t, fz, rfl, hmr, hrow⟩ := hr (by omega)
    obtain ⟨x1, x2, _⟩ := hrow k (encE h) (by rw [List.getElem?_map, hih]; rfl)
    have next : ¬ AbvH x Sx Lw My Sy Ly h → ∀ h, h ∈ x.hs.take (k + 1) → ¬ AbvH x Sx Lw My Sy Ly h := fun hn q hq => by
      rw [List.take_add_one, hih, List.mem_append] at hq
      rcases hq with hq | hq
      · exact hno q hq
      · simp at hq; rw [hq]; exact hn
    have hit : AbvH x Sx Lw My Sy Ly h → ∃ h, h ∈ x.hs ∧ AbvH x Sx Lw My Sy Ly h := fun hh => ⟨h, List.mem_of_getElem? hih, hh⟩
    obtain ⟨wX, hwX, iX⟩ := hEX.num h.1
    obtain ⟨wM, hwM, iM⟩ := hEM.num h.1
    obtain ⟨wY, hwY, iY⟩ := hEY.num h.1
    obtain ⟨wU, hwU, iU⟩ := hEU.num h.1
    refine gzU ?_
    refine t_q (q_loadA rfl (.tail _ (.tail _ (.tail _ (.tail _ hmr)))) x1 x2) rfl rfl rfl ?_
    refine gzU ?_
    refine t_e e_alloc rfl rfl rfl ?_; rintro _ _ ⟨b9, _, rfl, rfl⟩
    refine gzU ?_
    refine c_draw [(0, true), (1, true), (2, true), (3, true), (4, true), (5, true), (6, true), (7, true), (8, true), (9, true), (10, true), (11, true), (12, true)] [[], [0], [], [2], [0, 1, 2, 3], [0, 1, 2, 3, 4], [], [], [], [8], [6, 7, 8, 9], [0, 1, 2, 3, 4, 5, 6, 7, 8, 9, 10], [0, 1, 2, 3, 4, 5, 6, 7, 8, 9, 10, 11]] _ (by kernel_rfl) (by kernel_rfl) zAtt (fun _ h => h) ?_
    refine pzU ?_
    apply pl_q
    · exact q_lookupS (enc := sltC) (a := h.1) (es := em) (clock := km) rfl rfl sltC_ok (.tail _ (.tail _ (.tail _ (.tail _ (.tail _ j4)))))
    · rfl
    · rfl
    · rfl
    rw [hwM]
    refine pzU ?_
    apply pl_q
    · exact q_loadL rfl (.tail _ (.tail _ (.tail _ (.tail _ (.head _))))) (As.LSub.of_all (n := 86) _ hC.len)
    · rfl
    · rfl
    · rfl
    refine pzU ?_
    apply pl_q
    · exact q_call rfl rfl (fun l2 hl => needs_q x c n1 n2 n3 Ly cy1 hL h.2 l2 (hV.mono fun q hq => hl _ (.tail _ (.tail _ (.tail _ (.tail _ (.tail _ hq)))))) (hl _ (.tail _ (.tail _ (.tail _ (.tail _ (.tail _ j2)))))))
    · rfl
    · rfl
    · rfl
    refine pzU ?_
    refine gzU ?_
    have hND := needB_iff x Ly h.2
    refine t_q (q_lookupS (enc := sltC) (a := h.1) (es := ex) (clock := kx) rfl rfl sltC_ok (.tail _ (.tail _ (.tail _ (.tail _ (.tail _ j1)))))) rfl rfl rfl ?_
    rw [hwX]
    by_cases pX : 0 < wX
    · by_cases pM : 0 < wM
      · refine gzU ?_
        refine k_ret [] rfl (l' := l) (.drop (.drop (.drop (.drop (.drop .refl))))) (by exact zRes) ⟨⟨true, rfl, fun _ => hit (.inl ⟨iX.1 pX, .inl (iM.1 pM)⟩), fun _ => rfl⟩, rfl⟩
      cases hN : needB x Ly h.2 with
      | true =>
        refine gzU ?_
        refine k_ret [] rfl (l' := l) (.drop (.drop (.drop (.drop (.drop .refl))))) (by exact zRes) ⟨⟨true, rfl, fun _ => hit (.inl ⟨iX.1 pX, .inr (hND.1 hN)⟩), fun _ => rfl⟩, rfl⟩
      | false =>
        have nN : ¬ NdL x Ly h.2 := fun hh => by rw [hND.2 hh] at hN; cases hN
        refine gzU ?_
        refine t_h (q_lookupS (enc := sltC) (a := h.1) (es := eu) (clock := ku) rfl rfl sltC_ok (.tail _ (.head _))) rfl rfl rfl ?_
        rw [hwU]
        by_cases pU : 0 < wU
        · refine gzU ?_
          refine t_h (q_lookupS (enc := sltC) (a := h.1) (es := ey) (clock := ky) rfl rfl sltC_ok (.tail _ (.tail _ (.tail _ (.tail _ (.tail _ j3)))))) rfl rfl rfl ?_
          rw [hwY]
          by_cases pY : 0 < wY
          · refine gzU ?_
            refine k_ret [] rfl (l' := l) (.drop (.drop (.drop (.drop (.drop .refl))))) (by exact zRes) ⟨⟨true, rfl, fun _ => hit (.inr ⟨iU.1 pU, .inr (.inr (iY.1 pY))⟩), fun _ => rfl⟩, rfl⟩
          · refine gzU ?_
            exact k_next (k + 1) ⟨by omega, next fun hh => hh.elim (fun hh => hh.2.elim (fun z => pM (iM.2 z)) nN) fun hh => hh.2.elim (fun z => pM (iM.2 z)) fun z => z.elim nN fun z => pY (iY.2 z)⟩ (by omega) ⟨rfl, rfl, rfl, rfl, rfl, rfl, rfl, trivial⟩ (.drop .refl)
        · refine gzU ?_
          exact k_next (k + 1) ⟨by omega, next fun hh => hh.elim (fun hh => hh.2.elim (fun z => pM (iM.2 z)) nN) fun hh => pU (iU.2 hh.1)⟩ (by omega) ⟨rfl, rfl, rfl, rfl, rfl, rfl, rfl, trivial⟩ (.drop .refl)
    refine gzU ?_
    refine t_h (q_lookupS (enc := sltC) (a := h.1) (es := eu) (clock := ku) rfl rfl sltC_ok (.tail _ (.head _))) rfl rfl rfl ?_
    rw [hwU]
    by_cases pU : 0 < wU
    · by_cases pM : 0 < wM
      · refine gzU ?_
        refine k_ret [] rfl (l' := l) (.drop (.drop (.drop (.drop (.drop .refl))))) (by exact zRes) ⟨⟨true, rfl, fun _ => hit (.inr ⟨iU.1 pU, .inl (iM.1 pM)⟩), fun _ => rfl⟩, rfl⟩
      cases hN : needB x Ly h.2 with
      | true =>
        refine gzU ?_
        refine k_ret [] rfl (l' := l) (.drop (.drop (.drop (.drop (.drop .refl))))) (by exact zRes) ⟨⟨true, rfl, fun _ => hit (.inr ⟨iU.1 pU, .inr (.inl (hND.1 hN))⟩), fun _ => rfl⟩, rfl⟩
      | false =>
        have nN : ¬ NdL x Ly h.2 := fun hh => by rw [hND.2 hh] at hN; cases hN
        refine gzU ?_
        refine t_h (q_lookupS (enc := sltC) (a := h.1) (es := ey) (clock := ky) rfl rfl sltC_ok (.tail _ (.tail _ (.tail _ (.tail _ (.tail _ j3)))))) rfl rfl rfl ?_
        rw [hwY]
        by_cases pY : 0 < wY
        · refine gzU ?_
          refine k_ret [] rfl (l' := l) (.drop (.drop (.drop (.drop (.drop .refl))))) (by exact zRes) ⟨⟨true, rfl, fun _ => hit (.inr ⟨iU.1 pU, .inr (.inr (iY.1 pY))⟩), fun _ => rfl⟩, rfl⟩
        · refine gzU ?_
          exact k_next (k + 1) ⟨by omega, next fun hh => hh.elim (fun hh => pX (iX.2 hh.1)) fun hh => hh.2.elim (fun z => pM (iM.2 z)) fun z => z.elim nN fun z => pY (iY.2 z)⟩ (by omega) ⟨rfl, rfl, rfl, rfl, rfl, rfl, rfl, trivial⟩ (.drop .refl)
    · refine gzU ?_
      exact k_next (k + 1) ⟨by omega, next fun hh => hh.elim (fun hh => pX (iX.2 hh.1)) fun hh => pU (iU.2 hh.1)⟩ (by omega) ⟨rfl, rfl, rfl, rfl, rfl, rfl, rfl, trivial⟩ (.drop .refl)
  obtain rfl : k = x.hs.length := by omega
  refine gzU ?_
  refine k_ret [] rfl (l' := l) (.drop (.drop (.drop (.drop .refl)))) (by exact zRes) ⟨⟨false, rfl, ?_⟩, rfl⟩
  rw [List.take_length] at hno
  exact ⟨fun h => (nomatch h), fun ⟨h, h1, h2⟩ => absurd h2 (hno h h1)⟩
end Go.Proofs.YtgafamgacpglcaaGreat


/- part.written: the plain part. -/
-- GU
set_option linter.unusedVariables false
set_option linter.unusedSimpArgs false
namespace Go.Proofs.YtgafamgacpglcaaGreat
open Go.RowKit
set_option maxRecDepth 20000
set_option pp.deepTerms false
set_option pp.deepTerms.threshold 4

def landI (i j : Int) : Int := IntKind.i64.wrap (((BitVec.ofInt 64 i) &&& (BitVec.ofInt 64 j)).toNat : Int)
theorem q_landI {P : Program} {ro : Option Nat} {N : Nat} {fr : Fr} {R : List Chunk} {d : Option Nat} {ty t2 t : TypeId} {pos : String} {aft : Array Edge} {g : Option (Nat × Bool)} {x y : Operand} {i j : Int} (hx : ev fr x = some (.int .i64 i)) (hy : ev fr y = some (.int .i64 j)) : OpQ P ro N fr R ⟨d, .binOp .and t x y t2, ty, pos, aft, g⟩ (.int .i64 (landI i j)) :=
  q_bin hx hy (fun _ _ => eqGuard_int _ _ _ _ _) (by simp only [binOp, Op.intBits]; rfl)
theorem SetE.nat {κ : Type} [DecidableEq κ] {S : κ → Prop} {es : List (EntS κ)} {clock : Nat} (h : SetE S es clock) (a : κ) : ∃ w : Nat, (getS a es).getD (.int .i64 0) = .int .i64 (w : Nat) ∧ w ≤ 1 ∧ (0 < w ↔ S a) := by
  by_cases ha : S a
  · exact ⟨1, by rw [h.yes ha]; rfl, by omega, by simp [ha]⟩
  · exact ⟨0, by rw [h.no ha]; rfl, by omega, by simp [ha]⟩
abbrev useV (a b w : Int) : Value := .agg (List.toArray [.int .i64 a, .int .i64 b, .int .i64 w])
def wrT (h : HdT) : Bool := decide (landI h.2.rights 2 ≠ 0)
def FrT (x : VwT) (f : Int) (h : HdT) : Prop := h.2.kind = 3 ∧ Pt.kn x.vd h.2.obj 3 = true ∧ h.2.obj = f
structure UsI (x : VwT) (Sx Mx Sy My : Int × Int → Prop) (pre : List HdT) (es : List Ent) (ck : Nat) : Prop where
  ok : KeysOk es ck
  val : ∀ f : Int, ∃ a b w : Nat, (getS f es).getD (useV 0 0 0) = useV a b w ∧ a ≤ 2 * pre.length ∧ b ≤ 2 * pre.length ∧ w ≤ pre.length ∧ (0 < a ↔ ∃ h, h ∈ pre ∧ FrT x f h ∧ (Sx h.1 ∨ Mx h.1)) ∧ (0 < b ↔ ∃ h, h ∈ pre ∧ FrT x f h ∧ (Sy h.1 ∨ My h.1)) ∧ (0 < w ↔ ∃ h, h ∈ pre ∧ FrT x f h ∧ ((Sx h.1 ∨ Mx h.1) ∨ (Sy h.1 ∨ My h.1)) ∧ wrT h = true)
theorem snoc_no {α : Type} {pre : List α} {q : α} {F G : α → Prop} (hq : ¬ F q) : (∃ h, h ∈ pre ++ [q] ∧ F h ∧ G h) ↔ ∃ h, h ∈ pre ∧ F h ∧ G h :=
  ⟨fun ⟨h, h1, h2, h3⟩ => by
    rcases List.mem_append.1 h1 with h1 | h1
    · exact ⟨h, h1, h2, h3⟩
    · simp at h1; subst h1; exact absurd h2 hq, fun ⟨h, h1, h2⟩ => ⟨h, List.mem_append_left _ h1, h2⟩⟩
theorem snoc_yes {α : Type} {pre : List α} {q : α} {F G : α → Prop} (hq : F q) : (∃ h, h ∈ pre ++ [q] ∧ F h ∧ G h) ↔ (∃ h, h ∈ pre ∧ F h ∧ G h) ∨ G q :=
  ⟨fun ⟨h, h1, h2, h3⟩ => by
    rcases List.mem_append.1 h1 with h1 | h1
    · exact .inl ⟨h, h1, h2, h3⟩
    · simp at h1; subst h1; exact .inr h3, fun h => h.elim (fun ⟨h, h1, h2⟩ => ⟨h, List.mem_append_left _ h1, h2⟩) fun h => ⟨q, by simp, hq, h⟩⟩
theorem UsI.zero {x : VwT} {Sx Mx Sy My : Int × Int → Prop} : UsI x Sx Mx Sy My [] [] 0 := ⟨⟨by simp, by simp, by simp⟩, fun f => ⟨0, 0, 0, by simp [getS, findS], by simp, by simp, by simp, by simp, by simp, by simp⟩⟩
theorem UsI.skip {x : VwT} {Sx Mx Sy My : Int × Int → Prop} {pre : List HdT} {es : List Ent} {ck : Nat} (h : UsI x Sx Mx Sy My pre es ck) {q : HdT} (hq : ¬ (q.2.kind = 3 ∧ Pt.kn x.vd q.2.obj 3 = true)) : UsI x Sx Mx Sy My (pre ++ [q]) es ck := by
  refine ⟨h.ok, fun f => ?_⟩
  obtain ⟨a, b, w, h1, h2, h3, h4, h5, h6, h7⟩ := h.val f
  have hn : ¬ FrT x f q := fun hh => hq ⟨hh.1, hh.2.1⟩
  refine ⟨a, b, w, h1, ?_, ?_, ?_, ?_, ?_, ?_⟩
  · rw [List.length_append]; omega
  · rw [List.length_append]; omega
  · rw [List.length_append]; omega
  · rw [snoc_no hn]; exact h5
  · rw [snoc_no hn]; exact h6
  · rw [snoc_no hn]; exact h7
theorem useV_inj {a b w a' b' w' : Nat} (h : useV a b w = useV a' b' w') : a = a' ∧ b = b' ∧ w = w' := by
  have h2 : [Value.int .i64 a, .int .i64 b, .int .i64 w] = [Value.int .i64 a', .int .i64 b', .int .i64 w'] := congrArg (fun v => match v with | .agg c => c.toList | _ => []) h
  simp only [List.cons.injEq, Value.int.injEq, true_and, and_true] at h2
  omega
theorem UsI.step {x : VwT} {Sx Mx Sy My : Int × Int → Prop} {pre : List HdT} {es : List Ent} {ck : Nat} (h : UsI x Sx Mx Sy My pre es ck) {q : HdT} (h3 : q.2.kind = 3) (hk : Pt.kn x.vd q.2.obj 3 = true) {a b w d1 d2 d3 : Nat} (hg : (getS q.2.obj es).getD (useV 0 0 0) = useV a b w) (k1 : d1 ≤ 2) (k2 : d2 ≤ 2) (k3 : d3 ≤ 1) (i1 : 0 < d1 ↔ Sx q.1 ∨ Mx q.1) (i2 : 0 < d2 ↔ Sy q.1 ∨ My q.1) (i3 : 0 < d3 ↔ ((Sx q.1 ∨ Mx q.1) ∨ (Sy q.1 ∨ My q.1)) ∧ wrT q = true) :
    UsI x Sx Mx Sy My (pre ++ [q]) (setS q.2.obj (useV (a + d1 : Nat) (b + d2 : Nat) (w + d3 : Nat)) ck es).1 (setS q.2.obj (useV (a + d1 : Nat) (b + d2 : Nat) (w + d3 : Nat)) ck es).2 := by
  refine ⟨h.ok.set _ _, fun f => ?_⟩
  rw [getS_set]
  by_cases e : f = q.2.obj
  · subst e
    obtain ⟨a', b', w', g1, g2, g3, g4, g5, g6, g7⟩ := h.val q.2.obj
    obtain ⟨rfl, rfl, rfl⟩ := useV_inj (hg.symm.trans g1)
    have hy : FrT x q.2.obj q := ⟨h3, hk, rfl⟩
    rw [if_pos rfl]
    refine ⟨a + d1, b + d2, w + d3, rfl, ?_, ?_, ?_, ?_, ?_, ?_⟩
    · rw [List.length_append, List.length_singleton]; omega
    · rw [List.length_append, List.length_singleton]; omega
    · rw [List.length_append, List.length_singleton]; omega
    · rw [snoc_yes hy, ← g5, ← i1]; omega
    · rw [snoc_yes hy, ← g6, ← i2]; omega
    · rw [snoc_yes hy, ← g7, ← i3]; omega
  · rw [if_neg e]
    obtain ⟨a', b', w', g1, g2, g3, g4, g5, g6, g7⟩ := h.val f
    have hn : ¬ FrT x f q := fun hh => e hh.2.2.symm
    refine ⟨a', b', w', g1, ?_, ?_, ?_, ?_, ?_, ?_⟩
    · rw [List.length_append]; omega
    · rw [List.length_append]; omega
    · rw [List.length_append]; omega
    · rw [snoc_no hn]; exact g5
    · rw [snoc_no hn]; exact g6
    · rw [snoc_no hn]; exact g7
/-- may a frame be written? -/
def WrtT (x : VwT) (Sx Mx Sy My : Int × Int → Prop) (f : Int) : Prop := (∃ h, h ∈ x.hs ∧ FrT x f h ∧ (Sx h.1 ∨ Mx h.1)) ∧ (∃ h, h ∈ x.hs ∧ FrT x f h ∧ (Sy h.1 ∨ My h.1)) ∧ ∃ h, h ∈ x.hs ∧ FrT x f h ∧ ((Sx h.1 ∨ Mx h.1) ∨ (Sy h.1 ∨ My h.1)) ∧ wrT h = true
theorem getS_mem {κ : Type} [DecidableEq κ] {es : List (EntS κ)} {ck : Nat} (h : KeysOk es ck) {e : EntS κ} (he : e ∈ es) : getS e.1 es = some e.2.1 := by
  obtain ⟨A, B, rfl⟩ := List.append_of_mem he
  have hk := h.keys
  rw [List.map_append, List.nodup_append] at hk
  have hn : getS e.1 A = none := by
    unfold getS
    rw [Option.map_eq_none_iff, findS_none]
    intro x hx e1
    exact hk.2.2 x.1 (List.mem_map.2 ⟨x, hx, rfl⟩) e.1 (by simp) e1
  rw [getS_append, hn, getS_cons, if_pos rfl]; rfl
theorem getS_some_mem {κ : Type} [DecidableEq κ] {es : List (EntS κ)} {a : κ} {v : Value} (h : getS a es = some v) : ∃ e, e ∈ es ∧ e.1 = a := by
  unfold getS at h
  cases hf : findS a es 0 with
  | none => rw [hf] at h; cases h
  | some p =>
    obtain ⟨A, e, B, rfl, _, h1, _⟩ := findS_some (k := p.1) (v := p.2) hf
    exact ⟨e, by simp, h1⟩
/-- an entry's numbers -/
theorem UsI.ent {x : VwT} {Sx Mx Sy My : Int × Int → Prop} {es : List Ent} {ck : Nat} (h : UsI x Sx Mx Sy My x.hs es ck) {e : Ent} (he : e ∈ es) : ∃ a b w : Nat, e.2.1 = useV a b w ∧ (0 < a ∧ 0 < b ∧ 0 < w ↔ WrtT x Sx Mx Sy My e.1) := by
  obtain ⟨a, b, w, h1, h2, h3, h4, h5, h6, h7⟩ := h.val e.1
  rw [getS_mem h.ok he] at h1
  exact ⟨a, b, w, h1, by unfold WrtT; rw [← h5, ← h6, ← h7]⟩
/-- a frame that may be written has an entry -/
theorem UsI.has {x : VwT} {Sx Mx Sy My : Int × Int → Prop} {es : List Ent} {ck : Nat} (h : UsI x Sx Mx Sy My x.hs es ck) {f : Int} (hf : WrtT x Sx Mx Sy My f) : ∃ e, e ∈ es ∧ e.1 = f := by
  obtain ⟨a, b, w, h1, h2, h3, h4, h5, h6, h7⟩ := h.val f
  have ha := h5.2 hf.1
  cases hg : getS f es with
  | none =>
    rw [hg] at h1
    have := useV_inj (a := 0) (b := 0) (w := 0) h1
    omega
  | some v => exact getS_some_mem hg
end Go.Proofs.YtgafamgacpglcaaGreat


/- part.written: its walk. -/
-- GU
set_option linter.unusedVariables false
set_option linter.unusedSimpArgs false
namespace Go.Proofs.YtgafamgacpglcaaGreat
open Go.RowKit
set_option maxRecDepth 20000
set_option pp.deepTerms false
set_option pp.deepTerms.threshold 4

set_option maxHeartbeats 4000000 in
theorem written_any (x : VwT) (c : List Value) (m1 m2 m3 n1 n2 n3 : Nat) (Sx Mx Sy My : Int × Int → Prop) (cx2 cx3 cy2 cy3 : Chunk) (hX : StS m2 Sx cx2) (hMx : StS m3 Mx cx3) (hY : StS n2 Sy cy2) (hMy : StS n3 My cy3) (l : List Chunk) (hV : VwIn l x c) (j1 : cx2 ∈ l) (j2 : cx3 ∈ l) (j3 : cy2 ∈ l) (j4 : cy3 ∈ l) :
    Fn Tryz.prog 18 [.agg (List.toArray c), .agg (List.toArray (sdV m1 m2 m3)), .agg (List.toArray (sdV n1 n2 n3))] l fun v l' => (∃ b, v = .bool b ∧ (b = true ↔ ∃ f, WrtT x Sx Mx Sy My f)) ∧ l' = l := by
  obtain ⟨vo, vc, vt, vh, hC⟩ := hV.cells
  have hlh := hV.lh
  obtain ⟨a0, cap, hvc, hr⟩ := hC.h
  rw [List.length_map] at hvc hr
  subst hvc
  obtain ⟨e1, k1, rfl, hE1⟩ := hX
  obtain ⟨e2, k2, rfl, hE2⟩ := hMx
  obtain ⟨e3, k3, rfl, hE3⟩ := hY
  obtain ⟨e4, k4, rfl, hE4⟩ := hMy
  refine fn_of_body Tryz.func18 rfl rfl fun E => ?_
  simp only [argF, Tryz.ntmps18]
  refine gzU ?_
  refine t_e (e_boxA rfl) rfl rfl rfl ?_
  rintro _ _ ⟨b3, _, rfl, rfl⟩
  refine t_e (e_boxA rfl) rfl rfl rfl ?_
  rintro _ _ ⟨b4, _, rfl, rfl⟩
  refine t_e (e_boxA rfl) rfl rfl rfl ?_
  rintro _ _ ⟨b5, _, rfl, rfl⟩
  refine gzU ?_
  refine t_e e_makeMap rfl rfl rfl ?_
  rintro _ _ ⟨m, _, rfl, rfl⟩
  refine gzU ?_
  refine t_q (q_load rfl (.tail _ (.tail _ (.tail _ (.head _)))) hC.c1) rfl rfl rfl ?_
  refine gzU ?_
  refine k_loop (α := Nat × List Ent × Nat) (fun y => [(3, pV b3), (4, pV b4), (5, pV b5), (7, .map (some m)), (17, .slice a0 x.hs.length cap), (18, .int .i64 (x.hs.length : Nat)), (19, .int .i64 y.1)]) (fun y => (m, mapO .i64 y.2.1 y.2.2) :: sdB b5 n1 n2 n3 :: sdB b4 m1 m2 m3 :: vwB b3 c :: l) (fun y => y.1 ≤ x.hs.length ∧ UsI x Sx Mx Sy My (x.hs.take y.1) y.2.1 y.2.2) (fun y => x.hs.length - y.1) (0, [], 0) ⟨Nat.zero_le _, UsI.zero⟩ ⟨rfl, rfl, rfl, rfl, rfl, rfl, rfl, trivial⟩ .refl ?_
  rintro ⟨k, es, ck⟩ ⟨hk, hU⟩
  simp only at hk hU ⊢
  by_cases hlt : k < x.hs.length
  · obtain ⟨h, hih⟩ : ∃ h, x.hs[k]? = some h := ⟨_, List.getElem?_eq_getElem hlt⟩
    obtain ⟨bB, off, rw_, t, fz, rfl, hmr, hrow⟩ := hr (by omega)
    obtain ⟨x1, x2, _⟩ := hrow k (encE h) (by rw [List.getElem?_map, hih]; rfl)
    have htk : x.hs.take (k + 1) = x.hs.take k ++ [h] := by rw [List.take_add_one, hih]; rfl
    obtain ⟨p1, hp1, l1, i1⟩ := hE1.nat h.1
    obtain ⟨p2, hp2, l2, i2⟩ := hE2.nat h.1
    obtain ⟨p3, hp3, l3, i3⟩ := hE3.nat h.1
    obtain ⟨p4, hp4, l4, i4⟩ := hE4.nat h.1
    obtain ⟨a, b, w, hg, ha, hb, hw, _⟩ := hU.val h.2.obj
    rw [List.length_take] at ha hb hw
    refine gzU ?_
    refine t_q (q_loadA rfl (.tail _ (.tail _ (.tail _ (.tail _ hmr)))) x1 x2) rfl rfl rfl ?_
    refine gzU ?_
    refine t_e e_alloc rfl rfl rfl ?_; rintro _ _ ⟨b9, _, rfl, rfl⟩
    refine gzU ?_
    by_cases h3 : h.2.kind = 3
    case neg =>
      refine gzU ?_
      exact k_next (k + 1, es, ck) ⟨by simp only; omega, by simp only; rw [htk]; exact hU.skip fun hh => h3 hh.1⟩ (by simp only; omega) ⟨rfl, rfl, rfl, rfl, rfl, rfl, rfl, trivial⟩ (.drop .refl)
    refine gzU ?_
    refine t_h (q_loadL rfl (.tail _ (.tail _ (.tail _ (.tail _ (.head _))))) (As.LSub.of_all (n := 86) _ hC.len)) rfl rfl rfl ?_
    refine gzU ?_
    refine t_h (q_call rfl rfl (fun l2 hl => known_any x c h.2.obj 3 l2 (hV.mono fun q hq => hl _ (.tail _ (.tail _ (.tail _ (.tail _ (.tail _ hq)))))))) rfl rfl rfl ?_
    cases hkn : Pt.kn x.vd h.2.obj 3 with
    | false =>
      refine gzU ?_
      exact k_next (k + 1, es, ck) ⟨by simp only; omega, by simp only; rw [htk]; exact hU.skip fun hh => by rw [hkn] at hh; cases hh.2⟩ (by simp only; omega) ⟨rfl, rfl, rfl, rfl, rfl, rfl, rfl, trivial⟩ (.drop .refl)
    | true =>
      refine gzU ?_
      rw [getE_S, hg]
      refine gzU ?_
      refine t_e e_alloc rfl rfl rfl ?_; rintro _ _ ⟨b10, _, rfl, rfl⟩
      refine gzU ?_
      refine c_draw [(0, true), (1, true), (2, true), (3, true), (4, true), (5, true), (6, true), (7, true), (8, true), (9, true), (10, true), (11, true), (12, true), (13, true), (14, true), (15, true), (16, true), (17, true), (18, true), (19, true), (20, true), (21, true), (22, true), (23, true)] [[], [0], [], [2], [0, 1, 2, 3], [], [5], [], [7], [5, 6, 7, 8], [0, 1, 2, 3, 4, 5, 6, 7, 8, 9], [], [11], [], [13], [11, 12, 13, 14], [], [16], [], [18], [16, 17, 18, 19], [11, 12, 13, 14, 15, 16, 17, 18, 19, 20], [0, 1, 2, 3, 4, 5, 6, 7, 8, 9, 10], [0, 1, 2, 3, 4, 5, 6, 7, 8, 9, 10, 11, 12, 13, 14, 15, 16, 17, 18, 19, 20, 21, 22]] _ (by kernel_rfl) (by kernel_rfl) zAtt (fun _ h => h) ?_
      refine pzU ?_
      apply pl_q
      · exact q_lookupS (enc := sltC) (a := h.1) (es := e1) (clock := k1) rfl rfl sltC_ok (.tail _ (.tail _ (.tail _ (.tail _ (.tail _ (.tail _ j1))))))
      · rfl
      · rfl
      · rfl
      rw [hp1]
      refine pzU ?_
      apply pl_q
      · exact q_lookupS (enc := sltC) (a := h.1) (es := e2) (clock := k2) rfl rfl sltC_ok (.tail _ (.tail _ (.tail _ (.tail _ (.tail _ (.tail _ j2))))))
      · rfl
      · rfl
      · rfl
      rw [hp2]
      refine pzU ?_
      apply pl_q
      · exact q_lookupS (enc := sltC) (a := h.1) (es := e3) (clock := k3) rfl rfl sltC_ok (.tail _ (.tail _ (.tail _ (.tail _ (.tail _ (.tail _ j3))))))
      · rfl
      · rfl
      · rfl
      rw [hp3]
      refine pzU ?_
      apply pl_q
      · exact q_lookupS (enc := sltC) (a := h.1) (es := e4) (clock := k4) rfl rfl sltC_ok (.tail _ (.tail _ (.tail _ (.tail _ (.tail _ (.tail _ j4))))))
      · rfl
      · rfl
      · rfl
      rw [hp4]
      refine pzU ?_
      refine gzU ?_
      have iA : 0 < p1 + p2 ↔ Sx h.1 ∨ Mx h.1 := by rw [← i1, ← i2]; omega
      have iB : 0 < p3 + p4 ↔ Sy h.1 ∨ My h.1 := by rw [← i3, ← i4]; omega
      by_cases zP : 0 < p1 + p2 + (p3 + p4)
      case neg =>
        refine gzU ?_
        refine t_n (e_mapUpdate rfl rfl rfl (.there (.there .here))) rfl rfl ?_
        rintro _ _ ⟨rfl, rfl⟩
        rw [setE_S]
        refine gzU ?_
        have hs := hU.step (d1 := p1 + p2) (d2 := p3 + p4) (d3 := 0) h3 hkn hg (by omega) (by omega) (by omega) iA iB (by rw [← iA, ← iB]; exact ⟨fun z => by omega, fun z => by have := z.1; omega⟩)
        rw [← htk] at hs
        simp only [Int.natCast_add, Nat.add_zero] at hs
        exact k_next (k + 1, _, _) ⟨by simp only; omega, hs⟩ (by simp only; omega) ⟨rfl, rfl, rfl, rfl, rfl, rfl, rfl, trivial⟩ (.drop (.drop .refl))
      refine gzU ?_
      refine t_h (q_landI rfl rfl) rfl rfl rfl ?_
      by_cases zR : landI h.2.rights 2 = 0
      case pos =>
        refine gzU ?_
        refine t_n (e_mapUpdate rfl rfl rfl (.there (.there .here))) rfl rfl ?_
        rintro _ _ ⟨rfl, rfl⟩
        rw [setE_S]
        refine gzU ?_
        have hs := hU.step (d1 := p1 + p2) (d2 := p3 + p4) (d3 := 0) h3 hkn hg (by omega) (by omega) (by omega) iA iB ⟨fun z => by omega, fun z => by have := z.2; simp [wrT, zR] at this⟩
        rw [← htk] at hs
        simp only [Int.natCast_add, Nat.add_zero] at hs
        exact k_next (k + 1, _, _) ⟨by simp only; omega, hs⟩ (by simp only; omega) ⟨rfl, rfl, rfl, rfl, rfl, rfl, rfl, trivial⟩ (.drop (.drop .refl))
      refine gzU ?_
      refine t_n (e_mapUpdate rfl rfl rfl (.there (.there .here))) rfl rfl ?_
      rintro _ _ ⟨rfl, rfl⟩
      rw [setE_S]
      refine gzU ?_
      have hs := hU.step (d1 := p1 + p2) (d2 := p3 + p4) (d3 := 1) h3 hkn hg (by omega) (by omega) (by omega) iA iB ⟨fun _ => ⟨by rw [← iA, ← iB]; omega, by simp [wrT, zR]⟩, fun _ => by omega⟩
      rw [← htk] at hs
      simp only [Int.natCast_add, Nat.add_zero] at hs
      exact k_next (k + 1, _, _) ⟨by simp only; omega, hs⟩ (by simp only; omega) ⟨rfl, rfl, rfl, rfl, rfl, rfl, rfl, trivial⟩ (.drop (.drop .refl))
  obtain rfl : k = x.hs.length := by omega
  rw [List.take_length] at hU
  refine gzU ?_
  refine t_e (e_range (es := es) (clock := ck) rfl (.head _)) rfl rfl rfl ?_
  rintro _ _ ⟨b0, hb0, rfl, rfl⟩
  refine gzU ?_
  refine k_loop (α := Array Nat × List Ent) (fun y => [(94, pV b0)]) (fun y => (b0, .mapIter (some m) ck y.1 ck) :: (m, mapO .i64 es ck) :: l) (fun y => Th.Came es y.2 y.1 ∧ ∀ f, f ∈ y.2.map (·.1) → ¬ WrtT x Sx Mx Sy My f) (fun y => es.length - y.2.length) (#[], []) ⟨⟨rfl, by simp, by simp⟩, by simp⟩ ⟨rfl, trivial⟩ (.pick .here (.pick .here (.drop (.drop (.drop .refl))))) ?_
  rintro ⟨seen, vis⟩ ⟨hCm, hno⟩
  simp only at hCm hno ⊢
  refine gzU ?_
  refine t_e (e_next (es := es) (clock := ck) rfl (.head _) (fun e he => hU.ok.below e he) (Nat.le_refl _)) rfl rfl rfl ?_
  rintro _ _ (⟨rfl, rfl, hall⟩ | ⟨e, he, hns, rfl, rfl⟩)
  · have hp := hCm.all hU.ok.stamps hall
    refine gzU ?_
    refine k_ret [] rfl (l' := l) (.drop (.drop .refl)) (by exact zRes) ⟨⟨false, rfl, fun h => (nomatch h), fun ⟨f, hf⟩ => ?_⟩, rfl⟩
    obtain ⟨e, he, rfl⟩ := hU.has hf
    exact absurd hf (hno _ (hp.mem_iff.2 (List.mem_map.2 ⟨e, he, rfl⟩)))
  · have hC2 := hCm.push he hns
    have hl2 := hC2.len hU.ok.stamps
    obtain ⟨a, b, w, hv, hiff⟩ := hU.ent he
    have next : ¬ WrtT x Sx Mx Sy My e.1 → ∀ f, f ∈ (vis ++ [e]).map (·.1) → ¬ WrtT x Sx Mx Sy My f := fun hn f hf => by
      rw [List.map_append, List.mem_append] at hf
      rcases hf with hf | hf
      · exact hno f hf
      · simp at hf; subst hf; exact hn
    refine gzU ?_
    refine t_q (q_entry rfl (.head _) (.tail _ (.head _)) he hU.ok.stamps) rfl rfl rfl ?_
    rw [hv]
    refine gzU ?_
    refine t_e e_alloc rfl rfl rfl ?_; rintro _ _ ⟨b14, _, rfl, rfl⟩
    refine gzU ?_
    by_cases z1 : a = 0
    · refine gzU ?_
      exact k_next (seen.push e.2.2, vis ++ [e]) ⟨hC2, next fun hh => by have := (hiff.2 hh).1; omega⟩ (by simp at hl2 ⊢; omega) ⟨rfl, trivial⟩ (.drop .refl)
    by_cases z2 : b = 0
    · refine gzU ?_
      exact k_next (seen.push e.2.2, vis ++ [e]) ⟨hC2, next fun hh => by have := (hiff.2 hh).2.1; omega⟩ (by simp at hl2 ⊢; omega) ⟨rfl, trivial⟩ (.drop .refl)
    by_cases z3 : w = 0
    · refine gzU ?_
      exact k_next (seen.push e.2.2, vis ++ [e]) ⟨hC2, next fun hh => by have := (hiff.2 hh).2.2; omega⟩ (by simp at hl2 ⊢; omega) ⟨rfl, trivial⟩ (.drop .refl)
    refine gzU ?_
    exact k_ret [] rfl (l' := l) (.drop (.drop (.drop .refl))) (by exact zRes) ⟨⟨true, rfl, fun _ => ⟨e.1, hiff.1 ⟨by omega, by omega, by omega⟩⟩, fun _ => rfl⟩, rfl⟩
end Go.Proofs.YtgafamgacpglcaaGreat


/- slices.Equal of numbers. -/
-- GU
set_option linter.unusedVariables false
set_option linter.unusedSimpArgs false
namespace Go.Proofs.YtgafamgacpglcaaGreat
open Go.RowKit
set_option maxRecDepth 20000
set_option pp.deepTerms false
set_option pp.deepTerms.threshold 4

set_option maxHeartbeats 1000000 in
theorem equalI_any (v1 v2 : Value) (xs ys : List Int) (l : List Chunk) (h1 : IntSl l v1 xs) (h2 : IntSl l v2 ys) (hx : xs.length ≤ 1000000) :
    Fn Tryz.prog 43 [v1, v2] l fun r l' => r = .bool (decide (xs = ys)) ∧ l' = l := by
  obtain ⟨a, ca, rfl, h1⟩ := h1
  obtain ⟨b, cb, rfl, h2⟩ := h2
  refine fn_of_body Tryz.func43 rfl rfl fun E => ?_
  simp only [argF, Tryz.ntmps43]
  refine gzU ?_
  by_cases hle : (xs.length : Int) = (ys.length : Int)
  case neg =>
    refine gzU ?_
    refine k_ret [] rfl .refl (by exact zRes) ⟨?_, rfl⟩
    have : ¬ xs = ys := fun e => hle (by rw [e])
    simp [tup, this]
  have hle' : xs.length = ys.length := by omega
  refine gzU ?_
  refine k_loop (α := Nat) (fun k => [(0, .slice a xs.length ca), (1, .slice b ys.length cb), (12, .int .i64 (xs.length : Nat)), (13, .int .i64 k)]) (fun k => l) (fun k => k ≤ xs.length ∧ xs.take k = ys.take k) (fun k => xs.length - k) 0 ⟨Nat.zero_le _, by simp⟩ ⟨rfl, rfl, rfl, rfl, trivial⟩ .refl ?_
  rintro k ⟨hk, hj⟩
  by_cases hlt : k < xs.length
  · obtain ⟨b1, o1, c1, t1, z1, rfl, m1, q1⟩ := h1 (by omega)
    obtain ⟨b2, o2, c2, t2, z2, rfl, m2, q2⟩ := h2 (by omega)
    obtain ⟨x, e1⟩ : ∃ x, xs[k]? = some x := ⟨_, List.getElem?_eq_getElem hlt⟩
    obtain ⟨y, e2⟩ : ∃ y, ys[k]? = some y := ⟨_, List.getElem?_eq_getElem (by omega)⟩
    have g1 := q1 k x e1
    have g2 := q2 k y e2
    refine gzU ?_
    refine c_draw [(0, true), (1, true), (2, true), (3, true), (4, true), (5, true), (6, true), (7, true), (8, true)] [[], [], [0, 1], [0, 1, 2], [], [], [4, 5], [4, 5, 6], [0, 1, 2, 3, 4, 5, 6, 7]] _ (by kernel_rfl) (by kernel_rfl) zAtt (fun _ h => h) ?_
    refine pzU ?_
    by_cases hxy : x = y
    · refine gzU ?_
      refine k_next (k + 1) ⟨by omega, ?_⟩ (by omega) ⟨rfl, rfl, rfl, rfl, trivial⟩ .refl
      rw [List.take_add_one, List.take_add_one, hj, e1, e2, hxy]
    · refine gzU ?_
      refine k_ret [] rfl .refl (by exact zRes) ⟨?_, rfl⟩
      have : ¬ xs = ys := fun e => hxy (by rw [e, e2] at e1; exact (Option.some.inj e1).symm)
      simp [tup, this]
  obtain rfl : k = xs.length := by omega
  refine gzU ?_
  refine k_ret [] rfl .refl (by exact zRes) ⟨?_, rfl⟩
  rw [List.take_length, hle', List.take_length] at hj
  simp [tup, hj]
end Go.Proofs.YtgafamgacpglcaaGreat

