/- Arena: apart, Next, the iterator, at. Arena: at, Get, All. Arena: Add. Arena: Add, the walk. The statements' helpers for lists of numbers: Num, SameInts, OverInts. slices.Index and slices.Delete on lists of numbers that are owned. The queue as plain data and its blocks; the priorities that have some; at. at, Has, First, All of a queue. All of a queue; New. Add of a queue. Endpoints as plain data and their blocks; New; the endpoints at which a thread waits. Add, Drop, List, First of endpoints; slices.Clone. Laws that the statement's proof leans on. -/
import Derived.Test.YtcjknmpogkofpaaGreatBa5
import Derived.Test.YtcjknmpogkofpaaGreatBa6
import Derived.Test.YtcjknmpogkofpaaGreatBa3
import Derived.Test.YtcjknmpogkofpaaGreatBa4
/- Arena: apart, Next, the iterator, at. -/
-- GU
set_option linter.unusedVariables false
set_option linter.unusedSimpArgs false
namespace Go.Proofs.YtcjknmpogkofpaaGreat.Ar
open Go.RowKit
set_option maxRecDepth 20000
set_option maxRecDepth 20000

set_option pp.deepTerms false
set_option pp.deepTerms.threshold 4
set_option maxHeartbeats 400000
theorem apart_any (kd fi n : Int) (o : ObT) (gb off : Nat) (cs : Array Value) (t : TypeId) (fz : Nat × Nat) (l : List Chunk) (hm : (gb, Obj.cells cs t fz) ∈ l) (hc : ∀ j, j < 9 → cs[off + j]? = (obC o)[j]?) :
    Fn Tryz.prog 139 [.int .i64 kd, .int .i64 fi, .int .i64 n, .pointer (some ⟨gb, off, none⟩)] l fun v l' => v = .bool (apartD kd fi n o) ∧ l' = l := by
  have c1 : cs[off + 1]? = some (.int .i64 o.kd) := hc 1 (by omega)
  have c3 : cs[off + 3]? = some (.int .i64 o.fi) := hc 3 (by omega)
  have c4 : cs[off + 4]? = some (.int .i64 o.fr) := hc 4 (by omega)
  refine fn_of_body Tryz.func139 rfl rfl fun E => ?_
  simp only [argF, Tryz.ntmps139]
  refine gzU ?_
  refine c_draw [(0, true), (1, true), (2, true), (3, true), (4, true), (5, true), (6, true), (7, true), (8, true), (9, true), (10, true), (11, true), (12, true)] [[], [], [], [2], [2, 3], [2, 3, 4], [], [6], [6, 7], [6, 7, 8], [0, 1, 2, 3, 4, 5, 6, 7, 8, 9], [0, 1, 2, 3, 4, 5, 6, 7, 8, 9, 10], [0, 1, 2, 3, 4, 5, 6, 7, 8, 9, 10, 11]] _ (by kernel_rfl) (by kernel_rfl) zAtt (fun _ h => h) ?_
  refine pzU ?_
  apply pl_q
  · exact q_call rfl rfl fun l2 hl => meet_any fi n o.fi o.fr l2
  · rfl
  · rfl
  · rfl
  cases hM : meetD fi n o.fi o.fr with
  | false =>
    refine pzU ?_
    refine gzU ?_
    exact k_ret [] rfl .refl (by exact zRes) ⟨by unfold apartD; rw [hM]; rfl, rfl⟩
  | true =>
    refine pzU ?_
    refine gzU ?_
    refine c_draw [(0, true), (1, true), (2, true), (3, true), (4, true), (5, true), (6, true), (7, true), (8, true), (9, true), (10, true), (11, true), (12, true), (13, true), (14, true), (15, true), (16, true), (17, true), (18, true)] [[], [0], [0, 1], [0, 1, 2], [0, 1, 2, 3], [0, 1, 2, 3, 4], [0, 1, 2, 3, 4, 5], [0, 1, 2, 3, 4, 5], [0, 1, 2, 3, 4, 5], [0, 1, 2, 3, 4, 5, 8], [0, 1, 2, 3, 4, 5, 8, 9], [0, 1, 2, 3, 4, 5, 8, 9, 10], [0, 1, 2, 3, 4, 5], [0, 1, 2, 3, 4, 5, 12], [0, 1, 2, 3, 4, 5, 12, 13], [0, 1, 2, 3, 4, 5, 12, 13, 14], [0, 1, 2, 3, 4, 5, 6, 7, 8, 9, 10, 11, 12, 13, 14, 15], [0, 1, 2, 3, 4, 5, 6, 7, 8, 9, 10, 11, 12, 13, 14, 15, 16], [0, 1, 2, 3, 4, 5, 6, 7, 8, 9, 10, 11, 12, 13, 14, 15, 16, 17]] _ (by kernel_rfl) (by kernel_rfl) zAtt (fun _ h => h) ?_
    refine pzU ?_
    by_cases h1 : o.kd = 1
    · refine pzU ?_
      apply pl_gq
      · exact q_call rfl rfl fun l2 hl => within_any fi n o.fi o.fr l2
      all_goals try rfl
      cases hW : withinD fi n o.fi o.fr with
      | true =>
        refine pzU ?_
        refine gzU ?_
        exact k_ret [] rfl .refl (by exact zRes) ⟨by unfold apartD; rw [hM, decide_eq_true h1, hW]; rfl, rfl⟩
      | false =>
        refine pzU ?_
        refine gzU ?_
        refine c_draw [(0, true), (1, true), (2, true), (3, true), (4, true), (5, true), (6, true), (7, true), (8, true), (9, true), (10, true), (11, true), (12, true), (13, true), (14, true), (15, true)] [[], [0], [0, 1], [0, 1, 2], [0, 1, 2, 3], [0, 1, 2, 3, 4], [0, 1, 2, 3, 4, 5], [0, 1, 2], [0, 1, 2, 7], [0, 1, 2, 7, 8], [0, 1, 2, 7, 8, 9], [0, 1, 2], [0, 1, 2], [0, 1, 2, 3, 4, 5, 6, 7, 8, 9, 10, 11, 12], [0, 1, 2, 3, 4, 5, 6, 7, 8, 9, 10, 11, 12, 13], [0, 1, 2, 3, 4, 5, 6, 7, 8, 9, 10, 11, 12, 13, 14]] _ (by kernel_rfl) (by kernel_rfl) zAtt (fun _ h => h) ?_
        by_cases h5 : kd = 1
        · refine pzU ?_
          apply pl_gq
          · exact q_call rfl rfl fun l2 hl => within_any o.fi o.fr fi n l2
          all_goals try rfl
          refine pzU ?_
          refine gzU ?_
          exact k_ret [] rfl .refl (by exact zRes) ⟨by unfold apartD; rw [hM, decide_eq_true h1, hW, decide_eq_true h5]; rfl, rfl⟩
        · refine pzU ?_
          refine gzU ?_
          exact k_ret [] rfl .refl (by exact zRes) ⟨by unfold apartD; rw [hM, decide_eq_true h1, hW, decide_eq_false h5]; rfl, rfl⟩
    · refine pzU ?_
      refine gzU ?_
      refine c_draw [(0, true), (1, true), (2, true), (3, true), (4, true), (5, true), (6, true), (7, true), (8, true), (9, true), (10, true), (11, true), (12, true), (13, true), (14, true), (15, true)] [[], [0], [0, 1], [0, 1, 2], [0, 1, 2, 3], [0, 1, 2, 3, 4], [0, 1, 2, 3, 4, 5], [0, 1, 2], [0, 1, 2, 7], [0, 1, 2, 7, 8], [0, 1, 2, 7, 8, 9], [0, 1, 2], [0, 1, 2], [0, 1, 2, 3, 4, 5, 6, 7, 8, 9, 10, 11, 12], [0, 1, 2, 3, 4, 5, 6, 7, 8, 9, 10, 11, 12, 13], [0, 1, 2, 3, 4, 5, 6, 7, 8, 9, 10, 11, 12, 13, 14]] _ (by kernel_rfl) (by kernel_rfl) zAtt (fun _ h => h) ?_
      by_cases h5 : kd = 1
      · refine pzU ?_
        apply pl_gq
        · exact q_call rfl rfl fun l2 hl => within_any o.fi o.fr fi n l2
        all_goals try rfl
        refine pzU ?_
        refine gzU ?_
        exact k_ret [] rfl .refl (by exact zRes) ⟨by unfold apartD; rw [hM, decide_eq_false h1, decide_eq_true h5]; rfl, rfl⟩
      · refine pzU ?_
        refine gzU ?_
        exact k_ret [] rfl .refl (by exact zRes) ⟨by unfold apartD; rw [hM, decide_eq_false h1, decide_eq_false h5]; rfl, rfl⟩
theorem next_any (b : Nat) (S : ArT) (lq : List Chunk) (hA : IsA b S lq) (f : Int) (l : List Chunk) (hsub : ∀ c, c ∈ lq → c ∈ l) :
    Fn Tryz.prog 140 [.pointer (some ⟨b, 0, none⟩), .int .i64 f] l fun v l' => v = .int .i64 (nextD S f) ∧ l' = l := by
  obtain ⟨hok, v, cs, rfl, ho⟩ := hA
  have hm := hsub _ (.head _)
  have c0 := arL_n S.n S.g v
  have hn1 := hok.n1
  have hn2 := hok.n2
  refine fn_of_body Tryz.func140 rfl rfl fun E => ?_
  simp only [argF, Tryz.ntmps140]
  refine gzU ?_
  by_cases h1 : f < 0
  · refine gzU ?_
    exact k_ret [] rfl .refl (by exact zRes) ⟨by unfold nextD; rw [if_pos h1]; rfl, rfl⟩
  by_cases h2 : f ≥ S.n
  · refine gzU ?_
    exact k_ret [] rfl .refl (by exact zRes) ⟨by unfold nextD; rw [if_neg h1, if_pos h2]; rfl, rfl⟩
  obtain ⟨j, rfl⟩ : ∃ j : Nat, f = j := ⟨f.toNat, by omega⟩
  have hj : j < 64 := by omega
  have cg := arL_g S.n S.g v hj
  have hg := hok.g1 j
  by_cases h3 : (j : Int) + 1 + 64 * S.g j > 65535
  · refine gzU ?_
    exact k_ret [] rfl .refl (by exact zRes) ⟨by unfold nextD; rw [if_neg h1, if_neg h2, Int.toNat_natCast, if_pos h3]; rfl, rfl⟩
  · refine gzU ?_
    exact k_ret [] rfl .refl (by exact zRes) ⟨by unfold nextD; rw [if_neg h1, if_neg h2, Int.toNat_natCast, if_neg h3]; rfl, rfl⟩
/-- the objects with their places -/
def itm (os : OL) : List (ObT × Nat) := os.zipIdx
theorem itm_get (os : OL) (k : Nat) : (itm os)[k]? = os[k]?.map fun o => (o, k) := by
  unfold itm; rw [List.getElem?_zipIdx]; simp
theorem itm_len (os : OL) : (itm os).length = os.length := List.length_zipIdx
theorem itm_take {os : OL} {k : Nat} {o : ObT} (h : os[k]? = some o) : (itm os).take (k + 1) = (itm os).take k ++ [(o, k)] := by
  rw [List.take_add_one, itm_get, h]; rfl
theorem itm_pre {os : OL} {pre : List (ObT × Nat)} {x : ObT × Nat} (h : pre ++ [x] <+: itm os) : os[x.2]? = some x.1 ∧ x.2 = pre.length ∧ pre = (itm os).take x.2 := by
  obtain ⟨r, hr⟩ := h
  have h1 : (itm os)[pre.length]? = some x := by rw [← hr]; simp
  rw [itm_get] at h1
  cases ho : os[pre.length]? with
  | none => rw [ho] at h1; simp at h1
  | some o =>
    rw [ho] at h1
    have : x = (o, pre.length) := by simpa using h1.symm
    subst this
    refine ⟨ho, rfl, ?_⟩
    show pre = (itm os).take pre.length
    rw [← hr, List.append_assoc, List.take_left' rfl]
abbrev xB (B : Nat) (b : Option Addr) : Chunk := (B, .cells #[.pointer b] 122 (0, 0))
abbrev rowV (gb : Nat) (v : Value) (os : OL) : Prop := v = .slice none 0 0 ∧ os.length = 0 ∨ ∃ cap, v = .slice (some ⟨gb, 0, none⟩) os.length cap
theorem each_iter (B b : Nat) (n : Int) (g : Nat → Int) (v : Value) (os : OL) (gb : Nat) (hv : rowV gb v os) (hn : os.length ≤ 900000) :
    IterS Tryz.prog 173 [.pointer (some ⟨B, 0, none⟩)] (fun x : ObT × Nat => [.int .i64 (x.2 : Nat), .pointer (some ⟨gb, x.2 * 9, none⟩)]) (fun xs => xs = itm os) (fun pre => pre <+: itm os)
      (fun _ l => xB B (some ⟨b, 0, none⟩) ∈ l ∧ arC b n g v ∈ l) := by
  refine ⟨fun r I Ix G0 hneed hY l G hG h0 => ?_⟩
  obtain ⟨p, cap, rfl, hp⟩ : ∃ p cap, v = .slice p os.length cap ∧ (0 < os.length → p = some ⟨gb, 0, none⟩) := by
    rcases hv with ⟨h, h0⟩ | ⟨cap, h⟩
    · exact ⟨none, 0, by rw [h, h0], fun h => by omega⟩
    · exact ⟨_, cap, h, fun _ => rfl⟩
  obtain ⟨n1, n2⟩ := hneed _ _ G hG h0
  have cl := arL_l n g (.slice p os.length cap)
  refine fn_of_body Tryz.func173 rfl rfl fun E => ?_
  simp only [argF, Tryz.ntmps173]
  refine gzU ?_
  refine k_loop (α := Nat × List Chunk) (fun x => [(0, .func (.yield r) #[] #[]), (1, .pointer (some ⟨B, 0, none⟩)), (10, .int .i64 os.length), (11, .int .i64 x.1)]) (fun x => x.2 ++ G) (fun x => x.1 ≤ os.length ∧ I ((itm os).take x.1) x.2) (fun x => os.length - x.1) (0, l) ⟨Nat.zero_le _, h0⟩ ⟨rfl, rfl, rfl, rfl, trivial⟩ .refl ?_
  clear n1 n2
  rintro ⟨k, l⟩ ⟨hk, hI⟩
  simp only at hk hI ⊢
  obtain ⟨n1, n2⟩ := hneed _ _ G hG hI
  by_cases hlt : k < os.length
  · obtain ⟨o, ho⟩ : ∃ o, os[k]? = some o := ⟨_, List.getElem?_eq_getElem hlt⟩
    have hpp := hp (by omega)
    subst hpp
    refine gzU ?_
    have hy := hY ((itm os).take k) (o, k) l G hG hI (by rw [← itm_take ho]; exact List.take_prefix _ _)
    refine t_e (e_yield rfl rfl hy) rfl rfl rfl ?_
    rintro v l' ⟨l1, rfl, ⟨rfl, hI'⟩ | ⟨rfl, hx⟩⟩
    · refine gzU ?_
      exact k_next (k + 1, l1) ⟨by simp only; omega, by simp only; rw [itm_take ho]; exact hI'⟩ (by simp only; omega) ⟨rfl, rfl, rfl, rfl, trivial⟩ .refl
    · refine gzU ?_
      exact k_ret [] rfl .refl (by exact zRes) ⟨l1, rfl, .inr ⟨_, by rw [← itm_take ho]; exact List.take_prefix _ _, hx⟩⟩
  · obtain rfl : k = os.length := by omega
    rw [← itm_len, List.take_length] at hI
    refine gzU ?_
    exact k_ret [] rfl .refl (by exact zRes) ⟨l, rfl, .inl ⟨_, rfl, hI⟩⟩
theorem each_nil (B : Nat) : IterS Tryz.prog 173 [.pointer (some ⟨B, 0, none⟩)] (fun x : ObT × Nat => [.int .i64 (x.2 : Nat), .pointer (some ⟨0, x.2 * 9, none⟩)]) (fun xs => xs = []) (fun pre => False) (fun _ l => xB B none ∈ l) := by
  refine ⟨fun r I Ix G0 hneed hY l G hG h0 => ?_⟩
  have n1 := hneed _ _ G hG h0
  refine fn_of_body Tryz.func173 rfl rfl fun E => ?_
  simp only [argF, Tryz.ntmps173]
  refine gzU ?_
  exact k_ret [] rfl .refl (by exact zRes) ⟨l, rfl, .inl ⟨_, rfl, h0⟩⟩
end Go.Proofs.YtcjknmpogkofpaaGreat.Ar

/- Arena: at, Get, All. -/
set_option linter.unusedVariables false
set_option linter.unusedSimpArgs false
namespace Go.Proofs.YtcjknmpogkofpaaGreat.Ar
open Go.RowKit
set_option maxRecDepth 20000
set_option maxRecDepth 20000

abbrev inC (B : Nat) (x : Int) : Chunk := (B, .cells #[.int .i64 x] 3 (0, 0))
abbrev obK (B : Nat) (o : ObT) : Chunk := (B, .cells (List.toArray (obC o)) 68 (0, 0))
def atO (os : OL) (id : Int) : Option Nat := os.findIdx? fun o => decide (o.id = id)
def atI (os : OL) (id : Int) : Int := match atO os id with | some k => (k : Int) | none => -1
theorem atO_some {os : OL} {id : Int} {k : Nat} (h : atO os id = some k) : ∃ o, os[k]? = some o ∧ o.id = id := by
  unfold atO at h
  rw [List.findIdx?_eq_some_iff_getElem] at h
  obtain ⟨h1, h2, _⟩ := h
  exact ⟨_, List.getElem?_eq_getElem h1, by simpa using h2⟩
theorem atI_none {os : OL} {id : Int} (h : atO os id = none) : atI os id = -1 := by unfold atI; rw [h]
theorem atI_some {os : OL} {id : Int} {k : Nat} (h : atO os id = some k) : atI os id = (k : Int) := by unfold atI; rw [h]
theorem rowV_of {e : Nat} {v : Value} {os : OL} {cs : List Chunk} (ho : OwnSl e 9 v os.length (ocs os) cs) : ∃ gb, rowV gb v os ∧ ∀ (k : Nat) (o : ObT), os[k]? = some o → ∃ sp, cs = [(gb, Obj.cells (List.toArray (ocs os ++ sp)) e (0, 0))] := by
  rcases ho.2 with ⟨rfl, h0, rfl⟩ | ⟨b, cap, sp, rfl, rfl, _⟩
  · exact ⟨0, .inl ⟨rfl, h0⟩, fun k o h => by have := (List.getElem?_eq_some_iff.1 h).1; omega⟩
  · exact ⟨b, .inr ⟨cap, rfl⟩, fun k o h => ⟨sp, rfl⟩⟩
set_option pp.deepTerms false
set_option pp.deepTerms.threshold 4
set_option maxHeartbeats 400000
theorem at_hit {os : OL} {id : Int} {pre : List (ObT × Nat)} {x : ObT × Nat} (h : pre ++ [x] <+: itm os) (hp : ∀ y, y ∈ pre → y.1.id ≠ id) (hx : x.1.id = id) : atI os id = (x.2 : Int) := by
  obtain ⟨h1, h2, h3⟩ := itm_pre h
  refine atI_some ?_
  unfold atO
  rw [List.findIdx?_eq_some_iff_getElem]
  obtain ⟨hl, he⟩ := List.getElem?_eq_some_iff.1 h1
  refine ⟨hl, by rw [he]; simpa using hx, fun j hj => ?_⟩
  have hjl : j < os.length := by omega
  have hm : (os[j], j) ∈ pre := by
    rw [h3]
    refine List.mem_of_getElem? (i := j) ?_
    rw [List.getElem?_take, if_pos (by omega), itm_get, List.getElem?_eq_getElem hjl]; rfl
  have := hp _ hm
  simpa using this
theorem at_miss {os : OL} {id : Int} (hp : ∀ y, y ∈ itm os → y.1.id ≠ id) : atI os id = -1 := by
  refine atI_none ?_
  unfold atO
  rw [List.findIdx?_eq_none_iff]
  intro o ho
  obtain ⟨k, hk⟩ := List.getElem?_of_mem ho
  have : (o, k) ∈ itm os := List.mem_of_getElem? (i := k) (by rw [itm_get, hk]; rfl)
  simpa using hp _ this
theorem at_any (b : Nat) (S : ArT) (lq : List Chunk) (hA : IsA b S lq) (id : Int) (l : List Chunk) (hsub : ∀ c, c ∈ lq → c ∈ l) :
    Fn Tryz.prog 135 [.pointer (some ⟨b, 0, none⟩), .int .i64 id] l fun v l' => v = .int .i64 (atI S.os id) ∧ l' = l := by
  have hlen := hA.ok.len
  obtain ⟨hok, v, cs, rfl, ho⟩ := hA
  obtain ⟨gb, hrow, hcs⟩ := rowV_of ho
  refine fn_of_body Tryz.func135 rfl rfl fun E => ?_
  simp only [argF, Tryz.ntmps135]
  refine gz ?_
  (first | refine t_e (e_box1 rfl rfl) rfl rfl rfl ?_ | refine t_e (e_boxA rfl) rfl rfl rfl ?_); rintro _ _ ⟨b3, _, rfl, rfl⟩
  refine gz ?_
  refine t_e e_alloc rfl rfl rfl ?_; rintro _ _ ⟨b4, _, rfl, rfl⟩
  refine gz ?_
  refine t_e (e_call0 rfl rfl (each_any _ rfl _)) rfl rfl rfl ?_
  rintro _ _ ⟨B, rfl, rfl⟩
  refine gz ?_
  refine c_range (α := ObT × Nat) (ps := [9, 10]) (lb := [.pointer (some ⟨B, 0, none⟩)]) rfl (each_iter B b S.n S.g v S.os gb hrow (by omega)) (fun _ => rfl) rfl
    (fun pre l => l = [xB B (some ⟨b, 0, none⟩), inC b4 0, inC b3 id] ∧ ∀ x, x ∈ pre → ¬ x.1.id = id)
    (fun c pre l => c = .ret ∧ ∃ (pre' : List (ObT × Nat)) (x : ObT × Nat), pre = pre' ++ [x] ∧ (∀ x, x ∈ pre' → ¬ x.1.id = id) ∧ x.1.id = id ∧ l = [inC b4 (x.2 : Nat)])
    _ l (fun pre l2 X2 hX h => ⟨by rw [h.1]; exact List.Mem.head _, List.mem_append_right _ (hX _ (hsub _ (.head _)))⟩) (by exact zKeep) ⟨rfl, by simp⟩ ?_ ?_ ?_
  · rintro E r0 rec pre ⟨o, k⟩ l' T ⟨fn, tmps, D, rfl⟩ hT ⟨rfl, hpre⟩ hsp
    obtain ⟨ho1, _, _⟩ := itm_pre hsp
    simp only at ho1
    obtain ⟨sp, rfl⟩ := hcs _ _ ho1
    have hmT := hT _ (hsub _ (.tail _ (.head _)))
    have c0 : (List.toArray (ocs S.os ++ sp))[k * 9]? = some (.int .i64 o.id) := ocs_at ho1 sp 0 (by omega)
    simp only [putPs, List.cons_append, List.nil_append]
    refine gz ?_
    refine p_begin (by exact zUpd) ?_
    refine gz ?_
    refine c_draw [(0, true), (1, true), (2, true), (3, true), (4, true), (5, true)] [[], [0], [0, 1], [0, 1, 2], [], [0, 1, 2, 3, 4]] _ (by kernel_rfl) (by kernel_rfl) zAtt (fun _ h => h) ?_
    refine pz ?_
    by_cases hy : o.id = id
    · refine gz ?_
      refine p_round_ret [inC b4 (k : Nat)] (by exact zKeep) ⟨rfl, pre, (o, k), rfl, hpre, hy, rfl⟩
    · refine gz ?_
      refine p_round _ .refl ⟨rfl, fun x hx => ?_⟩
      rcases List.mem_append.1 hx with hx | hx
      · exact hpre x hx
      · rw [List.mem_singleton.1 hx]; exact hy
  · rintro D xs l' rfl ⟨rfl, hpre⟩
    rw [at_miss hpre]
    simp only [List.cons_append, List.nil_append]
    refine gz ?_
    exact k_ret2 [D] (inC b4 (-1) :: l) rfl (l' := l) (by exact zKeep) (by exact zRes) (.drop .refl) ⟨rfl, rfl⟩
  · rintro D c pre l' hsp ⟨rfl, pre', x, rfl, hp', ht, rfl⟩
    rw [at_hit hsp hp' ht]
    simp only [List.cons_append, List.nil_append]
    refine gz ?_
    exact k_ret2 [D] (inC b4 (x.2 : Nat) :: l) rfl (l' := l) (by exact zKeep) (by exact zRes) (.drop .refl) ⟨rfl, rfl⟩
theorem at_nil (id : Int) (l : List Chunk) : Fn Tryz.prog 135 [.pointer none, .int .i64 id] l fun v l' => v = .int .i64 (-1) ∧ l' = l := by
  refine fn_of_body Tryz.func135 rfl rfl fun E => ?_
  simp only [argF, Tryz.ntmps135]
  refine gz ?_
  (first | refine t_e (e_box1 rfl rfl) rfl rfl rfl ?_ | refine t_e (e_boxA rfl) rfl rfl rfl ?_); rintro _ _ ⟨b3, _, rfl, rfl⟩
  refine gz ?_
  refine t_e e_alloc rfl rfl rfl ?_; rintro _ _ ⟨b4, _, rfl, rfl⟩
  refine gz ?_
  refine t_e (e_call0 rfl rfl (each_any _ rfl _)) rfl rfl rfl ?_
  rintro _ _ ⟨B, rfl, rfl⟩
  refine gz ?_
  refine c_range (α := ObT × Nat) (ps := [9, 10]) (lb := [.pointer (some ⟨B, 0, none⟩)]) rfl (each_nil B) (fun _ => rfl) rfl
    (fun pre l => l = [xB B none, inC b4 0, inC b3 id])
    (fun c pre l => False)
    _ l (fun pre l2 X2 hX h => by rw [h]; exact List.Mem.head _) (by exact zKeep) rfl ?_ ?_ ?_
  · rintro E r0 rec pre ⟨o, k⟩ l' T ⟨fn, tmps, D, rfl⟩ hT rfl hsp
    exact hsp.elim
  · rintro D xs l' rfl rfl
    simp only [List.cons_append, List.nil_append]
    refine gz ?_
    exact k_ret2 [D] (inC b4 (-1) :: l) rfl (l' := l) (by exact zKeep) (by exact zRes) (.drop .refl) ⟨rfl, rfl⟩
  · rintro D c pre l' hsp h
    exact h.elim
def getD' (S : ArT) (id : Int) : ObT × Bool := match atO S.os id with
  | some k => (S.os.getD k obO, true)
  | none => (obO, false)
theorem get_any (b : Nat) (S : ArT) (lq : List Chunk) (hA : IsA b S lq) (id : Int) (l : List Chunk) (hsub : ∀ c, c ∈ lq → c ∈ l) :
    Fn Tryz.prog 63 [.pointer (some ⟨b, 0, none⟩), .int .i64 id] l fun v l' => v = .tuple #[.agg (List.toArray (obC (getD' S id).1)), .bool (getD' S id).2] ∧ l' = l := by
  have hA' := hA
  have hlen := hA.ok.len
  obtain ⟨hok, v, cs, rfl, ho⟩ := hA
  have hm := hsub _ (.head _)
  have cl := arL_l S.n S.g v
  refine fn_of_body Tryz.func63 rfl rfl fun E => ?_
  simp only [argF, Tryz.ntmps63]
  refine gz ?_
  refine t_e e_alloc rfl rfl rfl ?_; rintro _ _ ⟨b4, _, rfl, rfl⟩
  refine gz ?_
  refine t_q (q_call rfl rfl fun l2 hl => at_any b S _ hA' id l2 (fun c hc => hl _ (.tail _ (hsub _ hc)))) rfl rfl rfl ?_
  cases hk : atO S.os id with
  | none =>
    rw [atI_none hk]
    refine gz ?_
    exact k_ret2 [] (obK b4 obO :: l) rfl (l' := l) .refl (by exact zRes) (.drop .refl) ⟨by unfold getD'; rw [hk]; rfl, rfl⟩
  | some k =>
    rw [atI_some hk]
    obtain ⟨o, ho1, _⟩ := atO_some hk
    have hkl := (List.getElem?_eq_some_iff.1 ho1).1
    rcases ho.2 with ⟨_, h0, _⟩ | ⟨gb, cap, sp, rfl, rfl, _⟩
    · omega
    obtain ⟨x1, x2⟩ := ocs_ext ho1 sp
    have hm2 := hsub _ (.tail _ (.head _))
    refine gz ?_
    refine t_q (q_loadA rfl (List.Mem.tail _ hm2) x1 x2) rfl rfl rfl ?_
    refine gz ?_
    refine k_ret2 [] (obK b4 o :: l) rfl (l' := l) .refl (by exact zRes) (.drop .refl) ⟨?_, rfl⟩
    unfold getD'
    rw [hk]
    simp only [List.getD, ho1, Option.getD_some, tup]
theorem get_nil (id : Int) (l : List Chunk) : Fn Tryz.prog 63 [.pointer none, .int .i64 id] l fun v l' => v = .tuple #[.agg (List.toArray (obC obO)), .bool false] ∧ l' = l := by
  refine fn_of_body Tryz.func63 rfl rfl fun E => ?_
  simp only [argF, Tryz.ntmps63]
  refine gz ?_
  refine t_e e_alloc rfl rfl rfl ?_; rintro _ _ ⟨b4, _, rfl, rfl⟩
  refine gz ?_
  refine t_q (q_call rfl rfl fun l2 hl => at_nil id l2) rfl rfl rfl ?_
  refine gz ?_
  exact k_ret2 [] (obK b4 obO :: l) rfl (l' := l) .refl (by exact zRes) (.drop .refl) ⟨rfl, rfl⟩
theorem ocs_snoc (pre : OL) (y : ObT) : ocs (pre ++ [y]) = ocs pre ++ obC y := by rw [ocs_app]; show _ ++ (obC y ++ []) = _; rw [List.append_nil]
end Go.Proofs.YtcjknmpogkofpaaGreat.Ar

/- Arena: Add. -/
-- GU
set_option linter.unusedVariables false
set_option linter.unusedSimpArgs false
namespace Go.Proofs.YtcjknmpogkofpaaGreat.Ar
open Go.RowKit
set_option maxRecDepth 20000
set_option maxRecDepth 20000

def insD (os : OL) (o : ObT) : OL := os.takeWhile (fun x => decide (x.id ≤ o.id)) ++ o :: os.dropWhile (fun x => decide (x.id ≤ o.id))
def newO (S : ArT) (kd sz fi : Int) : ObT := ⟨nextD S fi, kd, sz, fi, framesD kd sz, 0, 0, 0, 0⟩
def addE (S : ArT) (kd sz fi : Int) : Int :=
  if framesD kd sz = 0 then 2 else if fi < 0 ∨ fi > S.n - framesD kd sz then 3
  else if (S.os.all fun o => apartD kd fi (framesD kd sz) o) = false then 16 else if nextD S fi = 0 then 11 else 0
def addD (S : ArT) (kd sz fi : Int) : (Int × Int) × ArT :=
  if addE S kd sz fi = 0 then ((nextD S fi, 0), { S with g := upd S.g fi.toNat (S.g fi.toNat + 1), os := insD S.os (newO S kd sz fi) }) else ((0, addE S kd sz fi), S)
theorem frames_rng (k s : Int) : 0 ≤ framesD k s ∧ framesD k s ≤ 64 := by
  unfold framesD
  repeat' split
  all_goals omega
theorem ins_at {os : OL} {o : ObT} {k : Nat} (hk : k ≤ os.length) (h1 : ∀ x ∈ os.take k, x.id ≤ o.id) (h2 : ∀ x ∈ os.drop k, ¬ x.id ≤ o.id) : insD os o = os.take k ++ o :: os.drop k := by
  have e : os = os.take k ++ os.drop k := (List.take_append_drop ..).symm
  have t1 : os.takeWhile (fun x => decide (x.id ≤ o.id)) = os.take k := by
    conv => lhs; rw [e]
    rw [List.takeWhile_append_of_pos fun x hx => by simpa using h1 x hx]
    cases hd : os.drop k with
    | nil => simp
    | cons y r =>
      rw [List.takeWhile_cons_of_neg, List.append_nil]
      simpa using h2 y (by rw [hd]; exact .head _)
  have t2 : os.dropWhile (fun x => decide (x.id ≤ o.id)) = os.drop k := by
    conv => lhs; rw [e]
    rw [List.dropWhile_append_of_pos fun x hx => by simpa using h1 x hx]
    cases hd : os.drop k with
    | nil => simp
    | cons y r =>
      rw [List.dropWhile_cons_of_neg]
      simpa using h2 y (by rw [hd]; exact .head _)
  unfold insD
  rw [t1, t2]
theorem asc_get {os : OL} (h : os.Pairwise fun x y => x.id < y.id) {i j : Nat} {x y : ObT} (hx : os[i]? = some x) (hy : os[j]? = some y) (hij : i < j) : x.id < y.id := by
  obtain ⟨h1, rfl⟩ := List.getElem?_eq_some_iff.1 hx
  obtain ⟨h2, rfl⟩ := List.getElem?_eq_some_iff.1 hy
  exact List.pairwise_iff_getElem.1 h i j h1 h2 hij
theorem ins_mem {os : OL} {o x : ObT} : x ∈ insD os o ↔ x = o ∨ x ∈ os := by
  unfold insD
  have e := List.takeWhile_append_dropWhile (p := fun x : ObT => decide (x.id ≤ o.id)) (l := os)
  conv => rhs; rw [← e]
  simp only [List.mem_append, List.mem_cons]
  constructor
  · rintro (h | h | h)
    · exact .inr (.inl h)
    · exact .inl h
    · exact .inr (.inr h)
  · rintro (h | h | h)
    · exact .inr (.inl h)
    · exact .inl h
    · exact .inr (.inr h)
theorem ins_len (os : OL) (o : ObT) : (insD os o).length = os.length + 1 := by
  unfold insD
  have e := congrArg List.length (List.takeWhile_append_dropWhile (p := fun x : ObT => decide (x.id ≤ o.id)) (l := os))
  rw [List.length_append] at e
  rw [List.length_append, List.length_cons]; omega
theorem dropW_gt {os : OL} (h : os.Pairwise fun x y => x.id < y.id) (a : Int) : ∀ x ∈ os.dropWhile (fun x => decide (x.id ≤ a)), a < x.id := by
  induction os with
  | nil => intro x hx; cases hx
  | cons y r ih =>
    obtain ⟨h1, h2⟩ := List.pairwise_cons.1 h
    intro x hx
    by_cases hy : y.id ≤ a
    · rw [List.dropWhile_cons_of_pos (by simpa using hy)] at hx
      exact ih h2 x hx
    · rw [List.dropWhile_cons_of_neg (by simpa using hy)] at hx
      rcases List.mem_cons.1 hx with rfl | hx
      · omega
      · have := h1 x hx; omega
theorem takeW_le {os : OL} (a : Int) : ∀ x ∈ os.takeWhile (fun x => decide (x.id ≤ a)), x.id ≤ a := by
  induction os with
  | nil => intro x hx; cases hx
  | cons y r ih =>
    intro x hx
    by_cases hy : y.id ≤ a
    · rw [List.takeWhile_cons_of_pos (by simpa using hy)] at hx
      rcases List.mem_cons.1 hx with rfl | hx
      · exact hy
      · exact ih x hx
    · rw [List.takeWhile_cons_of_neg (by simpa using hy)] at hx; cases hx
theorem ins_asc {os : OL} {o : ObT} (h : os.Pairwise fun x y => x.id < y.id) (hne : ∀ x ∈ os, x.id ≠ o.id) : (insD os o).Pairwise fun x y => x.id < y.id := by
  unfold insD
  have hT := (List.takeWhile_sublist (l := os) fun x : ObT => decide (x.id ≤ o.id))
  have hD := (List.dropWhile_sublist (l := os) fun x : ObT => decide (x.id ≤ o.id))
  refine List.pairwise_append.2 ⟨h.sublist hT, List.pairwise_cons.2 ⟨fun x hx => dropW_gt h o.id x hx, h.sublist hD⟩, fun x hx y hy => ?_⟩
  have h1 := takeW_le o.id x hx
  have h2 := hne x (hT.subset hx)
  rcases List.mem_cons.1 hy with rfl | hy
  · omega
  · have := dropW_gt h o.id y hy; omega
theorem next_pos {S : ArT} (hS : S.Ok) {f : Int} (h : nextD S f ≠ 0) : 0 ≤ f ∧ f < S.n ∧ nextD S f = f + 1 + 64 * S.g f.toNat ∧ nextD S f ≤ 65535 ∧ 1 ≤ nextD S f := by
  unfold nextD at *
  have := hS.g1 f.toNat
  split at h
  · exact absurd rfl h
  split at h
  · exact absurd rfl h
  split at h
  · exact absurd rfl h
  rename_i h1 h2 h3
  rw [if_neg h1, if_neg h2, if_neg h3]
  refine ⟨by omega, by omega, rfl, by omega, by omega⟩
theorem next_new {S : ArT} (hS : S.Ok) {f : Int} (h : nextD S f ≠ 0) : ∀ x ∈ S.os, x.id ≠ nextD S f := by
  intro x hx he
  obtain ⟨f0, f1, f2, _⟩ := next_pos hS h
  obtain ⟨a0, a1, c, c0, c1, c2⟩ := hS.num x hx
  have := hS.n2
  have e : x.fi = f := by omega
  subst e
  omega
theorem addE_zero {S : ArT} {kd sz fi : Int} (h : addE S kd sz fi = 0) : framesD kd sz ≠ 0 ∧ 0 ≤ fi ∧ fi ≤ S.n - framesD kd sz ∧ (S.os.all fun o => apartD kd fi (framesD kd sz) o) = true ∧ nextD S fi ≠ 0 := by
  unfold addE at h
  split at h
  · omega
  split at h
  · omega
  split at h
  · omega
  split at h
  · omega
  rename_i h1 h2 h3 h4
  exact ⟨h1, by omega, by omega, by simpa using h3, h4⟩
theorem add_ok {S : ArT} (hS : S.Ok) (kd sz fi : Int) : (addD S kd sz fi).2.Ok := by
  unfold addD
  split
  · rename_i h
    obtain ⟨h1, h2, h3, h4, h5⟩ := addE_zero h
    obtain ⟨f0, f1, f2, f3, f4⟩ := next_pos hS h5
    have hg := hS.g1 fi.toNat
    refine ⟨hS.n1, hS.n2, fun j => ?_, ins_asc hS.asc (next_new hS h5), fun x hx => ?_, fun x hx => ?_⟩
    · show 0 ≤ upd S.g fi.toNat (S.g fi.toNat + 1) j ∧ upd S.g fi.toNat (S.g fi.toNat + 1) j ≤ 1024
      by_cases e : j = fi.toNat
      · subst e; rw [upd_same]; omega
      · rw [upd_other _ _ _ _ e]; exact hS.g1 j
    · rcases ins_mem.1 hx with rfl | hx
      · exact ⟨f4, f3⟩
      · exact hS.rng x hx
    · show 0 ≤ x.fi ∧ x.fi < S.n ∧ ∃ c : Int, 0 ≤ c ∧ c < upd S.g fi.toNat (S.g fi.toNat + 1) x.fi.toNat ∧ _
      rcases ins_mem.1 hx with rfl | hx
      · exact ⟨f0, f1, S.g fi.toNat, hg.1, by rw [show (newO S kd sz fi).fi.toNat = fi.toNat from rfl, upd_same]; omega, f2⟩
      · obtain ⟨a0, a1, c, c0, c1, c2⟩ := hS.num x hx
        refine ⟨a0, a1, c, c0, ?_, c2⟩
        by_cases e : x.fi.toNat = fi.toNat
        · rw [e, upd_same]; rw [e] at c1; omega
        · rw [upd_other _ _ _ _ e]; exact c1
  · exact hS
end Go.Proofs.YtcjknmpogkofpaaGreat.Ar

/- Arena: Add, the walk. -/
-- GU
set_option linter.unusedVariables false
set_option linter.unusedSimpArgs false
namespace Go.Proofs.YtcjknmpogkofpaaGreat.Ar
open Go.RowKit
set_option maxRecDepth 20000
set_option maxRecDepth 20000

abbrev erC (B : Nat) (x : Int) : Chunk := (B, .cells #[.int .i64 x] 26 (0, 0))
theorem add_e {S : ArT} {kd sz fi e : Int} (h : addE S kd sz fi = e) (h0 : e ≠ 0) : addD S kd sz fi = ((0, e), S) := by unfold addD; rw [h, if_neg h0]
theorem add_0 {S : ArT} {kd sz fi : Int} (h : addE S kd sz fi = 0) : addD S kd sz fi = ((nextD S fi, 0), { S with g := upd S.g fi.toNat (S.g fi.toNat + 1), os := insD S.os (newO S kd sz fi) }) := by unfold addD; rw [h, if_pos rfl]
theorem all_itm {os : OL} {p : ObT → Bool} (h : ∀ x, x ∈ itm os → p x.1 = true) : (os.all p) = true := by
  rw [List.all_eq_true]
  intro o ho
  obtain ⟨k, hk⟩ := List.getElem?_of_mem ho
  exact h (o, k) (List.mem_of_getElem? (i := k) (by rw [itm_get, hk]; rfl))
theorem all_not {os : OL} {p : ObT → Bool} {o : ObT} (ho : o ∈ os) (h : p o = false) : (os.all p) = false := by
  cases e : os.all p with
  | false => rfl
  | true => rw [List.all_eq_true] at e; rw [e o ho] at h; cases h
theorem ocs_cut {os : OL} {k : Nat} (hk : k ≤ os.length) : (ocs os).take (k * 9) = ocs (os.take k) ∧ (ocs os).drop (k * 9) = ocs (os.drop k) := by
  have e : ocs os = ocs (os.take k) ++ ocs (os.drop k) := by rw [← ocs_app, List.take_append_drop]
  have hl : (ocs (os.take k)).length = k * 9 := by rw [ocs_l, List.length_take]; omega
  exact ⟨by rw [e, List.take_left' hl], by rw [e, List.drop_left' hl]⟩
theorem Keep.appL (X : List Chunk) {A B : List Chunk} (h : Keep A B) : Keep (X ++ A) (X ++ B) := by
  obtain ⟨r, p⟩ := h
  exact ⟨r, (List.Perm.append_left X p).trans (List.perm_append_comm_assoc X r B)⟩
theorem insert_mid (X : List Chunk) (v : Value) (n i bl : Nat) (xs ws : List Value) (cs F : List Chunk) (ho : OwnSl 68 9 v n xs cs) (hi : i ≤ n) (hw : ws.length = 9) (h1 : ∀ u ∈ ws, u.oneCell' = true) (hx1 : ∀ u ∈ xs, u.oneCell' = true) (hne : ∀ c, c ∈ cs → c.1 ≠ bl) (hn : n ≤ 90000) :
    Fn Tryz.prog 141 [v, .int .i64 (i : Nat), .slice (some ⟨bl, 0, none⟩) 1 1] ((bl, .cells (List.toArray ws) 68 (0, 0)) :: (X ++ (cs ++ F))) fun v' l' => ∃ c2, OwnSl 68 9 v' (n + 1) (xs.take (i * 9) ++ ws ++ xs.drop (i * 9)) c2 ∧ l' = X ++ (c2 ++ F) :=
  Fn.re (Keep.appL [_] (Keep.in_mid X cs F)) (insert_any v n i bl xs ws cs (X ++ F) ho hi hw h1 hx1 hne hn) fun v' l' ⟨c2, h2, e⟩ => ⟨X ++ (c2 ++ F), by rw [e]; exact Keep.in_mid c2 X F, c2, h2, rfl⟩
theorem drop_le {os : OL} {k : Nat} {I : Int} (h : os.Pairwise fun x y => x.id < y.id) (hk : k ≤ os.length) (hn : ¬ ∃ o, 0 < k ∧ os[k - 1]? = some o ∧ o.id > I) : ∀ x ∈ os.take k, x.id ≤ I := by
  intro x hx
  obtain ⟨j, hj⟩ := List.getElem?_of_mem hx
  rw [List.getElem?_take] at hj
  split at hj
  · rename_i hjk
    obtain ⟨o, ho⟩ : ∃ o, os[k - 1]? = some o := ⟨_, List.getElem?_eq_getElem (by omega)⟩
    have h1 : o.id ≤ I := by
      by_cases h : o.id > I
      · exact absurd ⟨o, by omega, ho, h⟩ hn
      · omega
    by_cases e : j = k - 1
    · subst e; rw [ho] at hj; cases hj; exact h1
    · have := asc_get h hj ho (by omega); omega
  · cases hj
set_option pp.deepTerms false
set_option pp.deepTerms.threshold 4
set_option maxHeartbeats 400000
theorem add_any (b : Nat) (S : ArT) (lq : List Chunk) (hA : IsA b S lq) (kd sz fi : Int) (F : List Chunk) :
    Fn Tryz.prog 76 [.pointer (some ⟨b, 0, none⟩), .int .i64 kd, .int .i64 sz, .int .i64 fi] (lq ++ F) fun v l' => v = .tuple #[.int .i64 (addD S kd sz fi).1.1, .int .i64 (addD S kd sz fi).1.2] ∧ ∃ lq', IsA b (addD S kd sz fi).2 lq' ∧ l' = lq' ++ F := by
  have hA' := hA
  have hlen := hA.ok.len
  obtain ⟨hok, v, cs, rfl, ho⟩ := hA
  have hn1 := hok.n1
  have hn2 := hok.n2
  obtain ⟨gb, hrow, hcs⟩ := rowV_of ho
  have c0 := arL_n S.n S.g v
  have hm : arC b S.n S.g v ∈ arC b S.n S.g v :: cs ++ F := .head _
  obtain ⟨L, hL⟩ : ∃ L, arC b S.n S.g v :: cs ++ F = L := ⟨_, rfl⟩
  have hsub : ∀ c, c ∈ arC b S.n S.g v :: cs → c ∈ L := fun c hc => by rw [← hL]; exact List.mem_append_left _ hc
  rw [hL] at hm ⊢
  obtain ⟨N, hN⟩ : ∃ N, framesD kd sz = N := ⟨_, rfl⟩
  have hNr := frames_rng kd sz
  rw [hN] at hNr
  refine fn_of_body Tryz.func76 rfl rfl fun E => ?_
  simp only [argF, Tryz.ntmps76]
  refine gzU ?_
  (first | refine t_e (e_box1 rfl rfl) rfl rfl rfl ?_ | refine t_e (e_boxA rfl) rfl rfl rfl ?_); rintro _ _ ⟨b5, _, rfl, rfl⟩
  refine gzU ?_
  (first | refine t_e (e_box1 rfl rfl) rfl rfl rfl ?_ | refine t_e (e_boxA rfl) rfl rfl rfl ?_); rintro _ _ ⟨b7, _, rfl, rfl⟩
  refine gzU ?_
  refine t_e e_alloc rfl rfl rfl ?_; rintro _ _ ⟨b8, _, rfl, rfl⟩
  refine gzU ?_
  refine t_e e_alloc rfl rfl rfl ?_; rintro _ _ ⟨b9, _, rfl, rfl⟩
  refine gzU ?_
  refine t_q (q_call rfl rfl fun l2 _ => frames_any kd sz l2) rfl rfl rfl ?_
  rw [hN]
  refine gzU ?_
  refine t_e e_alloc rfl rfl rfl ?_; rintro _ _ ⟨b10, _, rfl, rfl⟩
  refine gzU ?_
  by_cases h1 : N = 0
  · refine gzU ?_
    have e := add_e (S := S) (fi := fi) (show addE S kd sz fi = 2 by unfold addE; rw [hN, if_pos h1]) (by decide)
    refine k_ret2 [] (inC b10 N :: erC b9 2 :: inC b8 0 :: inC b7 fi :: inC b5 kd :: L) rfl (l' := L) .refl (by exact zRes) (.drop (.drop (.drop (.drop (.drop .refl))))) ⟨by rw [e]; rfl, _, by rw [e]; exact hA', hL.symm⟩
  refine gzU ?_
  refine c_draw [(0, true), (1, true), (2, true), (3, true), (4, true), (5, true), (6, true), (7, true), (8, true), (9, true), (10, true), (11, true), (12, true)] [[], [0], [0, 1], [0, 1, 2], [0, 1, 2], [0, 1, 2, 4], [0, 1, 2, 4, 5], [0, 1, 2, 4, 5, 6], [0, 1, 2], [0, 1, 2, 4, 5, 6, 7, 8], [0, 1, 2, 3, 4, 5, 6, 7, 8, 9], [0, 1, 2, 3, 4, 5, 6, 7, 8, 9, 10], [0, 1, 2, 3, 4, 5, 6, 7, 8, 9, 10, 11]] _ (by kernel_rfl) (by kernel_rfl) zAtt (fun _ h => h) ?_
  by_cases h2 : fi < 0
  · refine pzU ?_
    refine gzU ?_
    have e := add_e (show addE S kd sz fi = 3 by unfold addE; rw [hN, if_neg h1, if_pos (.inl h2)]) (by decide)
    refine k_ret2 [] (inC b10 N :: erC b9 3 :: inC b8 0 :: inC b7 fi :: inC b5 kd :: L) rfl (l' := L) .refl (by exact zRes) (.drop (.drop (.drop (.drop (.drop .refl))))) ⟨by rw [e]; rfl, _, by rw [e]; exact hA', hL.symm⟩
  by_cases h3 : fi > S.n - N
  · refine pzU ?_
    refine gzU ?_
    have e := add_e (show addE S kd sz fi = 3 by unfold addE; rw [hN, if_neg h1, if_pos (.inr h3)]) (by decide)
    refine k_ret2 [] (inC b10 N :: erC b9 3 :: inC b8 0 :: inC b7 fi :: inC b5 kd :: L) rfl (l' := L) .refl (by exact zRes) (.drop (.drop (.drop (.drop (.drop .refl))))) ⟨by rw [e]; rfl, _, by rw [e]; exact hA', hL.symm⟩
  refine pzU ?_
  refine gzU ?_
  refine t_e (e_call0 rfl rfl (each_any _ rfl _)) rfl rfl rfl ?_
  rintro _ _ ⟨B, rfl, rfl⟩
  refine gzU ?_
  refine c_range (α := ObT × Nat) (ps := [38, 39]) (lb := [.pointer (some ⟨B, 0, none⟩)]) rfl (each_iter B b S.n S.g v S.os gb hrow (by omega)) (fun _ => rfl) rfl
    (fun pre l => l = [xB B (some ⟨b, 0, none⟩), inC b10 N, erC b9 0, inC b8 0, inC b7 fi, inC b5 kd] ∧ ∀ x, x ∈ pre → apartD kd fi N x.1 = true)
    (fun c pre l => c = .ret ∧ ∃ (pre' : List (ObT × Nat)) (x : ObT × Nat), pre = pre' ++ [x] ∧ apartD kd fi N x.1 = false ∧ l = [erC b9 16, inC b8 0])
    _ L (fun pre l2 X2 hX h => ⟨by rw [h.1]; exact List.Mem.head _, List.mem_append_right _ (hX _ (hsub _ (.head _)))⟩) (by exact zKeep) ⟨rfl, by simp⟩ ?_ ?_ ?_
  · rintro E r0 rec pre ⟨o, k⟩ l' T ⟨fn, tmps, D, rfl⟩ hT ⟨rfl, hpre⟩ hsp
    obtain ⟨ho1, _, _⟩ := itm_pre hsp
    simp only at ho1
    obtain ⟨sp, hcse⟩ := hcs _ _ ho1
    have hmT := hT _ (hsub _ (.tail _ (by rw [hcse]; exact .head _)))
    simp only [putPs, List.cons_append, List.nil_append]
    refine gzU ?_
    refine p_begin (by exact zUpd) ?_
    refine gzU ?_
    refine t_q (q_call rfl rfl fun l2 hl => apart_any kd fi N o gb (k * 9) _ _ _ l2 (hl _ (.tail _ (.tail _ (.tail _ (.tail _ (.tail _ (.tail _ (.tail _ hmT)))))))) (ocs_at ho1 sp)) rfl rfl rfl ?_
    cases hap : apartD kd fi N o with
    | false =>
      refine gzU ?_
      refine p_round_ret [erC b9 16, inC b8 0] (by exact zKeep) ⟨rfl, pre, (o, k), rfl, hap, rfl⟩
    | true =>
      refine gzU ?_
      refine p_round _ .refl ⟨rfl, fun x hx => ?_⟩
      rcases List.mem_append.1 hx with hx | hx
      · exact hpre x hx
      · rw [List.mem_singleton.1 hx]; exact hap
  · rintro D xs l' rfl ⟨rfl, hpre⟩
    simp only [List.cons_append, List.nil_append]
    refine gzU ?_
    refine t_q (q_call rfl rfl fun l2 hl => next_any b S _ hA' fi l2 (fun c hc => hl _ (.tail _ (.tail _ (.tail _ (.tail _ (.tail _ (.tail _ (.tail _ (hsub c hc))))))))) ) rfl rfl rfl ?_
    have hall := all_itm (p := fun o => apartD kd fi N o) hpre
    by_cases h4 : nextD S fi = 0
    · rw [h4]
      refine gzU ?_
      have e := add_e (show addE S kd sz fi = 11 by unfold addE; rw [hN, if_neg h1, if_neg (by omega), if_neg (by rw [hall]; decide), if_pos h4]) (by decide)
      exact k_ret2 [D] (inC b10 N :: erC b9 11 :: inC b8 0 :: inC b7 fi :: inC b5 kd :: L) rfl (l' := L) (by exact zKeep) (by exact zRes) (.drop (.drop (.drop (.drop (.drop .refl))))) ⟨by rw [e]; rfl, _, by rw [e]; exact hA', hL.symm⟩
    have hE : addE S kd sz fi = 0 := by unfold addE; rw [hN, if_neg h1, if_neg (by omega), if_neg (by rw [hall]; decide), if_neg h4]
    obtain ⟨f0, f1, f2, f3, f4⟩ := next_pos hok h4
    obtain ⟨I, hI⟩ : ∃ I, nextD S fi = I := ⟨_, rfl⟩
    rw [hI] at f2 f3 f4 h4 ⊢
    obtain ⟨j, rfl⟩ : ∃ j : Nat, fi = j := ⟨fi.toNat, by omega⟩
    have hj : j < 64 := by omega
    rw [Int.toNat_natCast] at f2
    have cg := arL_g S.n S.g v hj
    have hg := hok.g1 j
    have hOk := add_ok hok kd sz j
    rw [add_0 hE] at hOk ⊢
    rw [hI, Int.toNat_natCast] at hOk ⊢
    rw [← hL]
    obtain ⟨p, cap, rfl, hp⟩ : ∃ p cap, v = .slice p S.os.length cap ∧ (0 < S.os.length → p = some ⟨gb, 0, none⟩) := by
      rcases hrow with ⟨h, h0⟩ | ⟨cap, h⟩
      · exact ⟨none, 0, by rw [h, h0], fun h => by omega⟩
      · exact ⟨_, cap, h, fun _ => rfl⟩
    clear hsub hm hL hA'
    refine gzU ?_
    refine c_draw [(0, true), (1, true), (2, true), (3, true), (4, true), (5, true), (6, true), (7, true), (8, true), (9, true), (10, false)] [[], [], [0], [0, 2], [0, 1, 2, 3], [0, 1, 2, 3, 4], [0, 1, 2, 3, 4, 5], [0], [0, 7], [0, 1, 2, 3, 4, 5, 6, 7, 8], [0, 1, 2, 3, 4, 5, 6, 7, 8, 9]] ([]) (by kernel_rfl) (by kernel_rfl) zAtt zHR ?_
    refine pzU ?_
    apply pl_s (S := [inC b7 (j : Nat)]); (· exact zLd); (· exact sing_mem (.tail _ (.tail _ (.tail _ (.tail _ (.tail _ (.head _))))))); (· rfl); (· rfl); (· rfl)
    refine pzU ?_
    apply pl_s (S := [arC b S.n S.g (.slice p S.os.length cap)])
    · exact q_load rfl (.head _) cg
    · exact sing_mem (.tail _ (.tail _ (.tail _ (.tail _ (.tail _ (.tail _ (.tail _ (.head _))))))))
    · rfl
    · rfl
    · rfl
    refine pzU ?_
    apply pl_nS
    · exact e_store (b := b) (off := 1 + j * 1) (cs := List.toArray (arL S.n S.g (.slice p S.os.length cap))) rfl rfl rfl (by rw [arL_setG _ _ _ hj]; exact zUpd) (by rw [List.size_toArray, arL_len]; omega)
    (· rfl); (· rfl); (· intro _ _ _ c hc; cases hc); (· exact fun _ _ _ x hx ha => anc_all (by kernel_rfl) hx ha)
    rintro _ _ ⟨rfl, rfl⟩
    obtain ⟨g', hg'⟩ : ∃ g', upd S.g j (S.g j + 1) = g' := ⟨_, rfl⟩
    rw [hg'] at hOk ⊢
    have cl := arL_l S.n g' (.slice p S.os.length cap)
    refine pzU ?_
    refine gzU ?_
    refine k_loop (α := Nat) (fun k => [(0, .pointer (some ⟨b, 0, none⟩)), (2, .int .i64 sz), (5, .pointer (some ⟨b5, 0, none⟩)), (7, .pointer (some ⟨b7, 0, none⟩)), (8, .pointer (some ⟨b8, 0, none⟩)), (9, .pointer (some ⟨b9, 0, none⟩)), (10, .pointer (some ⟨b10, 0, none⟩)), (13, .int .i64 I), (14, .int .i64 k)])
      (fun k => markC D :: xB B (some ⟨b, 0, none⟩) :: inC b10 N :: erC b9 0 :: inC b8 0 :: inC b7 (j : Nat) :: inC b5 kd :: arC b S.n g' (.slice p S.os.length cap) :: (cs ++ F)) (fun k => k ≤ S.os.length ∧ ∀ x ∈ S.os.drop k, ¬ x.id ≤ I) (fun k => k) S.os.length ⟨Nat.le_refl _, by simp⟩ ⟨rfl, rfl, rfl, rfl, rfl, rfl, rfl, rfl, rfl, trivial⟩ .refl ?_
    rintro k ⟨hk, hd⟩
    by_cases hnx : ∃ o, 0 < k ∧ S.os[k - 1]? = some o ∧ o.id > I
    · obtain ⟨o, hk0, ho1, hoI⟩ := hnx
      obtain ⟨k, rfl⟩ : ∃ q, k = q + 1 := ⟨k - 1, by omega⟩
      rw [Nat.add_sub_cancel] at ho1
      obtain ⟨sp, hcse⟩ := hcs _ _ ho1
      have hpp := hp (by omega)
      have co : (List.toArray (ocs S.os ++ sp))[k * 9]? = some (.int .i64 o.id) := ocs_at ho1 sp 0 (by omega)
      rw [hpp] at cl ⊢
      refine gzU ?_
      refine t_gq (q_load (v := .int .i64 o.id) (cs := List.toArray (ocs S.os ++ sp)) rfl (.tail _ (.tail _ (.tail _ (.tail _ (.tail _ (.tail _ (.tail _ (.tail _ (List.mem_append_left _ (by rw [hcse]; exact .head _)))))))))) ?_) rfl rfl rfl rfl rfl rfl ?_
      · rw [show ((((k + 1 : Nat)) : Int) - 1).toNat = k by omega, Nat.zero_add]; exact co
      refine gzU ?_
      rw [show (((k + 1 : Nat)) : Int) - 1 = (k : Nat) by omega, ← hpp]
      refine k_next k ⟨by omega, fun x hx => ?_⟩ (by omega) ⟨rfl, rfl, rfl, rfl, rfl, rfl, rfl, rfl, rfl, trivial⟩ .refl
      rw [List.drop_eq_getElem_cons (by omega)] at hx
      rcases List.mem_cons.1 hx with rfl | hx
      · rw [(List.getElem?_eq_some_iff.1 ho1).2]; omega
      · exact hd x hx
    · have hT := drop_le hok.asc hk hnx
      have hins := ins_at (o := newO S kd sz j) hk (fun x hx => by show x.id ≤ nextD S j; rw [hI]; exact hT x hx) (fun x hx => by show ¬ x.id ≤ nextD S j; rw [hI]; exact hd x hx)
      have hnewO : newO S kd sz j = ⟨I, kd, sz, j, N, 0, 0, 0, 0⟩ := by unfold newO; rw [hI, hN]
      rw [hnewO] at hins hOk ⊢
      obtain ⟨ob, hob⟩ : ∃ ob : ObT, ob = ⟨I, kd, sz, j, N, 0, 0, 0, 0⟩ := ⟨_, rfl⟩
      have hobC : obC ob = [.int .i64 I, .int .i64 kd, .int .i64 sz, .int .i64 j, .int .i64 N, .int .i64 0, .int .i64 0, .int .i64 0, .int .i64 0] := by rw [hob]
      rw [← hob] at hins hOk ⊢
      have hX : ∀ x : Chunk, x ∈ [inC b5 kd, inC b7 (j : Nat), inC b10 N, arC b S.n g' (.slice p S.os.length cap)] → x ∈ markC D :: xB B (some ⟨b, 0, none⟩) :: inC b10 N :: erC b9 0 :: inC b8 0 :: inC b7 (j : Nat) :: inC b5 kd :: arC b S.n g' (.slice p S.os.length cap) :: (cs ++ F) := by
        intro x hx
        simp only [List.mem_cons, List.not_mem_nil, or_false] at hx ⊢
        rcases hx with rfl | rfl | rfl | rfl <;> simp only [true_or, or_true]
      have hbl2 : ∀ bl, (∀ c, c ∈ markC D :: xB B (some ⟨b, 0, none⟩) :: inC b10 N :: erC b9 0 :: inC b8 0 :: inC b7 (j : Nat) :: inC b5 kd :: arC b S.n g' (.slice p S.os.length cap) :: (cs ++ F) → c.1 ≠ bl) → ∀ c, c ∈ cs → c.1 ≠ bl := fun bl h c hc => h c (.tail _ (.tail _ (.tail _ (.tail _ (.tail _ (.tail _ (.tail _ (.tail _ (List.mem_append_left _ hc)))))))))
      rcases Nat.eq_zero_or_pos k with hk0 | hk0
      case' inl =>
        refine gzU ?_
      case' inr =>
        obtain ⟨q, hq⟩ : ∃ q, k = q + 1 := ⟨k - 1, by omega⟩
        obtain ⟨o, ho1⟩ : ∃ o, S.os[q]? = some o := ⟨_, List.getElem?_eq_getElem (by omega)⟩
        have hoI : ¬ o.id > I := fun h => hnx ⟨o, by omega, by rw [hq]; exact ho1, h⟩
        obtain ⟨sp, hcse⟩ := hcs _ _ ho1
        have hpp := hp (by omega)
        have co : (List.toArray (ocs S.os ++ sp))[q * 9]? = some (.int .i64 o.id) := ocs_at ho1 sp 0 (by omega)
        rw [hpp] at cl ⊢
        refine gzU ?_
        refine t_gq (q_load (v := .int .i64 o.id) (cs := List.toArray (ocs S.os ++ sp)) rfl (.tail _ (.tail _ (.tail _ (.tail _ (.tail _ (.tail _ (.tail _ (.tail _ (List.mem_append_left _ (by rw [hcse]; exact .head _)))))))))) ?_) rfl rfl rfl rfl rfl rfl ?_
        · rw [show (((k : Nat) : Int) - 1).toNat = q by omega, Nat.zero_add]; exact co
        refine gzU ?_
        rw [← hpp] at cl ⊢
      all_goals
        refine c_draw [(0, true), (1, true), (2, true), (3, true), (4, true), (5, true), (6, true), (7, true), (8, true), (9, true), (10, true), (11, true), (12, false), (13, false), (14, true), (15, true), (16, false)] [[], [], [1], [1, 2], [1, 2, 3], [], [], [], [], [], [], [6, 7, 8, 9, 10], [6, 7, 8, 9, 10, 11], [1, 2, 3, 4, 5, 6, 7, 8, 9, 10, 11, 12], [0, 1, 2, 3, 4, 5, 6, 7, 8, 9, 10, 11, 12, 13], [0, 1, 2, 3, 4, 5, 6, 7, 8, 9, 10, 11, 12, 13, 14], [0, 1, 2, 3, 4, 5, 6, 7, 8, 9, 10, 11, 12, 13, 14, 15]] ([]) (by kernel_rfl) (by kernel_rfl) zAtt zHR ?_
        refine pzU ?_
        apply pl_s (S := [arC b S.n g' (.slice p S.os.length cap)])
        · exact q_load rfl (.head _) cl
        · exact sing_mem (hX _ (.tail _ (.tail _ (.tail _ (.head _)))))
        · rfl
        · rfl
        · rfl
        refine pzU ?_
        apply pl_s (S := [inC b5 kd]); (· exact zLd); (· exact sing_mem (hX _ (.head _))); (· rfl); (· rfl); (· rfl)
        refine pzU ?_
        apply pl_s (S := [inC b7 (j : Nat)]); (· exact zLd); (· exact sing_mem (hX _ (.tail _ (.head _)))); (· rfl); (· rfl); (· rfl)
        refine pzU ?_
        apply pl_s (S := [inC b10 N]); (· exact zLd); (· exact sing_mem (hX _ (.tail _ (.tail _ (.head _))))); (· rfl); (· rfl); (· rfl)
        refine pzU ?_
        apply pl_eS
        · apply e_litA (ws := obC ob) (k := 9)
          · rw [hobC]; rfl
          · rfl
          · rfl
          · decide
          · decide
        · rfl
        · rfl
        · rfl
        · intro _ _ _ c hc; cases hc
        · rintro _ _ ⟨bl, _, rfl, rfl⟩ x hx _ c hc
          refine .tail _ (hX _ ?_)
          simp only [List.mem_cons, List.not_mem_nil, or_false] at hx
          rcases hx with rfl | rfl | rfl | rfl <;> simp only [List.mem_cons, List.not_mem_nil, or_false] at hc <;> subst hc <;> simp only [List.mem_cons, true_or, or_true]
        rintro _ _ ⟨bl, hbl, rfl, rfl⟩
        refine pzU ?_
        apply pl_eS
        · exact e_call0 rfl rfl (insert_mid [markC D, xB B (some ⟨b, 0, none⟩), inC b10 N, erC b9 0, inC b8 0, inC b7 (j : Nat), inC b5 kd, arC b S.n g' (.slice p S.os.length cap)] (.slice p S.os.length cap) S.os.length k bl (ocs S.os) (obC ob) cs F ho hk rfl (by simp [Value.oneCell']) (ocs_one _) (hbl2 bl hbl) (by omega))
        · rfl
        · rfl
        · rfl
        · intro _ _ _ c hc; cases hc
        · exact fun _ _ _ x hx ha => anc_all (by kernel_rfl) hx ha
        rintro v' _ ⟨c2, ho2, rfl⟩
        have hv1 : v'.oneCell' = true := ho2.one
        simp only [List.cons_append, List.nil_append]
        refine pzU ?_
        apply pl_nS
        · exact e_store (b := b) (off := 65) (cs := List.toArray (arL S.n g' (.slice p S.os.length cap))) rfl rfl hv1 (by rw [arL_setL]; exact zUpd) (by rw [List.size_toArray, arL_len]; omega)
        (· rfl); (· rfl); (· intro _ _ _ c hc; cases hc); (· exact fun _ _ _ x hx ha => anc_all (by kernel_rfl) hx ha)
        rintro _ _ ⟨rfl, rfl⟩
        refine pzU ?_
        refine gzU ?_
        rw [(ocs_cut hk).1, (ocs_cut hk).2] at ho2
        refine k_ret2 [D] (inC b10 N :: erC b9 0 :: inC b8 I :: inC b7 (j : Nat) :: inC b5 kd :: arC b S.n g' v' :: (c2 ++ F)) rfl (l' := arC b S.n g' v' :: (c2 ++ F)) (by exact zKeep) (by exact zRes) (.drop (.drop (.drop (.drop (.drop .refl))))) ⟨rfl, arC b S.n g' v' :: c2, ⟨hOk, v', c2, rfl, ?_⟩, rfl⟩
        show OwnSl 68 9 v' (insD S.os ob).length (ocs (insD S.os ob)) c2
        rw [ins_len, hins, ocs_app, show ocs (ob :: List.drop k S.os) = obC ob ++ ocs (List.drop k S.os) from rfl, ← List.append_assoc]
        exact ho2
  · rintro D c pre l' hsp ⟨rfl, pre', x, rfl, hap, rfl⟩
    obtain ⟨ho1, _, _⟩ := itm_pre hsp
    simp only [List.cons_append, List.nil_append]
    refine gzU ?_
    have e := add_e (show addE S kd sz fi = 16 by unfold addE; rw [hN, if_neg h1, if_neg (by omega), if_pos (all_not (List.mem_of_getElem? ho1) hap)]) (by decide)
    exact k_ret2 [D] (erC b9 16 :: inC b8 0 :: L) rfl (l' := L) (by exact zKeep) (by exact zRes) (.drop (.drop .refl)) ⟨by rw [e]; rfl, _, by rw [e]; exact hA', hL.symm⟩
end Go.Proofs.YtcjknmpogkofpaaGreat.Ar

/- The statements' helpers for lists of numbers: Num, SameInts, OverInts. -/
set_option linter.unusedVariables false
set_option linter.unusedSimpArgs false
namespace Go.Proofs.YtcjknmpogkofpaaGreat
open Go.RowKit
set_option maxRecDepth 20000

/-- v is a slice whose numbers xs can be read in l -/
def IntSl (l : List Chunk) (v : Value) (xs : List Int) : Prop :=
  ∃ a cap, v = .slice a xs.length cap ∧ (0 < xs.length → ∃ b off cs t fz, a = some ⟨b, off, none⟩ ∧ (b, Obj.cells cs t fz) ∈ l ∧ ∀ i x, xs[i]? = some x → cs[off + i * 1]? = some (.int .i64 x))
def intQ (x : Int) : Value := .int .i64 x
theorem OwnSl.intsQ {e : Nat} {v : Value} {xs : List Int} {cs l : List Chunk} (h : OwnSl e 1 v xs.length (xs.map intQ) cs) (hs : ∀ c, c ∈ cs → c ∈ l) : IntSl l v xs := by
  rcases h.2 with ⟨rfl, h0, rfl⟩ | ⟨b, cap, sp, rfl, rfl, _⟩
  · exact ⟨none, 0, by rw [h0], fun h => by omega⟩
  · refine ⟨_, cap, rfl, fun h0 => ⟨b, 0, _, e, (0, 0), rfl, hs _ List.mem_cons_self, fun i x hx => ?_⟩⟩
    have hlt := (List.getElem?_eq_some_iff.1 hx).1
    rw [Nat.zero_add, Nat.mul_one, List.getElem?_toArray, List.getElem?_append_left (by simpa using hlt), List.getElem?_map, hx]; rfl
set_option pp.deepTerms false
set_option pp.deepTerms.threshold 4
set_option maxHeartbeats 400000 in
theorem sameInts_any (v u : Value) (xs ys : List Int) (l : List Chunk) (h1 : IntSl l v xs) (h2 : IntSl l u ys) (hx : xs.length ≤ 1000000) :
    Fn Tryz.prog 10 [v, u] l fun r l' => r = .bool (decide (xs = ys)) ∧ l' = l := by
  obtain ⟨a, ca, rfl, h1⟩ := h1
  obtain ⟨a', ca', rfl, h2⟩ := h2
  refine fn_of_body Tryz.func10 rfl rfl fun E => ?_
  simp only [argF, Tryz.ntmps10]
  by_cases hl : xs.length = ys.length
  · refine gz ?_
    refine k_loop (α := Nat) (fun k => [(0, .slice a xs.length ca), (1, .slice a' ys.length ca'), (5, .int .i64 k)]) (fun k => l) (fun k => k ≤ xs.length ∧ ∀ j, j < k → xs[j]? = ys[j]?) (fun k => xs.length - k) 0 ⟨Nat.zero_le _, fun j h => by omega⟩ ⟨rfl, rfl, rfl, trivial⟩ .refl ?_
    rintro k ⟨hk, hj⟩
    by_cases hlt : k < xs.length
    · obtain ⟨b, off, cs, t, fz, rfl, hm, hc⟩ := h1 (by omega)
      obtain ⟨b', off', cs', t', fz', rfl, hm', hc'⟩ := h2 (by omega)
      have g1 := hc k _ (List.getElem?_eq_getElem hlt)
      have g2 := hc' k _ (List.getElem?_eq_getElem (show k < ys.length by omega))
      obtain ⟨x, hx0⟩ : ∃ x, xs[k] = x := ⟨_, rfl⟩
      obtain ⟨y, hy0⟩ : ∃ y, ys[k]'(by omega) = y := ⟨_, rfl⟩
      rw [hx0] at g1
      rw [hy0] at g2
      have e1 : xs[k]? = some x := by rw [List.getElem?_eq_getElem hlt, hx0]
      have e2 : ys[k]? = some y := by rw [List.getElem?_eq_getElem (show k < ys.length by omega), hy0]
      refine gz ?_
      refine c_draw [(0, true), (1, true), (2, true), (3, true), (4, true), (5, true), (6, true), (7, true), (8, true)] [[], [], [0, 1], [0, 1, 2], [], [], [4, 5], [4, 5, 6], [0, 1, 2, 3, 4, 5, 6, 7]] _ (by kernel_rfl) (by kernel_rfl) zAtt (fun _ h => h) ?_
      refine pz ?_
      by_cases hxy : x = y
      · refine gz ?_
        exact k_next (k + 1) ⟨by omega, fun j hjk => by
          by_cases e : j = k
          · subst e; rw [e1, e2, hxy]
          · exact hj j (by omega)⟩ (by omega) ⟨rfl, rfl, rfl, trivial⟩ .refl
      · refine gz ?_
        refine k_ret [] rfl .refl (by exact zRes) ⟨?_, rfl⟩
        rw [show decide (xs = ys) = false from decide_eq_false fun e => by subst e; rw [e1] at e2; exact hxy (by cases e2; rfl)]; rfl
    · obtain rfl : k = xs.length := by omega
      refine gz ?_
      refine k_ret [] rfl .refl (by exact zRes) ⟨?_, rfl⟩
      rw [show decide (xs = ys) = true from decide_eq_true (List.ext_getElem? fun j => by
        by_cases h : j < xs.length
        · exact hj j h
        · rw [List.getElem?_eq_none (by omega), List.getElem?_eq_none (by omega)])]; rfl
  · refine gz ?_
    refine k_ret [] rfl .refl (by exact zRes) ⟨?_, rfl⟩
    rw [show decide (xs = ys) = false from decide_eq_false fun e => hl (by rw [e])]; rfl
set_option pp.deepTerms false
set_option pp.deepTerms.threshold 4
set_option maxHeartbeats 400000 in
theorem overInts_any (v : Value) (n : Nat) (xs : List Value) (cs F : List Chunk) (h : OwnSl 3 1 v n xs cs) (hn : n ≤ 1000000) :
    Fn Tryz.prog 12 [v] (cs ++ F) fun r l' => r = .tuple #[] ∧ ∃ X, l' = X ++ F := by
  refine fn_of_body Tryz.func12 rfl rfl fun E => ?_
  simp only [argF, Tryz.ntmps12]
  obtain ⟨hlen, h⟩ := h
  rcases h with ⟨rfl, rfl, rfl⟩ | ⟨gb, cap, sp, rfl, rfl, hnc, hcm, hcl⟩
  · refine gz ?_
    refine k_loop (α := Unit) (fun k => [(0, .slice none 0 0), (2, .int .i64 0)]) (fun k => F) (fun k => True) (fun k => 0) () trivial ⟨rfl, rfl, trivial⟩ .refl ?_
    rintro _ _
    refine gz ?_
    refine t_e (e_lit1 rfl rfl) rfl rfl rfl ?_
    rintro _ _ ⟨bl, _, rfl, rfl⟩
    apply t_e
    · apply ce_append (xs := []) (news := [.int .i64 (-999)]) (zs := [.int .i64 0]) (cs := []) (n := 0)
      · rfl
      · rfl
      · rfl
      · exact OwnSl.nil _ _
      · exact List.mem_cons_self
      · intro j u hj; simpa using hj
      · rfl
      · simp [Value.oneCell']
      · unfold maxLen; omega
      · omega
    · rfl
    · rfl
    · rfl
    rintro v' _ ⟨cs', hown', rfl⟩
    have hv1 : v'.oneCell' = true := hown'.one
    refine gz ?_
    exact k_ret [] rfl .refl (by exact zRes) ⟨rfl, cs' ++ [(bl, _)], by simp; rfl⟩
  · simp only [List.cons_append, List.nil_append]
    refine gz ?_
    refine k_loop (α := Nat × List Value) (fun x => [(0, .slice (some ⟨gb, 0, none⟩) n cap), (2, .int .i64 x.1)]) (fun x => (gb, .cells (List.toArray x.2) 3 (0, 0)) :: F) (fun x => x.1 ≤ n ∧ x.2.length = cap * 1) (fun x => n - x.1) (0, xs ++ sp) ⟨Nat.zero_le _, hcl⟩ ⟨rfl, rfl, trivial⟩ .refl ?_
    rintro ⟨k, ys⟩ ⟨hk, hy⟩
    simp only at hk hy ⊢
    by_cases hlt : k < n
    · refine gz ?_
      refine t_n (e_store (cs := List.toArray ys) rfl rfl rfl (by exact zUpd) (by simp; omega)) rfl rfl ?_
      rintro _ _ ⟨rfl, rfl⟩
      rw [List.setIfInBounds_toArray]
      refine gz ?_
      exact k_next (k + 1, ys.set (k * 1) (.int .i64 (-999))) ⟨by simp only; omega, by simp only [List.length_set]; exact hy⟩ (by simp only; omega) ⟨rfl, rfl, trivial⟩ .refl
    · obtain rfl : k = n := by omega
      refine gz ?_
      refine t_e (e_lit1 rfl rfl) rfl rfl rfl ?_
      rintro _ _ ⟨bl, _, rfl, rfl⟩
      refine s_keep (Keep.of_perm (List.Perm.swap _ _ _)) ?_
      apply t_e
      · apply ce_append (xs := ys.take k) (news := [.int .i64 (-999)]) (zs := [.int .i64 0]) (cs := [(gb, _)]) (n := k)
        · rfl
        · rfl
        · rfl
        · exact ⟨by simp; omega, .inr ⟨gb, cap, ys.drop k, rfl, by rw [List.take_append_drop], hnc, hcm, by rw [List.take_append_drop]; exact hy⟩⟩
        · exact List.mem_cons_of_mem _ List.mem_cons_self
        · intro j u hj; simpa using hj
        · rfl
        · simp [Value.oneCell']
        · unfold maxLen; omega
        · omega
      · rfl
      · rfl
      · rfl
      rintro v' _ ⟨cs', hown', rfl⟩
      have hv1 : v'.oneCell' = true := hown'.one
      refine gz ?_
      exact k_ret [] rfl .refl (by exact zRes) ⟨rfl, cs' ++ [(bl, _)], by simp; rfl⟩
end Go.Proofs.YtcjknmpogkofpaaGreat

/- slices.Index and slices.Delete on lists of numbers that are owned. -/
set_option linter.unusedVariables false
set_option linter.unusedSimpArgs false
namespace Go.Proofs.YtcjknmpogkofpaaGreat.Qu
open Go.RowKit
set_option maxRecDepth 20000

theorem idxOf_at (id : Int) : ∀ (xs : List Int) (k : Nat), xs[k]? = some id → (∀ j, j < k → xs[j]? ≠ some id) → xs.idxOf id = k ∧ id ∈ xs
  | [], k, h, _ => by simp at h
  | x :: xs, 0, h, _ => by
    simp only [List.getElem?_cons_zero, Option.some.injEq] at h
    subst h; simp
  | x :: xs, k + 1, h, hn => by
    have h0 : x ≠ id := fun e => hn 0 (by omega) (by simp [e])
    have ih := idxOf_at id xs k (by simpa using h) fun j hj => by simpa using hn (j + 1) (by omega)
    refine ⟨?_, List.mem_cons_of_mem _ ih.2⟩
    rw [List.idxOf_cons, show (x == id) = false by simpa using h0, ih.1]; rfl
def indexI (xs : List Int) (id : Int) : Int := if id ∈ xs then (xs.idxOf id : Nat) else -1
set_option pp.deepTerms false
set_option pp.deepTerms.threshold 4
set_option maxHeartbeats 400000
theorem index_any (v : Value) (xs : List Int) (id : Int) (l : List Chunk) (h1 : IntSl l v xs) (hx : xs.length ≤ 1000000) :
    Fn Tryz.prog 198 [v, .int .i64 id] l fun r l' => r = .int .i64 (indexI xs id) ∧ l' = l := by
  obtain ⟨a, ca, rfl, h1⟩ := h1
  refine fn_of_body Tryz.func198 rfl rfl fun E => ?_
  simp only [argF, Tryz.ntmps198]
  refine gz ?_
  refine k_loop (α := Nat) (fun k => [(0, .slice a xs.length ca), (1, .int .i64 id), (7, .int .i64 xs.length), (8, .int .i64 k)]) (fun k => l) (fun k => k ≤ xs.length ∧ ∀ j, j < k → xs[j]? ≠ some id) (fun k => xs.length - k) 0 ⟨Nat.zero_le _, fun j h => by omega⟩ ⟨rfl, rfl, rfl, rfl, trivial⟩ .refl ?_
  rintro k ⟨hk, hj⟩
  by_cases hlt : k < xs.length
  · obtain ⟨b, off, cs, t, fz, rfl, hm, hc⟩ := h1 (by omega)
    have g1 := hc k _ (List.getElem?_eq_getElem hlt)
    obtain ⟨x, hx0⟩ : ∃ x, xs[k] = x := ⟨_, rfl⟩
    rw [hx0] at g1
    have e1 : xs[k]? = some x := by rw [List.getElem?_eq_getElem hlt, hx0]
    by_cases hxy : id = x
    · subst hxy
      obtain ⟨i1, i2⟩ := idxOf_at id xs k e1 hj
      refine gz ?_
      refine k_ret [] rfl .refl (by exact zRes) ⟨?_, rfl⟩
      simp only [tup, indexI, if_pos i2, i1]
    · refine gz ?_
      exact k_next (k + 1) ⟨by omega, fun j hjk => by
        by_cases e : j = k
        · subst e; rw [e1]; intro h; exact hxy (by cases h; rfl)
        · exact hj j (by omega)⟩ (by omega) ⟨rfl, rfl, rfl, rfl, trivial⟩ .refl
  · obtain rfl : k = xs.length := by omega
    refine gz ?_
    refine k_ret [] rfl .refl (by exact zRes) ⟨?_, rfl⟩
    have : id ∉ xs := fun hm => by
      obtain ⟨j, hjl, hj2⟩ := List.getElem_of_mem hm
      exact hj j hjl (by rw [List.getElem?_eq_getElem hjl, hj2])
    simp only [tup, indexI, if_neg this]
theorem delete_any (v : Value) (xs : List Int) (i : Nat) (hi : i < xs.length) (cs F : List Chunk) (h : OwnSl 3 1 v xs.length (xs.map intQ) cs) (hn : xs.length ≤ 1000000) :
    Fn Tryz.prog 157 [v, .int .i64 (i : Nat), .int .i64 ((i : Int) + 1)] (cs ++ F) fun r l' => ∃ cs', OwnSl 3 1 r (xs.eraseIdx i).length ((xs.eraseIdx i).map intQ) cs' ∧ l' = cs' ++ F := by
  obtain ⟨hlen, h⟩ := h
  rcases h with ⟨rfl, h0, rfl⟩ | ⟨gb, cap, sp, rfl, rfl, hnc, hcm, hcl⟩
  · omega
  obtain ⟨cur, hcur⟩ : ∃ cur, xs.map intQ ++ sp = cur := ⟨_, rfl⟩
  obtain ⟨ys, hys⟩ : ∃ ys, (xs.eraseIdx i).map intQ = ys := ⟨_, rfl⟩
  obtain ⟨m, hm⟩ : ∃ m, xs.length = i + m + 1 := ⟨xs.length - (i + 1), by omega⟩
  have hel : (xs.eraseIdx i).length = i + m := by rw [List.length_eraseIdx, if_pos hi]; omega
  have hnew : ((xs.drop (i + 1)).map intQ).length = m := by simp; omega
  have htake : cur.take (i * 1) ++ (xs.drop (i + 1)).map intQ = ys := by
    rw [← hcur, ← hys, List.eraseIdx_eq_take_drop_succ, List.map_append, Nat.mul_one, List.take_append_of_le_length (by simp; omega), List.map_take]
  obtain ⟨off', hoff⟩ : ∃ o, (if cap = i + 1 then 0 else 0 + (i + 1) * 1) = o := ⟨_, rfl⟩
  rw [hcur] at hcl ⊢
  rw [hel, hys]
  refine fn_of_body Tryz.func157 rfl rfl fun E => ?_
  simp only [argF, Tryz.ntmps157]
  simp only [List.cons_append, List.nil_append]
  refine gz ?_
  refine t_q (q_slice (l0 := i) (h0 := i + 1) (m0 := xs.length) rfl (.some rfl (by omega) rfl) (.some rfl (by omega) (by omega)) (.some rfl (by omega) rfl) (fun _ => rfl) (by omega) (by omega) (by omega) rfl rfl rfl) rfl rfl rfl ?_
  refine gz ?_
  refine c_draw [(0, true), (1, true), (2, true), (3, true), (4, true), (5, true), (6, false), (7, true)] [[], [], [0, 1], [], [], [3, 4], [0, 1, 2, 3, 4, 5], [0, 1, 2, 3, 4, 5, 6]] ([]) (by kernel_rfl) (by kernel_rfl) zAtt zHR ?_
  refine pz ?_
  apply pl_q
  · exact q_slice (l0 := 0) (h0 := i) (m0 := cap) (off' := 0) (n' := i) (c' := cap) rfl (.none) (.some rfl (by omega) rfl) (.none) (by simp) (by omega) (by omega) (by omega) (by simp) (by omega) (by omega)
  · rfl
  · rfl
  · rfl
  refine pz ?_
  apply pl_q
  · exact q_slice (l0 := i + 1) (h0 := xs.length) (m0 := cap) (off' := off') (n' := m) rfl (.some rfl (by omega) (by omega)) (.none) (.none) (by simp) (by omega) (by omega) (by omega) hoff (by omega) rfl
  · rfl
  · rfl
  · rfl
  refine pz ?_
  apply pl_e
  · apply e_appendR (news := (xs.drop (i + 1)).map intQ) (cl := List.toArray cur) (cur := List.toArray cur)
    · rfl
    · rfl
    · exact List.mem_cons_self
    · intro j u hj
      have hjl := (List.getElem?_eq_some_iff.1 hj).1
      rw [hnew] at hjl
      rw [List.getElem?_map, List.getElem?_drop] at hj
      rw [← hoff, if_neg (by omega), List.getElem?_toArray, ← hcur, List.getElem?_append_left (by simp; omega), List.getElem?_map, show 0 + (i + 1) * 1 + j = i + 1 + j by omega]; exact hj
    · rw [hnew]; omega
    · intro u hu; rw [List.mem_map] at hu; obtain ⟨a, _, rfl⟩ := hu; rfl
    · omega
    · rw [hnew]; simp only [List.size_toArray]; omega
  · rfl
  · rfl
  · rfl
  · intro _ _ _ c hc; cases hc
  rintro _ _ ⟨rfl, rfl⟩
  have e1 : (List.toArray cur).toList.take (i * 1) ++ (xs.drop (i + 1)).map intQ ++ (List.toArray cur).toList.drop (i * 1 + ((xs.drop (i + 1)).map intQ).length) = ys ++ cur.drop (i + m) := by
    rw [hnew, Nat.mul_one] at *
    rw [← htake]
  rw [e1]
  refine pz ?_
  refine gz ?_
  refine t_q (q_slice (l0 := i + m) (h0 := xs.length) (m0 := cap) (off' := i + m) (n' := 1) rfl (.some rfl (by omega) rfl) (.some rfl (by omega) rfl) (.none) (by simp) (by omega) (by omega) (by omega) (by rw [if_neg (by omega)]; omega) (by omega) rfl) rfl rfl rfl ?_
  refine gz ?_
  have hyl : ys.length = i + m := by rw [← hys, List.length_map, hel]
  have hdl : (cur.drop (i + m)).length = cap - (i + m) := by rw [List.length_drop]; omega
  apply t_n
  · apply e_clear (zs := [.int .i64 0]) (cs := List.toArray (ys ++ cur.drop (i + m)))
    · rfl
    · omega
    · simp [Value.oneCell']
    · exact zUpd
    · simp; omega
  · rfl
  · rfl
  rintro _ _ ⟨rfl, rfl⟩
  refine gz ?_
  refine k_ret [] rfl .refl (by exact zRes) ⟨[(gb, _)], ⟨by rw [hyl]; omega, .inr ⟨gb, cap, .int .i64 0 :: (cur.drop (i + m)).drop 1, rfl, ?_, by omega, hcm, ?_⟩⟩, rfl⟩
  · congr 3
    simp only [List.replicate_succ, List.replicate_zero, List.flatten_cons, List.flatten_nil, List.append_nil, setFrom, List.setIfInBounds_toArray]
    congr 1
    rw [List.set_append_right _ _ (by omega), show i + m - ys.length = 0 by omega]
    cases hd : cur.drop (i + m) with
    | nil => rw [hd] at hdl; simp at hdl; omega
    | cons c r => rfl
  · simp only [List.length_append, List.length_cons, List.length_drop]; omega
end Go.Proofs.YtcjknmpogkofpaaGreat.Qu

/- The queue as plain data and its blocks; the priorities that have some; at. -/
set_option linter.unusedVariables false
set_option linter.unusedSimpArgs false
namespace Go.Proofs.YtcjknmpogkofpaaGreat.Qu
open Go.RowKit
set_option maxRecDepth 20000

def upd {α : Type} (f : Nat → α) (k : Nat) (v : α) : Nat → α := fun i => if i = k then v else f i
theorem upd_same {α : Type} (f : Nat → α) (k : Nat) (v : α) : upd f k v k = v := if_pos rfl
theorem upd_other {α : Type} (f : Nat → α) (k i : Nat) (v : α) (h : i ≠ k) : upd f k v i = f i := if_neg h
theorem upd_upd {α : Type} (f : Nat → α) (k : Nat) (v w : α) : upd (upd f k v) k w = upd f k w := by funext i; unfold upd; split <;> rfl
abbrev qC (b : Nat) (vs : Nat → Value) : Chunk := (b, .cells (Array.ofFn (n := 8) fun i => vs i.val) 269 (0, 0))
theorem qC_get (vs : Nat → Value) (p : Nat) (hp : p < 8) : (Array.ofFn (n := 8) fun i => vs i.val)[p * 1]? = some (vs p) := by simp [hp]
theorem qC_set (vs : Nat → Value) (p : Nat) (hp : p < 8) (v : Value) : (Array.ofFn (n := 8) fun i => vs i.val).setIfInBounds (p * 1) v = Array.ofFn (n := 8) fun i => upd vs p v i.val := by
  apply Array.ext_getElem?
  intro j
  rw [Nat.mul_one]
  by_cases hj : j < 8
  · by_cases e : p = j
    · subst e; rw [Array.getElem?_setIfInBounds_self_of_lt (by simpa using hp)]; simp [hp, upd_same]
    · rw [Array.getElem?_setIfInBounds_ne e]; simp [hj, upd_other _ _ _ _ (Ne.symm e)]
  · rw [Array.getElem?_eq_none (by simpa using hj), Array.getElem?_eq_none (by simpa using hj)]
def csTo (cs : Nat → List Chunk) : Nat → List Chunk
  | 0 => []
  | k + 1 => cs k ++ csTo cs k
theorem csTo_congr {cs cs' : Nat → List Chunk} : ∀ k, (∀ i, i < k → cs i = cs' i) → csTo cs k = csTo cs' k
  | 0, _ => rfl
  | k + 1, h => by rw [csTo, csTo, h k (by omega), csTo_congr k fun i hi => h i (by omega)]
theorem csTo_split (cs : Nat → List Chunk) (p : Nat) : ∀ k, p < k → (csTo cs k).Perm (cs p ++ csTo (upd cs p []) k)
  | 0, h => by omega
  | k + 1, h => by
    by_cases e : p = k
    · subst e
      rw [csTo, csTo, upd_same, List.nil_append, csTo_congr p fun i hi => (upd_other cs p i [] (by omega)).symm]
    · rw [csTo, csTo, upd_other _ _ _ _ (Ne.symm e)]
      exact ((csTo_split cs p k (by omega)).append_left _).trans (List.perm_append_comm_assoc _ _ _)
theorem csTo_mem (cs : Nat → List Chunk) (p : Nat) (c : Chunk) (hc : c ∈ cs p) : ∀ k, p < k → c ∈ csTo cs k
  | 0, h => by omega
  | k + 1, h => by
    rw [csTo, List.mem_append]
    by_cases e : p = k
    · subst e; exact .inl hc
    · exact .inr (csTo_mem cs p c hc k (by omega))
/-- lq holds a queue whose lists are X, at b -/
structure QS (X : Nat → List Int) (vs : Nat → Value) (cs : Nat → List Chunk) : Prop where
  own : ∀ p, p < 8 → OwnSl 3 1 (vs p) (X p).length ((X p).map intQ) (cs p)
theorem QS.upd {X : Nat → List Int} {vs : Nat → Value} {cs : Nat → List Chunk} (h : QS X vs cs) (p : Nat) (ys : List Int) (v : Value) (c : List Chunk) (ho : OwnSl 3 1 v ys.length (ys.map intQ) c) : QS (upd X p ys) (upd vs p v) (upd cs p c) := ⟨fun q hq => by
  by_cases e : q = p
  · subst e; rw [upd_same, upd_same, upd_same]; exact ho
  · rw [upd_other _ _ _ _ e, upd_other _ _ _ _ e, upd_other _ _ _ _ e]; exact h.own q hq⟩
def IsQ (b : Nat) (X : Nat → List Int) (lq : List Chunk) : Prop := ∃ vs cs, QS X vs cs ∧ lq = qC b vs :: csTo cs 8
theorem QS.ints {X : Nat → List Int} {vs : Nat → Value} {cs : Nat → List Chunk} (h : QS X vs cs) (p : Nat) (hp : p < 8) (l : List Chunk) (hs : ∀ c, c ∈ csTo cs 8 → c ∈ l) : IntSl l (vs p) (X p) := (h.own p hp).intsQ fun c hc => hs c (csTo_mem cs p c hc 8 hp)

/-- the priorities from 7 down to m at which ne holds -/
def fallT (ne : Nat → Bool) (m : Nat) : List Nat := ((List.range (8 - m)).map (7 - ·)).filter ne
theorem fallT_succ (ne : Nat → Bool) (p : Nat) (hp : p < 8) : fallT ne p = fallT ne (p + 1) ++ if ne p then [p] else [] := by
  unfold fallT
  rw [show 8 - p = (8 - (p + 1)) + 1 by omega, List.range_succ, List.map_append, List.filter_append]
  congr 1
  simp only [List.map_cons, List.map_nil, show 7 - (8 - (p + 1)) = p by omega, List.filter_cons, List.filter_nil]
theorem fallT_pre (ne : Nat → Bool) : ∀ (d m : Nat), m + d ≤ 8 → fallT ne (m + d) <+: fallT ne m
  | 0, m, _ => List.prefix_rfl
  | d + 1, m, h => by
    rw [← Nat.add_assoc, show m + d + 1 = (m + d) + 1 from rfl]
    refine List.IsPrefix.trans ?_ (fallT_pre ne d m (by omega))
    rw [fallT_succ ne (m + d) (by omega)]
    exact List.prefix_append _ _
theorem fallT_mem (ne : Nat → Bool) (m p : Nat) : p ∈ fallT ne m ↔ m ≤ p ∧ p < 8 ∧ ne p = true := by
  unfold fallT
  simp only [List.mem_filter, List.mem_map, List.mem_range]
  constructor
  · rintro ⟨⟨i, hi, rfl⟩, h⟩; exact ⟨by omega, by omega, h⟩
  · rintro ⟨h1, h2, h3⟩; exact ⟨⟨7 - p, by omega, by omega⟩, h3⟩

set_option pp.deepTerms false
set_option pp.deepTerms.threshold 4
set_option maxHeartbeats 400000
theorem falling_any (pv : Option Addr) (l : List Chunk) : Fn Tryz.prog 130 [.pointer pv] l fun v l' => ∃ B, (∀ c, c ∈ l → c.1 ≠ B) ∧ v = .func (.func 181) #[] #[.pointer (some ⟨B, 0, none⟩)] ∧ l' = (B, .cells #[.pointer pv] 125 (0, 0)) :: l := by
  refine fn_of_body Tryz.func130 rfl rfl fun E => ?_
  simp only [argF, Tryz.ntmps130]
  refine gz ?_
  refine t_e (e_box1 rfl rfl) rfl rfl rfl ?_
  rintro _ _ ⟨B, hB, rfl, rfl⟩
  refine gz ?_
  exact k_ret [] rfl .refl (by exact zRes) ⟨B, hB, rfl, rfl⟩
theorem fall_iter (B b : Nat) (vs : Nat → Value) (ns : Nat → Nat) (hv : ∀ p, p < 8 → ∃ a cap, vs p = .slice a (ns p) cap) : IterS Tryz.prog 181 [.pointer (some ⟨B, 0, none⟩)] (fun p : Nat => [.int .i64 (p : Nat), vs p]) (fun xs => xs = fallT (fun p => ns p != 0) 0) (fun pre => pre <+: fallT (fun p => ns p != 0) 0)
    (fun _ l => (B, .cells #[.pointer (some ⟨b, 0, none⟩)] 125 (0, 0)) ∈ l ∧ qC b vs ∈ l) := by
  obtain ⟨ne, hne⟩ : ∃ ne, (fun p => ns p != 0) = ne := ⟨_, rfl⟩
  rw [hne]
  have hne' : ∀ p, ne p = (ns p != 0) := fun p => by rw [← hne]
  refine ⟨fun r I Ix G0 hneed hY l G hG h0 => ?_⟩
  refine fn_of_body Tryz.func181 rfl rfl fun E => ?_
  simp only [argF, Tryz.ntmps181]
  obtain ⟨hm1, hm2⟩ := hneed _ _ G hG h0
  refine gz ?_
  refine k_loop (α := Nat × List Chunk) (fun x => [(0, .func (.yield r) #[] #[]), (1, .pointer (some ⟨B, 0, none⟩)), (3, .int .i64 ((x.1 : Nat) - 1))]) (fun x => x.2 ++ G) (fun x => x.1 ≤ 8 ∧ I (fallT ne x.1) x.2) (fun x => x.1) (8, l) ⟨by simp, h0⟩ ⟨rfl, rfl, rfl, trivial⟩ .refl ?_
  clear hm1 hm2
  rintro ⟨k, l⟩ ⟨hk, hI⟩
  simp only at hk hI ⊢
  cases k with
  | zero =>
    refine gz ?_
    exact k_ret [] rfl .refl (by exact zRes) ⟨l, rfl, .inl ⟨_, rfl, hI⟩⟩
  | succ p =>
    rw [show ((p + 1 : Nat) : Int) - 1 = (p : Int) by omega]
    obtain ⟨hm1, hm2⟩ := hneed _ _ G hG hI
    obtain ⟨a, cap, hvp⟩ := hv p (by omega)
    have hg := qC_get vs p (by omega)
    rw [hvp] at hg
    have e1 := fallT_succ ne p (by omega)
    by_cases hz : ns p = 0
    · rw [show ne p = false by rw [hne', hz]; rfl] at e1
      simp only [Bool.false_eq_true, if_false, List.append_nil] at e1
      refine gz ?_
      exact k_next (p, l) ⟨by simp only; omega, by simp only; rw [e1]; exact hI⟩ (by simp) ⟨rfl, rfl, rfl, trivial⟩ .refl
    · rw [show ne p = true by rw [hne']; simpa using hz] at e1
      simp only [if_true] at e1
      have hsp : fallT ne (p + 1) ++ [p] <+: fallT ne 0 := by
        rw [← e1]; have := fallT_pre ne p 0 (by omega); rwa [Nat.zero_add] at this
      have hy := hY (fallT ne (p + 1)) p l G hG hI hsp
      rw [← e1, hvp] at hy
      refine gz ?_
      refine t_e (e_yield rfl rfl hy) rfl rfl rfl ?_
      rintro v l' ⟨l1, rfl, ⟨rfl, hI'⟩ | ⟨rfl, hx⟩⟩
      · refine gz ?_
        exact k_next (p, l1) ⟨by simp only; omega, hI'⟩ (by simp) ⟨rfl, rfl, rfl, trivial⟩ .refl
      · refine gz ?_
        exact k_ret [] rfl .refl (by exact zRes) ⟨l1, rfl, .inr ⟨_, by rw [e1]; exact hsp, hx⟩⟩
theorem fall_nil (B : Nat) : IterS Tryz.prog 181 [.pointer (some ⟨B, 0, none⟩)] (fun p : Value => [.int .i64 0, p]) (fun xs => xs = []) (fun pre => False)
    (fun _ l => (B, .cells #[.pointer none] 125 (0, 0)) ∈ l) := by
  refine ⟨fun r I Ix G0 hneed hY l G hG h0 => ?_⟩
  refine fn_of_body Tryz.func181 rfl rfl fun E => ?_
  simp only [argF, Tryz.ntmps181]
  have hm1 := hneed _ _ G hG h0
  refine gz ?_
  exact k_ret [] rfl .refl (by exact zRes) ⟨l, rfl, .inl ⟨_, rfl, h0⟩⟩
end Go.Proofs.YtcjknmpogkofpaaGreat.Qu

/- at, Has, First, All of a queue. -/
set_option linter.unusedVariables false
set_option linter.unusedSimpArgs false
namespace Go.Proofs.YtcjknmpogkofpaaGreat.Qu
open Go.RowKit
set_option maxRecDepth 20000

theorem find_prefix {α : Type} (f : α → Bool) (pre l : List α) (i : α) (h : pre ++ [i] <+: l) (hp : ∀ j ∈ pre, f j = false) (hi : f i = true) : l.find? f = some i := by
  obtain ⟨rest, rfl⟩ := h
  rw [List.append_assoc, List.find?_append, List.find?_eq_none.2 (fun j hj => by simp [hp j hj])]
  simp [hi]
def neX (X : Nat → List Int) : Nat → Bool := fun p => (X p).length != 0
def findP (X : Nat → List Int) (id : Int) : Option Nat := (fallT (neX X) 0).find? fun p => decide (id ∈ X p)
def atQ (X : Nat → List Int) (id : Int) : Int × Int := match findP X id with | some p => ((p : Nat), ((X p).idxOf id : Nat)) | none => (-1, -1)
theorem findP_some (X : Nat → List Int) (id : Int) (p : Nat) (h : findP X id = some p) : p < 8 ∧ id ∈ X p ∧ (X p).idxOf id < (X p).length := by
  have h1 := List.find?_some h
  have h2 := List.mem_of_find?_eq_some h
  rw [fallT_mem] at h2
  have h3 : id ∈ X p := by simpa using h1
  exact ⟨h2.2.1, h3, List.idxOf_lt_length_of_mem h3⟩
theorem QS.shape {X : Nat → List Int} {vs : Nat → Value} {cs : Nat → List Chunk} (h : QS X vs cs) : ∀ p, p < 8 → ∃ a cap, vs p = .slice a ((fun p => (X p).length) p) cap := fun p hp => (h.own p hp).shape
set_option pp.deepTerms false
set_option pp.deepTerms.threshold 4
set_option maxHeartbeats 400000
theorem at_any (b : Nat) (X : Nat → List Int) (lq : List Chunk) (id : Int) (hq : IsQ b X lq) (hb : ∀ p, p < 8 → (X p).length ≤ 1000000) (l : List Chunk) (hsub : ∀ c, c ∈ lq → c ∈ l) :
    Fn Tryz.prog 156 [.pointer (some ⟨b, 0, none⟩), .int .i64 id] l fun v l' => v = .tuple #[.int .i64 (atQ X id).1, .int .i64 (atQ X id).2] ∧ l' = l := by
  obtain ⟨vs, cs, hqs, rfl⟩ := hq
  have hsub2 : ∀ c, c ∈ csTo cs 8 → c ∈ l := fun c hc => hsub c (List.mem_cons_of_mem _ hc)
  refine fn_of_body Tryz.func156 rfl rfl fun E => ?_
  simp only [argF, Tryz.ntmps156]
  refine gz ?_
  (first | refine t_e (e_box1 rfl rfl) rfl rfl rfl ?_ | refine t_e (e_boxA rfl) rfl rfl rfl ?_); rintro _ _ ⟨b3, _, rfl, rfl⟩
  refine gz ?_
  refine t_e e_alloc rfl rfl rfl ?_; rintro _ _ ⟨b4, _, rfl, rfl⟩
  refine gz ?_
  refine t_e e_alloc rfl rfl rfl ?_; rintro _ _ ⟨b5, _, rfl, rfl⟩
  refine gz ?_
  refine t_e (e_call rfl rfl (falling_any _ _)) rfl rfl rfl ?_
  rintro v l' ⟨B, hB, rfl, rfl⟩
  refine gz ?_
  refine c_range (α := Nat) (ps := [11, 12]) (lb := [.pointer (some ⟨B, 0, none⟩)]) rfl (fall_iter B b vs (fun p => (X p).length) hqs.shape) (fun _ => rfl) rfl
    (fun pre l => l = [(B, .cells #[.pointer (some ⟨b, 0, none⟩)] 125 (0, 0)), (b5, .cells #[.int .i64 0] 3 (0, 0)), (b4, .cells #[.int .i64 0] 3 (0, 0)), (b3, .cells #[.int .i64 id] 3 (0, 0))] ∧ ∀ j ∈ pre, id ∉ X j)
    (fun c pre l => c = .ret ∧ ∃ (pre' : List Nat) (p : Nat), pre = pre' ++ [p] ∧ (∀ j ∈ pre', id ∉ X j) ∧ id ∈ X p ∧ l = [(b4, .cells #[.int .i64 (p : Nat)] 3 (0, 0)), (b5, .cells #[.int .i64 ((X p).idxOf id : Nat)] 3 (0, 0))])
    _ l (fun pre l2 X2 hX h => ⟨by rw [h.1]; exact List.Mem.head _, List.mem_append_right _ (hX _ (hsub _ List.mem_cons_self))⟩) (by exact zKeep) ⟨rfl, by simp⟩ ?_ ?_ ?_
  · rintro E r0 rec pre y l' T ⟨fn, tmps, D, rfl⟩ hT ⟨rfl, hpre⟩ hsp
    have hy := (fallT_mem _ _ _).1 (List.IsPrefix.subset hsp (List.mem_append_right _ List.mem_cons_self))
    simp only [putPs, List.cons_append, List.nil_append]
    refine gz ?_
    refine p_begin (by exact zUpd) ?_
    refine gz ?_
    refine t_q (q_call rfl rfl (fun l2 hl => index_any (vs y) (X y) id l2 (hqs.ints y hy.2.1 l2 fun c hc => hl c (by simp [hT c (hsub2 c hc)])) (hb y hy.2.1))) rfl rfl rfl ?_
    by_cases hin : id ∈ X y
    · rw [show indexI (X y) id = ((X y).idxOf id : Nat) from if_pos hin]
      refine gz ?_
      refine p_round_ret [(b4, .cells #[.int .i64 (y : Nat)] 3 (0, 0)), (b5, .cells #[.int .i64 ((X y).idxOf id : Nat)] 3 (0, 0))] (by exact zKeep) ⟨rfl, pre, y, rfl, hpre, hin, rfl⟩
    · rw [show indexI (X y) id = -1 from if_neg hin]
      refine gz ?_
      refine p_round _ .refl ⟨rfl, fun j hj => ?_⟩
      rcases List.mem_append.1 hj with hj | hj
      · exact hpre j hj
      · simp at hj; subst hj; exact hin
  · rintro D xs l' rfl ⟨rfl, hpre⟩
    have hno : findP X id = none := List.find?_eq_none.2 fun j hj => by simp [hpre j hj]
    simp only [List.cons_append, List.nil_append]
    refine gz ?_
    exact k_ret2 [D] ((b4, .cells #[.int .i64 (-1)] 3 (0, 0)) :: (b5, .cells #[.int .i64 (-1)] 3 (0, 0)) :: l) rfl (l' := l) (by exact zKeep) (by exact zRes) (by exact zKeep) ⟨by simp [tup, atQ, hno], rfl⟩
  · rintro D c pre l' hsp ⟨rfl, pre', p, rfl, hp', hi, rfl⟩
    have hfd : findP X id = some p := find_prefix _ pre' _ p hsp (fun j hj => by simp [hp' j hj]) (by simp [hi])
    simp only [List.cons_append, List.nil_append]
    refine gz ?_
    exact k_ret2 [D] ((b4, .cells #[.int .i64 (p : Nat)] 3 (0, 0)) :: (b5, .cells #[.int .i64 ((X p).idxOf id : Nat)] 3 (0, 0)) :: l) rfl (l' := l) (by exact zKeep) (by exact zRes) (by exact zKeep) ⟨by simp [tup, atQ, hfd], rfl⟩
theorem has_any (b : Nat) (X : Nat → List Int) (lq : List Chunk) (id : Int) (hq : IsQ b X lq) (hb : ∀ p, p < 8 → (X p).length ≤ 1000000) (l : List Chunk) (hsub : ∀ c, c ∈ lq → c ∈ l) :
    Fn Tryz.prog 155 [.pointer (some ⟨b, 0, none⟩), .int .i64 id] l fun v l' => v = .bool (findP X id).isSome ∧ l' = l := by
  have H := at_any b X lq id hq hb
  refine fn_of_body Tryz.func155 rfl rfl fun E => ?_
  simp only [argF, Tryz.ntmps155]
  refine gz ?_
  cases hf : findP X id with
  | none =>
    rw [show atQ X id = (-1, -1) by unfold atQ; rw [hf]] at H
    dsimp only at H
    refine t_q (q_call rfl rfl (fun l2 hl => H l2 fun c hc => hl c (hsub c hc))) rfl rfl rfl ?_
    refine gz ?_
    exact k_ret [] rfl .refl (by exact zRes) ⟨rfl, rfl⟩
  | some p =>
    rw [show atQ X id = (((p : Nat) : Int), (((X p).idxOf id : Nat) : Int)) by unfold atQ; rw [hf]] at H
    dsimp only at H
    refine t_q (q_call rfl rfl (fun l2 hl => H l2 fun c hc => hl c (hsub c hc))) rfl rfl rfl ?_
    refine gz ?_
    refine k_ret [] rfl .refl (by exact zRes) ⟨?_, rfl⟩
    simp [tup]
def firstQ (X : Nat → List Int) : Int × Bool := match fallT (neX X) 0 with | p :: _ => ((X p).headD 0, true) | [] => (0, false)
end Go.Proofs.YtcjknmpogkofpaaGreat.Qu

/- All of a queue; New. -/
set_option linter.unusedVariables false
set_option linter.unusedSimpArgs false
namespace Go.Proofs.YtcjknmpogkofpaaGreat.Qu
open Go.RowKit
set_option maxRecDepth 20000

def allX (X : Nat → List Int) (pre : List Nat) : List Int := pre.flatMap X
theorem allX_snoc (X : Nat → List Int) (pre : List Nat) (y : Nat) : allX X (pre ++ [y]) = allX X pre ++ X y := by simp [allX]
theorem allX_len (X : Nat → List Int) (N : Nat) : ∀ (pre : List Nat), (∀ p ∈ pre, (X p).length ≤ N) → (allX X pre).length ≤ pre.length * N
  | [], _ => by simp [allX]
  | p :: pre, h => by
    have h1 := h p List.mem_cons_self
    have h2 := allX_len X N pre fun q hq => h q (List.mem_cons_of_mem _ hq)
    unfold allX at h2 ⊢
    rw [List.flatMap_cons, List.length_append, List.length_cons, Nat.succ_mul]; omega
theorem fallT_len (ne : Nat → Bool) : (fallT ne 0).length ≤ 8 := by
  unfold fallT; refine Nat.le_trans (List.length_filter_le _ _) ?_; simp
set_option pp.deepTerms false
set_option pp.deepTerms.threshold 4
set_option maxHeartbeats 400000
theorem all_any (b : Nat) (X : Nat → List Int) (lq : List Chunk) (hq : IsQ b X lq) (hb : ∀ p, p < 8 → (X p).length ≤ 1000000) (l : List Chunk) (hsub : ∀ c, c ∈ lq → c ∈ l) :
    Fn Tryz.prog 52 [.pointer (some ⟨b, 0, none⟩)] l fun v l' => ∃ cs, OwnSl 3 1 v (allX X (fallT (neX X) 0)).length ((allX X (fallT (neX X) 0)).map intQ) cs ∧ l' = cs ++ l := by
  obtain ⟨vs, cs, hqs, rfl⟩ := hq
  have hsub2 : ∀ c, c ∈ csTo cs 8 → c ∈ l := fun c hc => hsub c (List.mem_cons_of_mem _ hc)
  refine fn_of_body Tryz.func52 rfl rfl fun E => ?_
  simp only [argF, Tryz.ntmps52]
  refine gz ?_
  refine t_e e_alloc rfl rfl rfl ?_; rintro _ _ ⟨b3, _, rfl, rfl⟩
  refine gz ?_
  refine t_e (e_call rfl rfl (falling_any _ _)) rfl rfl rfl ?_
  rintro v l' ⟨B, hB, rfl, rfl⟩
  refine gz ?_
  refine c_range (α := Nat) (ps := [8, 9]) (lb := [.pointer (some ⟨B, 0, none⟩)]) rfl (fall_iter B b vs (fun p => (X p).length) hqs.shape) (fun _ => rfl) rfl
    (fun pre l => ∃ v cs, OwnSl 3 1 v (allX X pre).length ((allX X pre).map intQ) cs ∧ l = [(B, .cells #[.pointer (some ⟨b, 0, none⟩)] 125 (0, 0)), (b3, .cells #[v] 25 (0, 0))] ++ cs)
    (fun c pre l => False)
    _ l (fun pre l2 X2 hX h => by obtain ⟨v, cs, _, rfl⟩ := h; exact ⟨List.Mem.head _, List.mem_append_right _ (hX _ (hsub _ List.mem_cons_self))⟩) (by exact zKeep) ⟨_, [], OwnSl.nil _ _, rfl⟩ ?_ ?_ ?_
  · rintro E r0 rec pre y l' T ⟨fn, tmps, D, rfl⟩ hT ⟨v, cs', hown, rfl⟩ hsp
    have hy := (fallT_mem _ _ _).1 (List.IsPrefix.subset hsp (List.mem_append_right _ List.mem_cons_self))
    have hn0 : 0 < (X y).length := by have := hy.2.2; simp at this; exact List.length_pos_iff.2 this
    have hplen : pre.length < 8 := by have h1 := List.IsPrefix.length_le hsp; have h2 := fallT_len (fun p => (X p).length != 0); simp at h1; omega
    have hlen : (allX X pre).length ≤ 8000000 := by
      refine Nat.le_trans (allX_len X 1000000 pre fun p hp => hb p ?_) (by omega)
      exact ((fallT_mem _ _ _).1 (List.IsPrefix.subset hsp (List.mem_append_left _ hp))).2.1
    have hby := hb y hy.2.1
    obtain ⟨a, cap, hv, hI⟩ := hqs.ints y hy.2.1 (csTo cs 8) (fun _ h => h)
    obtain ⟨gb, off, cc, t, fz, rfl, hm, hc⟩ := hI hn0
    have hmT : (gb, Obj.cells cc t fz) ∈ T := hT _ (hsub2 _ hm)
    simp only [putPs, List.cons_append, List.nil_append]
    rw [hv]
    refine gz ?_
    refine p_begin (.there (.there (upd_mid _ _ _ _ _))) ?_
    refine gz ?_
    refine s_keep (Keep.of_perm (List.perm_append_comm_assoc [(B, .cells #[.pointer (some ⟨b, 0, none⟩)] 125 (0, 0)), (b3, .cells #[v] 25 (0, 0))] cs' _)) ?_
    apply t_e
    · apply ce_append (xs := (allX X pre).map intQ) (news := (X y).map intQ) (zs := [.int .i64 0]) (cl := cc)
      · rfl
      · rfl
      · rfl
      · exact hown
      · exact List.mem_append_right _ (.tail _ (.tail _ (.tail _ hmT)))
      · intro j u hj
        rw [List.getElem?_map, Option.map_eq_some_iff] at hj
        obtain ⟨x, hx, rfl⟩ := hj
        have := hc j x hx; rwa [Nat.mul_one] at this
      · simp
      · intro u hu; rw [List.mem_map] at hu; obtain ⟨a, _, rfl⟩ := hu; rfl
      · unfold maxLen; omega
      · omega
    · rfl
    · rfl
    · rfl
    rintro v' _ ⟨cs2, hown', rfl⟩
    have hv1 : v'.oneCell' = true := hown'.one
    refine s_keep (Keep.of_perm (List.perm_append_comm_assoc cs2 [(B, .cells #[.pointer (some ⟨b, 0, none⟩)] 125 (0, 0)), (b3, .cells #[v] 25 (0, 0))] _)) ?_
    simp only [List.cons_append, List.nil_append]
    refine gz ?_
    refine p_round _ (.refl) ⟨v', cs2, ?_, rfl⟩
    rw [allX_snoc, List.length_append, List.map_append]; exact hown'
  · rintro D xs l' rfl ⟨v, cs', hown, rfl⟩
    simp only [List.cons_append, List.nil_append]
    refine gz ?_
    refine k_ret2 [D] (cs' ++ l) rfl (l' := cs' ++ l) (by exact zKeep) (by exact zRes) .refl ?_
    exact ⟨cs', hown, rfl⟩
  · rintro D c pre l' hsp h
    exact h.elim
def noX : Nat → List Int := fun _ => []
theorem noX_own : QS noX (fun _ => .slice none 0 0) (fun _ => []) := ⟨fun p hp => OwnSl.nil _ _⟩
theorem noX_cells (v : Value) : (Array.ofFn (n := 8) fun i => (fun _ => v) i.val) = List.toArray [v, v, v, v, v, v, v, v] := by kernel_rfl
theorem new_any (l : List Chunk) : Fn Tryz.prog 70 [] l fun v l' => ∃ b, v = .pointer (some ⟨b, 0, none⟩) ∧ ∃ lq, IsQ b noX lq ∧ l' = lq ++ l := by
  refine fn_of_body Tryz.func70 rfl rfl fun E => ?_
  simp only [argF, Tryz.ntmps70]
  refine gz ?_
  refine t_e (e_boxA rfl) rfl rfl rfl ?_
  rintro _ _ ⟨b, hb, rfl, rfl⟩
  refine gz ?_
  exact k_ret [] rfl .refl (by exact zRes) ⟨b, rfl, [qC b fun _ => .slice none 0 0], ⟨_, _, noX_own, rfl⟩, by rw [qC, noX_cells]; rfl⟩
end Go.Proofs.YtcjknmpogkofpaaGreat.Qu

/- Add of a queue. -/
set_option linter.unusedVariables false
set_option linter.unusedSimpArgs false
namespace Go.Proofs.YtcjknmpogkofpaaGreat.Qu
open Go.RowKit
set_option maxRecDepth 20000

theorem OpE.re {P : Program} {ro : Option Nat} {N : Nat} {fr : Fr} {l l2 : List Chunk} {o : Oper} {K K' : Value → List Chunk → Prop} (k : Keep l l2) (h : OpE P ro N fr l2 o K) (hk : ∀ v l', K v l' → ∃ l3, Keep l' l3 ∧ K' v l3) : OpE P ro N fr l o K' :=
  ⟨h.nodef, fun E a W hf hs => (h.val E a W hf (k.sat hs)).mono fun v W' ⟨l', h1, h2⟩ => by
    obtain ⟨l3, h3, h4⟩ := hk v l' h1
    exact ⟨l3, h4, h3.sat h2⟩⟩
theorem csTo_join (cs : Nat → List Chunk) (p : Nat) (hp : p < 8) (c : List Chunk) : (c ++ csTo (upd cs p []) 8).Perm (csTo (upd cs p c) 8) := by
  have h := csTo_split (upd cs p c) p 8 hp
  rw [upd_same, upd_upd] at h
  exact h.symm
section
variable {ro : Option Nat} {N : Nat} {fr : Fr} {d : Option Nat} {ty : TypeId} {pos : String} {aft : Array Edge} {g : Option (Nat × Bool)}
theorem e_qapp {s x : Operand} {X : Nat → List Int} {vs : Nat → Value} {cs : Nat → List Chunk} {p b bl : Nat} {id : Int} {F : List Chunk} (hqs : QS X vs cs) (hp : p < 8) (hlen : (X p).length ≤ 1000000) (hx : ev fr s = some (vs p)) (hy : ev fr x = some (.slice (some ⟨bl, 0, none⟩) 1 1)) :
    OpE Tryz.prog ro N fr ((bl, .cells (List.toArray [.int .i64 id]) 3 (0, 0)) :: qC b vs :: (csTo cs 8 ++ F)) ⟨d, .call { callee := .builtin .append, args := #[s, x], argTypes := #[25, 25] }, ty, pos, aft, g⟩
      (fun v' l' => ∃ c2, OwnSl 3 1 v' (X p ++ [id]).length ((X p ++ [id]).map intQ) c2 ∧ l' = qC b vs :: (csTo (upd cs p c2) 8 ++ F)) := by
  have hpm : ((bl, Obj.cells (List.toArray [.int .i64 id]) 3 (0, 0)) :: qC b vs :: (csTo cs 8 ++ F)).Perm (cs p ++ ((bl, Obj.cells (List.toArray [.int .i64 id]) 3 (0, 0)) :: qC b vs :: (csTo (upd cs p []) 8 ++ F))) := by
    refine (List.Perm.cons _ (List.Perm.cons _ ((csTo_split cs p 8 hp).append_right F))).trans ?_
    rw [List.append_assoc]
    exact List.perm_append_comm_assoc [(bl, Obj.cells (List.toArray [.int .i64 id]) 3 (0, 0)), qC b vs] (cs p) _
  refine OpE.re (Keep.of_perm hpm) (ce_append (k := 1) (yb := 8) (xs := (X p).map intQ) (news := [.int .i64 id]) (zs := [.int .i64 0]) hx hy rfl (hqs.own p hp) (List.mem_append_right _ List.mem_cons_self) (fun j u hj => by simpa using hj) rfl (by simp [Value.oneCell']) (by unfold maxLen; omega) (by omega)) ?_
  rintro v' _ ⟨c2, ho, rfl⟩
  refine ⟨_, ?_, c2, by rw [List.length_append, List.map_append]; exact ho, rfl⟩
  refine Keep.trans (Keep.of_perm (List.perm_append_comm_assoc c2 [(bl, Obj.cells (List.toArray [.int .i64 id]) 3 (0, 0)), qC b vs] _)) (.drop (.of_perm ?_))
  refine List.Perm.cons _ ?_
  show List.Perm (c2 ++ (csTo (upd cs p []) 8 ++ F)) _
  rw [← List.append_assoc]
  exact (csTo_join cs p hp c2).append_right F
end
/-- Add: error, lists -/
def addQ (X : Nat → List Int) (id prio : Int) : Int × (Nat → List Int) :=
  if id < 1 ∨ prio < 0 ∨ 7 < prio then (2, X) else if (findP X id).isSome then (16, X) else (0, upd X prio.toNat (X prio.toNat ++ [id]))
set_option pp.deepTerms false
set_option pp.deepTerms.threshold 4
set_option maxHeartbeats 400000
theorem add_any (b : Nat) (X : Nat → List Int) (lq : List Chunk) (id prio : Int) (hq : IsQ b X lq) (hb : ∀ p, p < 8 → (X p).length ≤ 1000000) (F : List Chunk) :
    Fn Tryz.prog 91 [.pointer (some ⟨b, 0, none⟩), .int .i64 id, .int .i64 prio] (lq ++ F) fun v l' => v = .int .i64 (addQ X id prio).1 ∧ ∃ lq', IsQ b (addQ X id prio).2 lq' ∧ l' = lq' ++ F := by
  have H := has_any b X lq id hq hb
  obtain ⟨vs, cs, hqs, rfl⟩ := hq
  refine fn_of_body Tryz.func91 rfl rfl fun E => ?_
  simp only [argF, Tryz.ntmps91]
  simp only [List.cons_append]
  by_cases h0 : id < 1 ∨ prio < 0 ∨ 7 < prio
  · have e : addQ X id prio = (2, X) := if_pos h0
    rw [e]
    rcases h0 with h0 | h0 | h0
    · refine gz ?_
      exact k_ret [] rfl .refl (by exact zRes) ⟨rfl, _, ⟨vs, cs, hqs, rfl⟩, rfl⟩
    · by_cases h1 : id < 1
      · refine gz ?_
        exact k_ret [] rfl .refl (by exact zRes) ⟨rfl, _, ⟨vs, cs, hqs, rfl⟩, rfl⟩
      · refine gz ?_
        exact k_ret [] rfl .refl (by exact zRes) ⟨rfl, _, ⟨vs, cs, hqs, rfl⟩, rfl⟩
    · by_cases h1 : id < 1
      · refine gz ?_
        exact k_ret [] rfl .refl (by exact zRes) ⟨rfl, _, ⟨vs, cs, hqs, rfl⟩, rfl⟩
      · refine gz ?_
        exact k_ret [] rfl .refl (by exact zRes) ⟨rfl, _, ⟨vs, cs, hqs, rfl⟩, rfl⟩
  · obtain ⟨p, rfl⟩ : ∃ p : Nat, prio = p := ⟨prio.toNat, by omega⟩
    have hp : p < 8 := by omega
    refine gz ?_
    refine t_q (q_call rfl rfl (fun l2 hl => H l2 fun c hc => hl c (List.mem_append_left F hc))) rfl rfl rfl ?_
    cases hf : (findP X id).isSome with
    | true =>
      have e : addQ X id p = (16, X) := by unfold addQ; rw [if_neg h0, if_pos hf]
      rw [e]
      refine gz ?_
      exact k_ret [] rfl .refl (by exact zRes) ⟨rfl, _, ⟨vs, cs, hqs, rfl⟩, rfl⟩
    | false =>
      have e : addQ X id p = (0, upd X p (X p ++ [id])) := by unfold addQ; rw [if_neg h0, if_neg (by rw [hf]; simp), Int.toNat_natCast]
      rw [e]
      have hg := qC_get vs p hp
      obtain ⟨v, hv⟩ : ∃ v, vs p = v := ⟨_, rfl⟩
      rw [hv] at hg
      refine gz ?_
      refine c_draw [(0, true), (1, true), (2, true), (3, true), (4, true), (5, true), (6, true), (7, true), (8, true), (11, true), (12, true), (9, false), (10, false), (13, true), (14, false)] [[], [], [], [], [2], [2, 4], [2, 3, 4, 5], [2, 3, 4, 5, 6], [], [8], [2, 3, 4, 5, 6, 7, 8, 9], [0], [0, 11], [0, 1, 2, 3, 4, 5, 6, 7, 8, 9, 10, 11, 12], [0, 1, 2, 3, 4, 5, 6, 7, 8, 9, 10, 11, 12, 13]] ([]) (by kernel_rfl) (by kernel_rfl) zAtt zHR ?_
      refine pz ?_
      apply pl_s (S := [qC b vs])
      · exact q_load rfl List.mem_cons_self hg
      · intro c hc; cases hc with
        | head => exact List.mem_cons_self
        | tail _ h => cases h
      · rfl
      · rfl
      · rfl
      refine pz ?_
      apply pl_eS
      · exact e_lit1 rfl rfl
      · rfl
      · rfl
      · rfl
      · intro _ _ _ c hc; cases hc
      · rintro _ _ ⟨bl, _, rfl, rfl⟩ x hx _ c hc
        cases hx with
        | head => cases hc with
          | head => exact .tail _ (.head _)
          | tail _ h => cases h
        | tail _ h => cases h
      rintro _ _ ⟨bl, _, rfl, rfl⟩
      refine pz ?_
      apply pl_eS
      · exact e_qapp hqs hp (hb p hp) (by rw [hv]; rfl) rfl
      · rfl
      · rfl
      · rfl
      · intro _ _ _ c hc; cases hc
      · exact fun _ _ _ x hx ha => anc_all (by kernel_rfl) hx ha
      rintro v' _ ⟨c2, ho, rfl⟩
      have hv1 : v'.oneCell' = true := ho.one
      refine pz ?_
      apply pl_nS
      · exact e_store rfl rfl hv1 .here (by simp [hp])
      · rfl
      · rfl
      · intro _ _ _ c hc; cases hc
      · exact fun _ _ _ x hx ha => anc_all (by kernel_rfl) hx ha
      rintro _ _ ⟨rfl, rfl⟩
      rw [qC_set vs p hp v']
      refine pz ?_
      refine gz ?_
      refine k_ret [] rfl .refl (by exact zRes) ⟨rfl, _, ⟨_, _, hqs.upd p _ v' c2 ho, rfl⟩, rfl⟩
end Go.Proofs.YtcjknmpogkofpaaGreat.Qu

/- Endpoints as plain data and their blocks; New; the endpoints at which a thread waits. -/
set_option linter.unusedVariables false
set_option linter.unusedSimpArgs false
namespace Go.Proofs.YtcjknmpogkofpaaGreat.En
open Go.RowKit
open Qu
set_option maxRecDepth 20000

structure Row where
  id : Int
  th : List Int
  sd : Bool
  pb : Nat
  v : Value
  cs : List Chunk
  st : Nat
def Row.ent (r : Row) : Ent := (r.id, .pointer (some ⟨r.pb, 0, none⟩), r.st)
abbrev Row.bl (r : Row) : Chunk := (r.pb, .cells (List.toArray [r.v, .bool r.sd]) 282 (0, 0))
def Row.ch (r : Row) : List Chunk := r.bl :: r.cs
def Row.d (r : Row) : Int × List Int × Bool := (r.id, r.th, r.sd)
abbrev enC (b m : Nat) : Chunk := (b, .cells #[.map (some m)] 272 (0, 0))
structure EB (b : Nat) (rows : List Row) (m clock : Nat) (lq : List Chunk) : Prop where
  eq : lq = enC b m :: (m, mapO .i64 (rows.map Row.ent) clock) :: rows.flatMap Row.ch
  own : ∀ r, r ∈ rows → OwnSl 3 1 r.v r.th.length (r.th.map intQ) r.cs
  st : ∀ r, r ∈ rows → r.st < clock
  nd : (rows.map Row.st).Nodup
  ids : (rows.map Row.id).Nodup
abbrev DE := List (Int × List Int × Bool)
def IsE (b : Nat) (D : DE) (lq : List Chunk) : Prop := ∃ rows m clock, rows.map Row.d = D ∧ EB b rows m clock lq
theorem EB.m1 {b : Nat} {rows : List Row} {m clock : Nat} {lq : List Chunk} (h : EB b rows m clock lq) : enC b m ∈ lq := by rw [h.eq]; exact .head _
theorem EB.m2 {b : Nat} {rows : List Row} {m clock : Nat} {lq : List Chunk} (h : EB b rows m clock lq) : (m, mapO .i64 (rows.map Row.ent) clock) ∈ lq := by rw [h.eq]; exact .tail _ (.head _)
theorem EB.m3 {b : Nat} {rows : List Row} {m clock : Nat} {lq : List Chunk} (h : EB b rows m clock lq) {r : Row} (hr : r ∈ rows) {c : Chunk} (hc : c ∈ r.ch) : c ∈ lq := by rw [h.eq]; exact .tail _ (.tail _ (List.mem_flatMap.2 ⟨r, hr, hc⟩))
theorem EB.ints {b : Nat} {rows : List Row} {m clock : Nat} {lq l : List Chunk} (h : EB b rows m clock lq) {r : Row} (hr : r ∈ rows) (hs : ∀ c, c ∈ lq → c ∈ l) : IntSl l r.v r.th := (h.own r hr).intsQ fun c hc => hs c (h.m3 hr (.tail _ hc))
theorem nd_inj {α β : Type} {f : α → β} : ∀ {l : List α}, (l.map f).Nodup → ∀ {x y : α}, x ∈ l → y ∈ l → f x = f y → x = y
  | [], _, x, y, h, _, _ => by cases h
  | z :: l, hn, x, y, hx, hy, e => by
    rw [List.map_cons, List.nodup_cons] at hn
    rcases List.mem_cons.1 hx with h1 | h1 <;> rcases List.mem_cons.1 hy with h2 | h2
    · rw [h1, h2]
    · exact absurd (List.mem_map.2 ⟨y, h2, by rw [← e, h1]⟩) hn.1
    · exact absurd (List.mem_map.2 ⟨x, h1, by rw [e, h2]⟩) hn.1
    · exact nd_inj hn.2 h1 h2 e
theorem filter_lt {α : Type} {p q : α → Bool} (hpq : ∀ x, p x = true → q x = true) : ∀ {l : List α} {x : α}, x ∈ l → q x = true → p x = false → (l.filter p).length < (l.filter q).length
  | [], x, h, _, _ => by cases h
  | y :: l, x, h, hq, hp => by
    have hle : ∀ (l : List α), (l.filter p).length ≤ (l.filter q).length := fun l => by
      induction l with
      | nil => exact Nat.le_refl _
      | cons z l ih =>
        rw [List.filter_cons, List.filter_cons]
        split
        · rename_i h1; rw [if_pos (hpq z h1)]; exact Nat.succ_le_succ ih
        · split
          · exact Nat.le_succ_of_le ih
          · exact ih
    rw [List.filter_cons, List.filter_cons]
    rcases List.mem_cons.1 h with rfl | h
    · rw [hp, if_neg (by simp), if_pos hq]; exact Nat.lt_succ_of_le (hle l)
    · have ih := filter_lt hpq h hq hp
      split
      · rename_i h1; rw [if_pos (hpq y h1)]; exact Nat.succ_lt_succ ih
      · split
        · exact Nat.lt_succ_of_lt ih
        · exact ih
set_option pp.deepTerms false
set_option pp.deepTerms.threshold 4
set_option maxHeartbeats 400000
theorem new_any (l : List Chunk) : Fn Tryz.prog 71 [] l fun v l' => ∃ b, v = .pointer (some ⟨b, 0, none⟩) ∧ ∃ lq, IsE b [] lq ∧ l' = lq ++ l := by
  refine fn_of_body Tryz.func71 rfl rfl fun E => ?_
  simp only [argF, Tryz.ntmps71]
  refine gz ?_
  refine t_e e_makeMap rfl rfl rfl ?_
  rintro _ _ ⟨m, hm, rfl, rfl⟩
  refine gz ?_
  refine t_e (e_boxA rfl) rfl rfl rfl ?_
  rintro _ _ ⟨b, hb, rfl, rfl⟩
  refine gz ?_
  exact k_ret [] rfl .refl (by exact zRes) ⟨b, rfl, [enC b m, (m, .map #[] 0)], ⟨[], m, 0, rfl, ⟨rfl, by simp, by simp, by simp, by simp⟩⟩, rfl⟩
end Go.Proofs.YtcjknmpogkofpaaGreat.En

/- Add, Drop, List, First of endpoints; slices.Clone. -/
set_option linter.unusedVariables false
set_option linter.unusedSimpArgs false
namespace Go.Proofs.YtcjknmpogkofpaaGreat.En
open Go.RowKit
open Qu
set_option maxRecDepth 20000

def findD (D : DE) (id : Int) : Option (List Int × Bool) := (D.find? fun x => x.1 == id).map (·.2)
def addD (D : DE) (id : Int) : Int × DE := if id < 1 then (2, D) else if (findD D id).isSome then (11, D) else (0, D ++ [(id, [], false)])
def dropD (D : DE) (id : Int) : List Int × Int × DE := match findD D id with
  | some x => (x.1, 0, D.eraseP fun x => x.1 == id)
  | none => ([], 2, D)
def listD (D : DE) (id : Int) : List Int × Bool := match findD D id with
  | some x => if x.1.length = 0 then ([], false) else x
  | none => ([], false)
theorem getE_none {rows : List Row} {a : Int} (h : ∀ r, r ∈ rows → r.id ≠ a) : getE a (rows.map Row.ent) = none := by
  unfold getE
  rw [findE_none.2 fun e he => by
    rw [List.mem_map] at he
    obtain ⟨r, hr, rfl⟩ := he
    exact h r hr]; rfl
theorem getE_some {rows : List Row} (hn : (rows.map Row.id).Nodup) {r : Row} (hr : r ∈ rows) : getE r.id (rows.map Row.ent) = some (.pointer (some ⟨r.pb, 0, none⟩)) := by
  unfold getE
  cases h : findE r.id (rows.map Row.ent) 0 with
  | none =>
    have := findE_none.1 h _ (List.mem_map.2 ⟨r, hr, rfl⟩)
    exact absurd rfl this
  | some p =>
    obtain ⟨i, v⟩ := p
    obtain ⟨_, e, he, h1, h2, _⟩ := findE_some h
    have hm := List.mem_of_getElem? he
    rw [List.mem_map] at hm
    obtain ⟨r', hr', rfl⟩ := hm
    have : r' = r := nd_inj hn hr' hr h1
    subst this
    rw [← h2]; rfl
theorem findD_none {rows : List Row} {a : Int} (h : ∀ r, r ∈ rows → r.id ≠ a) : findD (rows.map Row.d) a = none := by
  unfold findD
  rw [List.find?_eq_none.2 fun x hx => by
    rw [List.mem_map] at hx
    obtain ⟨r, hr, rfl⟩ := hx
    simpa [Row.d] using h r hr]; rfl
theorem findD_some {rows : List Row} (hn : (rows.map Row.id).Nodup) {r : Row} (hr : r ∈ rows) : findD (rows.map Row.d) r.id = some (r.th, r.sd) := by
  unfold findD
  have hs : ((rows.map Row.d).find? fun x => x.1 == r.id).isSome = true := List.find?_isSome.2 ⟨r.d, List.mem_map.2 ⟨r, hr, rfl⟩, by simp [Row.d]⟩
  obtain ⟨x, hx⟩ := Option.isSome_iff_exists.1 hs
  rw [hx]
  have h1 := List.find?_some hx
  have hm := List.mem_of_find?_eq_some hx
  rw [List.mem_map] at hm
  obtain ⟨r', hr', rfl⟩ := hm
  have : r' = r := nd_inj hn hr' hr (by simpa [Row.d] using h1)
  subst this; rfl
theorem setE_none {rows : List Row} {a : Int} (h : ∀ r, r ∈ rows → r.id ≠ a) (v : Value) (clock : Nat) : setE a v clock (rows.map Row.ent) = (rows.map Row.ent ++ [(a, v, clock)], clock + 1) := by
  unfold setE
  rw [findE_none.2 fun e he => by
    rw [List.mem_map] at he
    obtain ⟨r, hr, rfl⟩ := he
    exact h r hr]
theorem findE_mid {a : Int} {v : Value} {s : Nat} : ∀ (A B : List Ent) (i : Nat), (∀ x, x ∈ A → x.1 ≠ a) → findE a (A ++ (a, v, s) :: B) i = some (i + A.length, v)
  | [], B, i, _ => by simp [findE]
  | x :: A, B, i, h => by
    have := h x List.mem_cons_self
    rw [List.cons_append, findE, if_neg (fun e => this e.symm), findE_mid A B (i + 1) fun y hy => h y (List.mem_cons_of_mem _ hy)]
    simp; omega
theorem delE_mid {a : Int} {v : Value} {s : Nat} (A B : List Ent) (h : ∀ x, x ∈ A → x.1 ≠ a) : delE a (A ++ (a, v, s) :: B) = A ++ B := by
  unfold delE
  rw [findE_mid A B 0 h]
  simp only [Nat.zero_add]
  rw [List.eraseIdx_append_of_length_le (Nat.le_refl _), Nat.sub_self]; rfl
theorem EB.split {b : Nat} {rows : List Row} {m clock : Nat} {lq : List Chunk} (h : EB b rows m clock lq) {r : Row} (hr : r ∈ rows) : ∃ A B, rows = A ++ r :: B ∧ (∀ x, x ∈ A → x.id ≠ r.id) ∧ (∀ x, x ∈ B → x.id ≠ r.id) := by
  obtain ⟨A, B, rfl⟩ := List.append_of_mem hr
  have hn := h.ids
  rw [List.map_append, List.map_cons, List.nodup_append] at hn
  obtain ⟨h1, h2, h3⟩ := hn
  rw [List.nodup_cons] at h2
  exact ⟨A, B, rfl, fun x hx e => h3 _ (List.mem_map.2 ⟨x, hx, rfl⟩) _ List.mem_cons_self e, fun x hx e => h2.1 (List.mem_map.2 ⟨x, hx, e⟩)⟩
set_option pp.deepTerms false
set_option pp.deepTerms.threshold 4
set_option maxHeartbeats 400000
theorem add_any (b : Nat) (D : DE) (lq : List Chunk) (id : Int) (hq : IsE b D lq) (F : List Chunk) :
    Fn Tryz.prog 81 [.pointer (some ⟨b, 0, none⟩), .int .i64 id] (lq ++ F) fun v l' => v = .int .i64 (addD D id).1 ∧ ∃ lq', IsE b (addD D id).2 lq' ∧ l' = lq' ++ F := by
  obtain ⟨rows, m, clock, rfl, hE⟩ := hq
  refine fn_of_body Tryz.func81 rfl rfl fun E => ?_
  simp only [argF, Tryz.ntmps81]
  by_cases h0 : id < 1
  · rw [show addD (rows.map Row.d) id = (2, rows.map Row.d) from if_pos h0]
    refine gz ?_
    exact k_ret [] rfl .refl (by exact zRes) ⟨rfl, _, ⟨rows, m, clock, rfl, hE⟩, rfl⟩
  have hEq := hE.eq
  by_cases h1 : ∃ r, r ∈ rows ∧ r.id = id
  · obtain ⟨r, hr, rfl⟩ := h1
    have hg := getE_some hE.ids hr
    rw [show addD (rows.map Row.d) r.id = (11, rows.map Row.d) by unfold addD; rw [if_neg h0, findD_some hE.ids hr]; rfl]
    rw [hEq]
    simp only [List.cons_append]
    refine gz ?_
    rw [hg]
    refine gz ?_
    refine k_ret [] rfl .refl (by exact zRes) ⟨rfl, _, ⟨rows, m, clock, rfl, hE⟩, by rw [hEq]; rfl⟩
  · have hno : ∀ r, r ∈ rows → r.id ≠ id := fun r hr e => h1 ⟨r, hr, e⟩
    have hg := getE_none hno
    rw [show addD (rows.map Row.d) id = (0, rows.map Row.d ++ [(id, [], false)]) by unfold addD; rw [if_neg h0, findD_none hno]; rfl]
    rw [hEq]
    simp only [List.cons_append]
    refine gz ?_
    rw [hg]
    refine gz ?_
    refine t_e (e_boxA rfl) rfl rfl rfl ?_
    rintro _ _ ⟨pb, hpb, rfl, rfl⟩
    refine t_n (e_mapUpdate rfl rfl rfl (by exact zUpd)) rfl rfl ?_
    rintro _ _ ⟨rfl, rfl⟩
    rw [setE_none hno]
    refine gz ?_
    obtain ⟨r, hr⟩ : ∃ r : Row, r = ⟨id, [], false, pb, .slice none 0 0, [], clock⟩ := ⟨_, rfl⟩
    refine k_ret [] rfl (l' := (enC b m :: (m, mapO .i64 ((rows ++ [r]).map Row.ent) (clock + 1)) :: (rows ++ [r]).flatMap Row.ch) ++ F) ?_ (by exact zRes) ⟨rfl, _, ⟨rows ++ [r], m, clock + 1, by rw [List.map_append, hr]; rfl, ⟨rfl, fun x hx => ?_, fun x hx => ?_, ?_, ?_⟩⟩, rfl⟩
    · rw [List.map_append, List.flatMap_append, hr]
      refine .of_perm ?_
      show List.Perm ((pb, _) :: enC b m :: (m, _) :: (rows.flatMap Row.ch ++ F)) (enC b m :: (m, _) :: ((rows.flatMap Row.ch ++ [_]) ++ F))
      refine (List.Perm.swap _ _ _).trans (List.Perm.cons _ ((List.Perm.swap _ _ _).trans (List.Perm.cons _ ?_)))
      rw [List.append_assoc]
      exact List.perm_middle.symm
    · rcases List.mem_append.1 hx with hx | hx
      · exact hE.own x hx
      · rw [List.mem_singleton.1 hx, hr]; exact OwnSl.nil _ _
    · rcases List.mem_append.1 hx with hx | hx
      · exact Nat.lt_succ_of_lt (hE.st x hx)
      · rw [List.mem_singleton.1 hx, hr]; exact Nat.lt_succ_self _
    · rw [List.map_append, List.nodup_append]
      refine ⟨hE.nd, by simp, fun x hx y hy => ?_⟩
      rw [List.mem_map] at hx hy
      obtain ⟨x', hx', rfl⟩ := hx
      obtain ⟨y', hy', rfl⟩ := hy
      have := hE.st x' hx'
      rw [List.mem_singleton.1 hy', hr]; simp only; omega
    · rw [List.map_append, List.nodup_append]
      refine ⟨hE.ids, by simp, fun x hx y hy => ?_⟩
      rw [List.mem_map] at hx hy
      obtain ⟨x', hx', rfl⟩ := hx
      obtain ⟨y', hy', rfl⟩ := hy
      rw [List.mem_singleton.1 hy', hr]; exact hno x' hx'
end Go.Proofs.YtcjknmpogkofpaaGreat.En
