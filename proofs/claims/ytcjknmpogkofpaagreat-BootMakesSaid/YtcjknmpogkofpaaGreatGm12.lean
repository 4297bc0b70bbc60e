/- Laws that the statement's proof leans on (joined out of several texts). -/
import Derived.Test.YtcjknmpogkofpaaGreatGm3
import Derived.Test.YtcjknmpogkofpaaGreatGm11
import Derived.Test.YtcjknmpogkofpaaGreatGm4
import Derived.Test.YtcjknmpogkofpaaGreatGm5
import Derived.Test.YtcjknmpogkofpaaGreatGm6
import Derived.Test.YtcjknmpogkofpaaGreatGm10
import Derived.Test.YtcjknmpogkofpaaGreatGm8
set_option linter.unusedVariables false
set_option linter.unusedSimpArgs false
namespace Go.Proofs.YtcjknmpogkofpaaGreat.En
open Go.RowKit
open Qu
set_option maxRecDepth 20000
def findD (D : DE) (id : Int) : Option (List Int × Bool) := (D.find? fun x => x.1 == id).map (·.2)
def addD (D : DE) (id : Int) : Int × DE := if id < 1 then (2, D) else if (findD D id).isSome then (11, D) else (0, D ++ [(id, [], false)])
theorem getE_none {rows : List Row} {a : Int} (h : ∀ r, r ∈ rows → r.id ≠ a) : getE a (rows.map Row.ent) = none := by
  unfold getE
  rw [findE_none.2 fun e he => by
    rw [List.mem_map] at he
    obtain ⟨r, hr, rfl⟩ := he
    exact h r hr]; rfl
theorem getE_some {rows : List Row} (hn : (rows.map Row.id).Nodup) {r : Row} (hr : r ∈ rows) : getE r.id (rows.map Row.ent) = some (.pointer (some ⟨r.pb, 0, none⟩)) := by
  unfold getE
  cases h : findE r.id (rows.map Row.ent) 0 with
  | none =>
    have := findE_none.1 h _ (List.mem_map.2 ⟨r, hr, rfl⟩)
    exact absurd rfl this
  | some p =>
    obtain ⟨i, v⟩ := p
    obtain ⟨_, e, he, h1, h2, _⟩ := findE_some h
    have hm := List.mem_of_getElem? he
    rw [List.mem_map] at hm
    obtain ⟨r', hr', rfl⟩ := hm
    have : r' = r := nd_inj hn hr' hr h1
    subst this
    rw [← h2]; rfl
theorem findD_none {rows : List Row} {a : Int} (h : ∀ r, r ∈ rows → r.id ≠ a) : findD (rows.map Row.d) a = none := by
  unfold findD
  rw [List.find?_eq_none.2 fun x hx => by
    rw [List.mem_map] at hx
    obtain ⟨r, hr, rfl⟩ := hx
    simpa [Row.d] using h r hr]; rfl
theorem findD_some {rows : List Row} (hn : (rows.map Row.id).Nodup) {r : Row} (hr : r ∈ rows) : findD (rows.map Row.d) r.id = some (r.th, r.sd) := by
  unfold findD
  have hs : ((rows.map Row.d).find? fun x => x.1 == r.id).isSome = true := List.find?_isSome.2 ⟨r.d, List.mem_map.2 ⟨r, hr, rfl⟩, by simp [Row.d]⟩
  obtain ⟨x, hx⟩ := Option.isSome_iff_exists.1 hs
  rw [hx]
  have h1 := List.find?_some hx
  have hm := List.mem_of_find?_eq_some hx
  rw [List.mem_map] at hm
  obtain ⟨r', hr', rfl⟩ := hm
  have : r' = r := nd_inj hn hr' hr (by simpa [Row.d] using h1)
  subst this; rfl
theorem setE_none {rows : List Row} {a : Int} (h : ∀ r, r ∈ rows → r.id ≠ a) (v : Value) (clock : Nat) : setE a v clock (rows.map Row.ent) = (rows.map Row.ent ++ [(a, v, clock)], clock + 1) := by
  unfold setE
  rw [findE_none.2 fun e he => by
    rw [List.mem_map] at he
    obtain ⟨r, hr, rfl⟩ := he
    exact h r hr]
set_option maxHeartbeats 400000
theorem add_any (b : Nat) (D : DE) (lq : List Chunk) (id : Int) (hq : IsE b D lq) (F : List Chunk) :
    Fn Tryz.prog 81 [.pointer (some ⟨b, 0, none⟩), .int .i64 id] (lq ++ F) fun v l' => v = .int .i64 (addD D id).1 ∧ ∃ lq', IsE b (addD D id).2 lq' ∧ l' = lq' ++ F := by
  obtain ⟨rows, m, clock, rfl, hE⟩ := hq
  refine fn_of_body Tryz.func81 rfl rfl fun E => ?_
  simp only [argF, Tryz.ntmps81]
  by_cases h0 : id < 1
  · rw [show addD (rows.map Row.d) id = (2, rows.map Row.d) from if_pos h0]
    refine gz ?_
    exact k_ret [] rfl .refl (by exact zRes) ⟨rfl, _, ⟨rows, m, clock, rfl, hE⟩, rfl⟩
  have hEq := hE.eq
  by_cases h1 : ∃ r, r ∈ rows ∧ r.id = id
  · obtain ⟨r, hr, rfl⟩ := h1
    have hg := getE_some hE.ids hr
    rw [show addD (rows.map Row.d) r.id = (11, rows.map Row.d) by unfold addD; rw [if_neg h0, findD_some hE.ids hr]; rfl]
    rw [hEq]
    simp only [List.cons_append]
    refine gz ?_
    rw [hg]
    refine gz ?_
    refine k_ret [] rfl .refl (by exact zRes) ⟨rfl, _, ⟨rows, m, clock, rfl, hE⟩, by rw [hEq]; rfl⟩
  · have hno : ∀ r, r ∈ rows → r.id ≠ id := fun r hr e => h1 ⟨r, hr, e⟩
    have hg := getE_none hno
    rw [show addD (rows.map Row.d) id = (0, rows.map Row.d ++ [(id, [], false)]) by unfold addD; rw [if_neg h0, findD_none hno]; rfl]
    rw [hEq]
    simp only [List.cons_append]
    refine gz ?_
    rw [hg]
    refine gz ?_
    refine t_e (e_boxA rfl) rfl rfl rfl ?_
    rintro _ _ ⟨pb, hpb, rfl, rfl⟩
    refine t_n (e_mapUpdate rfl rfl rfl (by exact zUpd)) rfl rfl ?_
    rintro _ _ ⟨rfl, rfl⟩
    rw [setE_none hno]
    refine gz ?_
    obtain ⟨r, hr⟩ : ∃ r : Row, r = ⟨id, [], false, pb, .slice none 0 0, [], clock⟩ := ⟨_, rfl⟩
    refine k_ret [] rfl (l' := (enC b m :: (m, mapO .i64 ((rows ++ [r]).map Row.ent) (clock + 1)) :: (rows ++ [r]).flatMap Row.ch) ++ F) ?_ (by exact zRes) ⟨rfl, _, ⟨rows ++ [r], m, clock + 1, by rw [List.map_append, hr]; rfl, ⟨rfl, fun x hx => ?_, fun x hx => ?_, ?_, ?_⟩⟩, rfl⟩
    · rw [List.map_append, List.flatMap_append, hr]
      refine .of_perm ?_
      show List.Perm ((pb, _) :: enC b m :: (m, _) :: (rows.flatMap Row.ch ++ F)) (enC b m :: (m, _) :: ((rows.flatMap Row.ch ++ [_]) ++ F))
      refine (List.Perm.swap _ _ _).trans (List.Perm.cons _ ((List.Perm.swap _ _ _).trans (List.Perm.cons _ ?_)))
      rw [List.append_assoc]
      exact List.perm_middle.symm
    · rcases List.mem_append.1 hx with hx | hx
      · exact hE.own x hx
      · rw [List.mem_singleton.1 hx, hr]; exact OwnSl.nil _ _
    · rcases List.mem_append.1 hx with hx | hx
      · exact Nat.lt_succ_of_lt (hE.st x hx)
      · rw [List.mem_singleton.1 hx, hr]; exact Nat.lt_succ_self _
    · rw [List.map_append, List.nodup_append]
      refine ⟨hE.nd, by simp, fun x hx y hy => ?_⟩
      rw [List.mem_map] at hx hy
      obtain ⟨x', hx', rfl⟩ := hx
      obtain ⟨y', hy', rfl⟩ := hy
      have := hE.st x' hx'
      rw [List.mem_singleton.1 hy', hr]; simp only; omega
    · rw [List.map_append, List.nodup_append]
      refine ⟨hE.ids, by simp, fun x hx y hy => ?_⟩
      rw [List.mem_map] at hx hy
      obtain ⟨x', hx', rfl⟩ := hx
      obtain ⟨y', hy', rfl⟩ := hy
      rw [List.mem_singleton.1 hy', hr]; exact hno x' hx'
end Go.Proofs.YtcjknmpogkofpaaGreat.En
namespace Go.Proofs.YtcjknmpogkofpaaGreat.En
open Go.RowKit
set_option maxRecDepth 20000
def Row.c3 (r : Row) : List Value := [.int .i64 r.id, r.v, .bool r.sd]
def rc3 (rows : List Row) : List Value := rows.flatMap Row.c3
theorem rc3_append (A B : List Row) : rc3 (A ++ B) = rc3 A ++ rc3 B := List.flatMap_append
theorem rc3_cons (r : Row) (B : List Row) : rc3 (r :: B) = .int .i64 r.id :: r.v :: .bool r.sd :: rc3 B := rfl
theorem rc3_len (rows : List Row) : (rc3 rows).length = rows.length * 3 := by
  induction rows with
  | nil => rfl
  | cons r rows ih => rw [rc3_cons]; simp only [List.length_cons, ih]; omega
theorem rc3_get : ∀ (rows : List Row) (i : Nat) (r : Row), rows[i]? = some r → (rc3 rows)[i * 3]? = some (.int .i64 r.id) ∧ (rc3 rows)[i * 3 + 1]? = some r.v ∧ (rc3 rows)[i * 3 + 2]? = some (.bool r.sd)
  | [], i, r, h => by simp at h
  | z :: rows, 0, r, h => by
    simp only [List.getElem?_cons_zero, Option.some.injEq] at h
    subst h; exact ⟨rfl, rfl, rfl⟩
  | z :: rows, i + 1, r, h => by
    obtain ⟨h1, h2, h3⟩ := rc3_get rows i r (by simpa using h)
    rw [rc3_cons, Nat.succ_mul]
    exact ⟨by simpa using h1, by simpa using h2, by simpa using h3⟩
abbrev rfC (b : Nat) (v : Value) : Chunk := (b, .cells #[v] 206 (0, 0))
structure RB (b : Nat) (rows : List Row) (vs : Value) (cs0 lr : List Chunk) : Prop where
  eq : lr = rfC b vs :: (cs0 ++ rows.flatMap Row.cs)
  sl : OwnSl 306 3 vs rows.length (rc3 rows) cs0
  own : ∀ r, r ∈ rows → OwnSl 3 1 r.v r.th.length (r.th.map intQ) r.cs
def IsF (b : Nat) (D : DE) (lr : List Chunk) : Prop := ∃ rows vs cs0, rows.map Row.d = D ∧ RB b rows vs cs0 lr
def ThSl (l : List Chunk) (vs : Value) (rows : List Row) : Prop :=
  ∃ a cap, vs = .slice a rows.length cap ∧ (0 < rows.length → ∃ gb off cc t fz, a = some ⟨gb, off, none⟩ ∧ (gb, Obj.cells cc t fz) ∈ l ∧ ∀ i r, rows[i]? = some r → cc[off + i * 3]? = some (.int .i64 r.id) ∧ cc[off + i * 3 + 1]? = some r.v ∧ cc[off + i * 3 + 2]? = some (.bool r.sd))
theorem RB.view {b : Nat} {rows : List Row} {vs : Value} {cs0 lr l : List Chunk} (h : RB b rows vs cs0 lr) (hs : ∀ c, c ∈ lr → c ∈ l) : ThSl l vs rows := by
  have hm : ∀ c, c ∈ cs0 → c ∈ l := fun c hc => hs c (by rw [h.eq]; exact .tail _ (List.mem_append_left _ hc))
  rcases h.sl.2 with ⟨rfl, h0, rfl⟩ | ⟨gb, cap, sp, rfl, rfl, _⟩
  · exact ⟨none, 0, by rw [h0], fun h => by omega⟩
  · refine ⟨_, cap, rfl, fun h0 => ⟨gb, 0, _, 306, (0, 0), rfl, hm _ List.mem_cons_self, fun i r hr => ?_⟩⟩
    have hlt := (List.getElem?_eq_some_iff.1 hr).1
    obtain ⟨h1, h2, h3⟩ := rc3_get rows i r hr
    refine ⟨?_, ?_, ?_⟩ <;> rw [Nat.zero_add, List.getElem?_toArray, List.getElem?_append_left (by rw [rc3_len]; omega)] <;> assumption
theorem RB.m1 {b : Nat} {rows : List Row} {vs : Value} {cs0 lr : List Chunk} (h : RB b rows vs cs0 lr) : rfC b vs ∈ lr := by rw [h.eq]; exact .head _
def idsR (rows : List Row) : List Int := rows.map Row.id
theorem idsR_get {rows : List Row} {k : Nat} {r : Row} (h : rows[k]? = some r) : (idsR rows)[k]? = some r.id := by simp [idsR, h]
theorem idsR_len (rows : List Row) : (idsR rows).length = rows.length := by simp [idsR]
theorem at_split {rows : List Row} {id : Int} (h : id ∈ idsR rows) : ∃ A r B, rows = A ++ r :: B ∧ r.id = id ∧ (∀ x, x ∈ A → x.id ≠ id) ∧ (idsR rows).idxOf id = A.length ∧ rows[A.length]? = some r := by
  induction rows with
  | nil => cases h
  | cons z rows ih =>
    by_cases e : z.id = id
    · exact ⟨[], z, rows, rfl, e, by simp, by simp [idsR, e], rfl⟩
    · have h' : id ∈ idsR rows := by
        rcases List.mem_cons.1 h with h1 | h1
        · exact absurd h1.symm e
        · exact h1
      obtain ⟨A, r, B, h1, h2, h3, h4, h5⟩ := ih h'
      refine ⟨z :: A, r, B, by rw [h1]; rfl, h2, fun x hx => ?_, ?_, ?_⟩
      · rcases List.mem_cons.1 hx with rfl | hx
        · exact e
        · exact h3 x hx
      · show (z.id :: idsR rows).idxOf id = _
        rw [List.idxOf_cons, show (z.id == id) = false by simpa using e, h4]; rfl
      · simpa using h5
theorem findD_split {A B : List Row} {r : Row} (hA : ∀ x, x ∈ A → x.id ≠ r.id) : findD ((A ++ r :: B).map Row.d) r.id = some (r.th, r.sd) := by
  unfold findD
  rw [List.map_append, List.find?_append, List.find?_eq_none.2 fun x hx => by
    rw [List.mem_map] at hx
    obtain ⟨y, hy, rfl⟩ := hx
    simpa [Row.d] using hA y hy]
  rw [List.map_cons, List.find?_cons_of_pos (by simp [Row.d])]; rfl
theorem findD_not {rows : List Row} {id : Int} (h : id ∉ idsR rows) : findD (rows.map Row.d) id = none := findD_none fun r hr e => h (List.mem_map.2 ⟨r, hr, e⟩)
set_option maxHeartbeats 400000
theorem rat_any (b : Nat) (rows : List Row) (vs : Value) (cs0 lr : List Chunk) (id : Int) (hr : RB b rows vs cs0 lr) (hn : rows.length ≤ 1000000) (l : List Chunk) (hsub : ∀ c, c ∈ lr → c ∈ l) :
    Fn Tryz.prog 161 [.pointer (some ⟨b, 0, none⟩), .int .i64 id] l fun v l' => v = .int .i64 (Qu.indexI (idsR rows) id) ∧ l' = l := by
  have hq : rfC b vs ∈ l := hsub _ hr.m1
  obtain ⟨a, cap, rfl, hI⟩ := hr.view hsub
  refine fn_of_body Tryz.func161 rfl rfl fun E => ?_
  simp only [argF, Tryz.ntmps161]
  refine gz ?_
  refine k_loop (α := Nat) (fun k => [(0, .pointer (some ⟨b, 0, none⟩)), (1, .int .i64 id), (5, .int .i64 k)]) (fun k => l) (fun k => k ≤ rows.length ∧ ∀ j, j < k → (idsR rows)[j]? ≠ some id) (fun k => rows.length - k) 0 ⟨Nat.zero_le _, fun j h => by omega⟩ ⟨rfl, rfl, rfl, trivial⟩ .refl ?_
  rintro k ⟨hk, hj⟩
  by_cases hlt : k < rows.length
  · obtain ⟨gb, off, cc, t, fz, rfl, hm, hc⟩ := hI (by omega)
    obtain ⟨y, hy⟩ : ∃ y, rows[k]? = some y := ⟨_, List.getElem?_eq_getElem hlt⟩
    have e1 := idsR_get hy
    obtain ⟨g1, g2, g3⟩ := hc k y hy
    by_cases hxy : y.id = id
    · rw [hxy] at e1
      obtain ⟨i1, i2⟩ := Qu.idxOf_at id _ k e1 hj
      refine gz ?_
      refine k_ret [] rfl .refl (by exact zRes) ⟨?_, rfl⟩
      simp only [tup, Qu.indexI, if_pos i2, i1]
    · refine gz ?_
      exact k_next (k + 1) ⟨by omega, fun j hjk => by
        by_cases e : j = k
        · subst e; rw [e1]; intro h; exact hxy (by cases h; rfl)
        · exact hj j (by omega)⟩ (by omega) ⟨rfl, rfl, rfl, trivial⟩ .refl
  · obtain rfl : k = rows.length := by omega
    refine gz ?_
    refine k_ret [] rfl .refl (by exact zRes) ⟨?_, rfl⟩
    have : id ∉ idsR rows := fun hm => by
      obtain ⟨j, hjl, hj2⟩ := List.getElem_of_mem hm
      exact hj j (by rw [idsR_len] at hjl; exact hjl) (by rw [List.getElem?_eq_getElem hjl, hj2])
    simp only [tup, Qu.indexI, if_neg this]
theorem rc3_ones (rows : List Row) (h : ∀ r, r ∈ rows → r.v.oneCell' = true) : ∀ u, u ∈ rc3 rows → u.oneCell' = true := fun u hu => by
  unfold rc3 at hu
  rw [List.mem_flatMap] at hu
  obtain ⟨r, hr, hu⟩ := hu
  unfold Row.c3 at hu
  simp only [List.mem_cons, List.not_mem_nil, or_false] at hu
  rcases hu with rfl | rfl | rfl
  · rfl
  · exact h r hr
  · rfl
theorem RB.ones {b : Nat} {rows : List Row} {vs : Value} {cs0 lr : List Chunk} (h : RB b rows vs cs0 lr) : ∀ r, r ∈ rows → r.v.oneCell' = true := fun r hr => (h.own r hr).one
theorem radd_any (b : Nat) (D : DE) (lr : List Chunk) (id : Int) (hr : IsF b D lr) (hn : D.length ≤ 900000) (F : List Chunk) :
    Fn Tryz.prog 103 [.pointer (some ⟨b, 0, none⟩), .int .i64 id] (lr ++ F) fun v l' => v = .int .i64 (addD D id).1 ∧ ∃ lr', IsF b (addD D id).2 lr' ∧ l' = lr' ++ F := by
  obtain ⟨rows, vs, cs0, rfl, hR⟩ := hr
  rw [List.length_map] at hn
  have H := rat_any b rows vs cs0 lr id hR (by omega)
  refine fn_of_body Tryz.func103 rfl rfl fun E => ?_
  simp only [argF, Tryz.ntmps103]
  by_cases h0 : id < 1
  · rw [show addD (rows.map Row.d) id = (2, rows.map Row.d) from if_pos h0]
    refine gz ?_
    exact k_ret [] rfl .refl (by exact zRes) ⟨rfl, _, ⟨rows, vs, cs0, rfl, hR⟩, rfl⟩
  refine gz ?_
  by_cases hin : id ∈ idsR rows
  · obtain ⟨A, r, B, rfl, rfl, hA, hix, hget⟩ := at_split hin
    rw [show addD ((A ++ r :: B).map Row.d) r.id = (11, (A ++ r :: B).map Row.d) by unfold addD; rw [if_neg h0, findD_split hA]; rfl]
    rw [show Qu.indexI (idsR (A ++ r :: B)) r.id = ((A.length : Nat) : Int) by unfold Qu.indexI; rw [if_pos hin, hix]] at H
    refine t_q (q_call rfl rfl (fun l2 hl => H l2 fun c hc => hl c (List.mem_append_left _ hc))) rfl rfl rfl ?_
    refine gz ?_
    exact k_ret [] rfl .refl (by exact zRes) ⟨rfl, _, ⟨_, vs, cs0, rfl, hR⟩, rfl⟩
  · rw [show addD (rows.map Row.d) id = (0, rows.map Row.d ++ [(id, [], false)]) by unfold addD; rw [if_neg h0, findD_not hin]; rfl]
    rw [show Qu.indexI (idsR rows) id = -1 from if_neg hin] at H
    refine t_q (q_call rfl rfl (fun l2 hl => H l2 fun c hc => hl c (List.mem_append_left _ hc))) rfl rfl rfl ?_
    have hEq := hR.eq
    have hone := rc3_ones rows hR.ones
    obtain ⟨pv, cap, hvs⟩ := hR.sl.shape
    have ho := hR.sl
    rw [hEq]
    simp only [List.cons_append, List.append_assoc]
    refine gz ?_
    apply t_e
    · apply e_copy (zs := [.int .i64 0, .slice none 0 0, .bool false])
      · rfl
      · rfl
      · rfl
      · exact ho
      · exact fun c hc => .tail _ (List.mem_append_left _ hc)
      · exact hone
      · omega
      · decide
    · rfl
    · rfl
    · rfl
    rintro v1 _ ⟨c1, ho1, rfl⟩
    refine gz ?_
    apply t_e
    · apply e_litA (ws := [.int .i64 id, .slice none 0 0, .bool false]) (zs := [.int .i64 0, .slice none 0 0, .bool false])
      · rfl
      · rfl
      · rfl
      · decide
      · decide
    · rfl
    · rfl
    · rfl
    rintro _ _ ⟨bl, _, rfl, rfl⟩
    apply t_e
    · apply e_appX (X := []) (cs := c1) (zs := [.int .i64 0, .slice none 0 0, .bool false]) (ws := [.int .i64 id, .slice none 0 0, .bool false])
      · rfl
      · rfl
      · rfl
      · exact ho1
      · rfl
      · simp [Value.oneCell']
      · omega
      · decide
    · rfl
    · rfl
    · rfl
    rintro v2 _ ⟨c2, ho2, rfl⟩
    have hv1 : v2.oneCell' = true := ho2.one
    simp only [List.nil_append]
    refine gz ?_
    apply t_n
    · exact e_store rfl rfl hv1 (upd_mid _ _ _ _ _) (by simp)
    · rfl
    · rfl
    rintro _ _ ⟨rfl, rfl⟩
    refine gz ?_
    obtain ⟨r, hr⟩ : ∃ r : Row, r = ⟨id, [], false, 0, .slice none 0 0, [], 0⟩ := ⟨_, rfl⟩
    refine k_ret [] rfl (l' := (rfC b v2 :: (c2 ++ (rows ++ [r]).flatMap Row.cs)) ++ F) ?_ (by exact zRes) ⟨rfl, _, ⟨rows ++ [r], v2, c2, by rw [List.map_append, hr]; rfl, ⟨rfl, ?_, fun x hx => ?_⟩⟩, rfl⟩
    · rw [List.flatMap_append, hr]
      simp only [List.flatMap_cons, List.flatMap_nil, List.append_nil, List.cons_append, List.append_assoc]
      exact keep_swap _ cs0 c2 _
    · rw [List.length_append, rc3_append, hr]; exact ho2
    · rcases List.mem_append.1 hx with hx | hx
      · exact hR.own x hx
      · rw [List.mem_singleton.1 hx, hr]; exact OwnSl.nil _ _
end Go.Proofs.YtcjknmpogkofpaaGreat.En
namespace Go.Proofs.YtcjknmpogkofpaaGreat
open Go.RowKit
set_option maxRecDepth 20000
theorem tnew_any (l : List Chunk) : Fn Tryz.prog 136 [] l fun v l' => ∃ b c, v = .pointer (some ⟨b, 0, none⟩) ∧ l' = (b, c) :: l := by
  refine fn_of_body Tryz.func136 rfl rfl fun E => ?_
  simp only [argF, Tryz.ntmps136]
  refine gzU ?_
  (first | refine t_e (e_box1 rfl rfl) rfl rfl rfl ?_ | refine t_e (e_boxA rfl) rfl rfl rfl ?_); rintro _ _ ⟨b, _, rfl, rfl⟩
  refine gzU ?_
  exact k_ret [] rfl .refl (by exact zRes) ⟨_, _, rfl, rfl⟩
abbrev coC (b : Nat) (v : Value) : Chunk := (b, .cells (List.toArray [v]) 161 (0, 0))
def IsCo (b n : Nat) (lq : List Chunk) : Prop := ∃ v xs cs, OwnSl 265 3 v n xs cs ∧ lq = coC b v :: cs
set_option maxHeartbeats 1000000 in
theorem cnew_any (n : Nat) (h1 : 1 ≤ n) (h2 : n ≤ 3) (l : List Chunk) : Fn Tryz.prog 65 [.int .i64 (n : Nat)] l fun v l' => ∃ b, v = .tuple #[.pointer (some ⟨b, 0, none⟩), .int .i64 0] ∧ ∃ lq X, IsCo b n lq ∧ l' = lq ++ (X ++ l) := by
  refine fn_of_body Tryz.func65 rfl rfl fun E => ?_
  simp only [argF, Tryz.ntmps65]
  refine gzU ?_
  (first | refine t_e (e_box1 rfl rfl) rfl rfl rfl ?_ | refine t_e (e_boxA rfl) rfl rfl rfl ?_); rintro _ _ ⟨b, _, rfl, rfl⟩
  refine gzU ?_
  refine k_loop (α := Nat × Value × List Value × List Chunk × List Chunk) (fun x => [(4, .pointer (some ⟨b, 0, none⟩)), (13, .int .i64 n), (14, .int .i64 x.1)]) (fun x => coC b x.2.1 :: (x.2.2.2.1 ++ (x.2.2.2.2 ++ l)))
    (fun x => x.1 ≤ n ∧ OwnSl 265 3 x.2.1 x.1 x.2.2.1 x.2.2.2.1) (fun x => n - x.1) (0, .slice none 0 0, [], [], []) ⟨Nat.zero_le _, OwnSl.nil _ _⟩ ⟨rfl, rfl, rfl, trivial⟩ .refl ?_
  rintro ⟨i, v, xs, cs, X⟩ ⟨hi, ho⟩
  simp only at hi ho ⊢
  have hv1 : v.oneCell' = true := ho.one
  by_cases hlt : i < n
  · refine gzU ?_
    refine c_draw [(0, true), (1, true), (2, true), (3, true), (4, true), (5, false), (6, true), (7, false), (8, false), (9, true), (10, true), (11, false)] [[], [], [1], [1, 2], [1, 2, 3], [], [5], [5, 6], [1, 2, 3, 4, 5, 6, 7], [0, 1, 2, 3, 4, 5, 6, 7, 8], [0, 1, 2, 3, 4, 5, 6, 7, 8, 9], [0, 1, 2, 3, 4, 5, 6, 7, 8, 9, 10]] ([]) (by kernel_rfl) (by kernel_rfl) zAtt zHR ?_
    refine pzU ?_
    apply pl_s (S := [coC b v]); (· exact zLd); (· exact sing_mem (.head _)); (· rfl); (· rfl); (· rfl)
    refine pzU ?_
    apply pl_eS
    · exact e_call0 rfl rfl (tnew_any _)
    · rfl
    · rfl
    · rfl
    · intro _ _ _ c hc; cases hc
    · rintro _ _ ⟨_, _, _, rfl⟩ x hx _ c hc
      rw [List.mem_singleton.1 hx] at hc
      rw [List.mem_singleton.1 hc]; exact .tail _ (.head _)
    rintro _ _ ⟨bt, ct, rfl, rfl⟩
    refine pzU ?_
    apply pl_eS
    · exact e_litA (k := 3) (zs := [.int .i64 0, .int .i64 0, .pointer none]) rfl rfl rfl (by decide) (by decide)
    · rfl
    · rfl
    · rfl
    · intro _ _ _ c hc; cases hc
    · rintro _ _ ⟨_, _, _, rfl⟩ x hx _ c hc
      rw [List.mem_singleton.1 hx] at hc
      rw [List.mem_singleton.1 hc]; exact .tail _ (.tail _ (.head _))
    rintro _ _ ⟨bl, _, rfl, rfl⟩
    refine pzU ?_
    apply pl_eS
    · exact e_appX (k := 3) (X := [_, _]) (cs := cs) (F := X ++ l) (n := i) (xs := xs) (zs := [.int .i64 0, .int .i64 0, .pointer none]) rfl rfl rfl ho rfl (by simp [Value.oneCell']) (by omega) (by decide)
    (· rfl); (· rfl); (· rfl); (· intro _ _ _ c hc; cases hc); (· exact fun _ _ _ x hx ha => anc_all (by kernel_rfl) hx ha)
    rintro v2 _ ⟨c2, ho2, rfl⟩
    simp only [List.cons_append, List.nil_append]
    have hv2 : v2.oneCell' = true := ho2.one
    refine pzU ?_
    apply pl_nS
    · exact e_storeL rfl rfl hv2 (by exact zMem) .zero (by exact zUpd)
    (· rfl); (· rfl); (· intro _ _ _ c hc; cases hc); (· exact fun _ _ _ x hx ha => anc_all (by kernel_rfl) hx ha)
    rintro _ _ ⟨rfl, rfl⟩
    refine pzU ?_
    refine gzU ?_
    exact k_next (i + 1, v2, _, c2, (bt, ct) :: X) ⟨by simp only; omega, ho2⟩ (by simp only; omega) ⟨rfl, rfl, rfl, trivial⟩ (Keep.of_perm ((List.Perm.swap _ _ _).trans (List.Perm.cons _ List.perm_middle.symm)))
  · obtain rfl : i = n := by omega
    refine gzU ?_
    exact k_ret [] rfl .refl (by exact zRes) ⟨_, rfl, _, X, ⟨v, xs, cs, ho, rfl⟩, by simp⟩
structure RT where
  A : Ar.ArT
  H : HS
  N : As.ASt
  T : Th.TL
  Q : Nat → List Int
  E : En.DE
structure RP where
  m : Nat
  c : Nat
  a : Nat
  h : Nat
  n : Nat
  t : Nat
  q : Nat
  e : Nat
  v : Value
structure RL where
  M : List Chunk
  C : List Chunk
  A : List Chunk
  H : List Chunk
  T : List Chunk
  Q : List Chunk
  E : List Chunk
  V : List Chunk
abbrev pV (b : Nat) : Value := .pointer (some ⟨b, 0, none⟩)
abbrev rlC (b : Nat) (p : RP) : Chunk := (b, .cells (List.toArray [pV p.m, pV p.c, pV p.a, pV p.h, pV p.n, pV p.t, pV p.q, pV p.e, p.v]) 128 (0, 0))
def allL (b : Nat) (p : RP) (s : RL) (R : RT) (G : List Chunk) : List Chunk := rlC b p :: As.asA p.n R.N :: (s.M ++ (s.C ++ (s.A ++ (s.H ++ (s.T ++ (s.Q ++ (s.E ++ (s.V ++ G))))))))
structure IsRl (F C k : Nat) (R : RT) (p : RP) (s : RL) : Prop where
  mem : IsM p.m F s.M
  co : IsCo p.c C s.C
  ar : Ar.IsA p.a R.A s.A
  an : R.A.n = F
  ho : IsH p.h R.H s.H
  inv : InvH R.H k
  giv : ∀ n, n < 32 → 0 ≤ R.N.given n ∧ R.N.given n ≤ k
  th : Th.IsX p.t R.T s.T
  qu : Qu.IsQ p.q R.Q s.Q
  ql : ∀ n, n < 8 → (R.Q n).length ≤ k
  en : En.IsE p.e R.E s.E
  cu : OwnSl 3 1 p.v C (List.replicate C (.int .i64 0)) s.V
  c1 : 1 ≤ C ∧ C ≤ 3
def newR (F : Nat) : RT := ⟨⟨F, fun _ => 0, []⟩, ([], []), As.ASt.zero, [], Qu.noX, []⟩
theorem rep_flat (z : Value) (n : Nat) : List.replicate n z = (List.replicate n [z]).flatten := by
  induction n with
  | zero => rfl
  | succ n ih => rw [List.replicate_succ, List.replicate_succ, List.flatten_cons, ← ih]; rfl
theorem ok_nil (s : slT) : okD [] s = false := by
  unfold okD sizeD
  rw [show findK Prod.fst ([] : SD) s.1 = none from rfl]
  by_cases h : 0 ≤ s.2
  · rw [decide_eq_true h, decide_eq_false (by simp only; omega)]; rfl
  · rw [decide_eq_false h]; rfl
theorem inv0 : InvH ([], []) 0 :=
  ⟨.none, List.Pairwise.nil, fun x hx => absurd hx (by simp), fun s => ⟨fun h => absurd h (by rw [Tr.hasD_no.2 fun x hx => absurd hx (by simp)]; decide), fun h => absurd h.1 (by rw [ok_nil]; decide)⟩, by simp⟩
set_option maxHeartbeats 4000000 in
theorem rnew_any (F C : Nat) (hF : 1 ≤ F ∧ F ≤ 64) (hC : 1 ≤ C ∧ C ≤ 3) (G : List Chunk) : Fn Tryz.prog 24 [.int .i64 (F : Nat), .int .i64 (C : Nat)] G fun v l' => ∃ b p s X, v = .tuple #[pV b, .int .i64 0] ∧ IsRl F C 0 (newR F) p s ∧ l' = allL b p s (newR F) (X ++ G) := by
  refine fn_of_body Tryz.func24 rfl rfl fun E => ?_
  simp only [argF, Tryz.ntmps24]
  refine gzU ?_
  refine t_e (e_call0 rfl rfl (mnew_any F hF.1 hF.2 _)) rfl rfl rfl ?_
  rintro _ _ ⟨bm, rfl, lm, hM, rfl⟩
  refine gzU ?_
  refine t_e (e_call0 rfl rfl (cnew_any C hC.1 hC.2 _)) rfl rfl rfl ?_
  rintro _ _ ⟨bc, rfl, lc, X, hCo, rfl⟩
  refine gzU ?_
  refine t_e (e_call0 rfl rfl (Ar.new_any F _)) rfl rfl rfl ?_
  rintro _ _ (⟨h, _⟩ | ⟨_, ba, la, rfl, hA, rfl⟩)
  · exact absurd ⟨by omega, by omega⟩ h
  refine gzU ?_
  refine c_drawL [(0, true), (1, true), (2, true), (8, true), (3, false), (4, false), (5, false), (6, false), (7, false), (9, false), (10, true), (11, false), (12, true), (13, true)] [[], [], [], [], [3], [3, 4], [3, 4, 5], [3, 4, 5, 6], [], [8], [0, 1, 2, 3, 4, 5, 6, 7, 8, 9], [0, 1, 2, 3, 4, 5, 6, 7, 8, 9, 10], [0, 1, 2, 3, 4, 5, 6, 7, 8, 9, 10, 11], [0, 1, 2, 3, 4, 5, 6, 7, 8, 9, 10, 11, 12]] (some [(3, 9), (4, 9), (5, 9), (6, 9), (7, 9)]) ([]) (by kernel_rfl) (by kernel_rfl) zAtt zHR ?_
  refine pzU ?_
  apply pl_two [(3, false), (4, false), (5, false), (6, false), (7, false), (9, false), (10, true), (11, false), (12, true), (13, true)] [(9, false), (3, false), (4, false), (5, false), (6, false), (7, false), (10, true), (11, false), (12, true), (13, true)] 3 9 (some [(4, 9), (5, 9), (6, 9), (7, 9)]) none
  · exact zAtt
  · exact zAtt
  · exact ((List.Perm.swap _ _ _).trans (List.Perm.cons _ ((List.Perm.swap _ _ _).trans (List.Perm.cons _ ((List.Perm.swap _ _ _).trans (List.Perm.cons _ ((List.Perm.swap _ _ _).trans (List.Perm.cons _ (List.Perm.swap _ _ _)))))))))
  · kernel_rfl
  · exact e_call0 rfl rfl (hnew_any _)
  · rfl
  · rfl
  · intro _ _ _ c hc; cases hc
  · intro _ _ _ x hx; cases hx
  · exact e_makeSlice (n := C) (kk := 1) (zs := [.int .i64 0]) (xs := List.replicate C (.int .i64 0)) rfl rfl (by omega) (by omega) (by decide) (rep_flat _ _)
  · rfl
  · rfl
  · intro _ _ _ c hc; cases hc
  · intro _ _ _ x hx; cases hx
  · rintro _ _ ⟨bh, rfl, lh, hH, rfl⟩
    apply pl_two [(4, false), (5, false), (6, false), (7, false), (9, false), (10, true), (11, false), (12, true), (13, true)] [(9, false), (4, false), (5, false), (6, false), (7, false), (10, true), (11, false), (12, true), (13, true)] 4 9 (some [(5, 9), (6, 9), (7, 9)]) none
    · exact zAtt
    · exact zAtt
    · exact ((List.Perm.swap _ _ _).trans (List.Perm.cons _ ((List.Perm.swap _ _ _).trans (List.Perm.cons _ ((List.Perm.swap _ _ _).trans (List.Perm.cons _ (List.Perm.swap _ _ _)))))))
    · kernel_rfl
    · exact e_call0 rfl rfl (As.new_any _)
    · rfl
    · rfl
    · intro _ _ _ c hc; cases hc
    · intro _ _ _ x hx; cases hx
    · exact e_makeSlice (n := C) (kk := 1) (zs := [.int .i64 0]) (xs := List.replicate C (.int .i64 0)) rfl rfl (by omega) (by omega) (by decide) (rep_flat _ _)
    · rfl
    · rfl
    · intro _ _ _ c hc; cases hc
    · intro _ _ _ x hx; cases hx
    · rintro _ _ ⟨bn, _, rfl, rfl⟩
      apply pl_two [(5, false), (6, false), (7, false), (9, false), (10, true), (11, false), (12, true), (13, true)] [(9, false), (5, false), (6, false), (7, false), (10, true), (11, false), (12, true), (13, true)] 5 9 (some [(6, 9), (7, 9)]) none
      · exact zAtt
      · exact zAtt
      · exact ((List.Perm.swap _ _ _).trans (List.Perm.cons _ ((List.Perm.swap _ _ _).trans (List.Perm.cons _ (List.Perm.swap _ _ _)))))
      · kernel_rfl
      · exact e_call0 rfl rfl (Th.new_any _)
      · rfl
      · rfl
      · intro _ _ _ c hc; cases hc
      · intro _ _ _ x hx; cases hx
      · exact e_makeSlice (n := C) (kk := 1) (zs := [.int .i64 0]) (xs := List.replicate C (.int .i64 0)) rfl rfl (by omega) (by omega) (by decide) (rep_flat _ _)
      · rfl
      · rfl
      · intro _ _ _ c hc; cases hc
      · intro _ _ _ x hx; cases hx
      · rintro _ _ ⟨bt, rfl, lt, hT, rfl⟩
        apply pl_two [(6, false), (7, false), (9, false), (10, true), (11, false), (12, true), (13, true)] [(9, false), (6, false), (7, false), (10, true), (11, false), (12, true), (13, true)] 6 9 (some [(7, 9)]) none
        · exact zAtt
        · exact zAtt
        · exact ((List.Perm.swap _ _ _).trans (List.Perm.cons _ (List.Perm.swap _ _ _)))
        · kernel_rfl
        · exact e_call0 rfl rfl (Qu.new_any _)
        · rfl
        · rfl
        · intro _ _ _ c hc; cases hc
        · intro _ _ _ x hx; cases hx
        · exact e_makeSlice (n := C) (kk := 1) (zs := [.int .i64 0]) (xs := List.replicate C (.int .i64 0)) rfl rfl (by omega) (by omega) (by decide) (rep_flat _ _)
        · rfl
        · rfl
        · intro _ _ _ c hc; cases hc
        · intro _ _ _ x hx; cases hx
        · rintro _ _ ⟨bq, rfl, lq, hQ, rfl⟩
          apply pl_two [(7, false), (9, false), (10, true), (11, false), (12, true), (13, true)] [(9, false), (7, false), (10, true), (11, false), (12, true), (13, true)] 7 9 none none
          · exact zAtt
          · exact zAtt
          · exact (List.Perm.swap _ _ _)
          · kernel_rfl
          · exact e_call0 rfl rfl (En.new_any _)
          · rfl
          · rfl
          · intro _ _ _ c hc; cases hc
          · intro _ _ _ x hx; cases hx
          · exact e_makeSlice (n := C) (kk := 1) (zs := [.int .i64 0]) (xs := List.replicate C (.int .i64 0)) rfl rfl (by omega) (by omega) (by decide) (rep_flat _ _)
          · rfl
          · rfl
          · intro _ _ _ c hc; cases hc
          · intro _ _ _ x hx; cases hx
          · rintro _ _ ⟨be, rfl, le, hE, rfl⟩
            apply pl_e
            · exact e_makeSlice (n := C) (kk := 1) (zs := [.int .i64 0]) (xs := List.replicate C (.int .i64 0)) rfl rfl (by omega) (by omega) (by decide) (rep_flat _ _)
            · rfl
            · rfl
            · rfl
            · intro _ _ _ c hc; cases hc
            rintro _ _ ⟨bv, hbv, rfl, rfl⟩
            refine pzU ?_
            apply pl_e
            · exact e_boxA rfl
            · rfl
            · rfl
            · rfl
            · intro _ _ _ c hc; cases hc
            rintro _ _ ⟨b, hb, rfl, rfl⟩
            refine pzU ?_
            refine gzU ?_
            exact k_ret [] rfl (l' := allL b ⟨bm, bc, ba, bh, bn, bt, bq, be, .slice (some ⟨bv, 0, none⟩) C C⟩ ⟨lm, lc, la, lh, lt, lq, le, [(bv, .cells (List.toArray (List.replicate C (.int .i64 0))) 3 (0, 0))]⟩ (newR F) (X ++ G)) (by unfold allL; dsimp only [rlC, newR, As.asA, pV]; simp only [List.getElem_toArray, List.getElem_cons_zero]; exact keep_ac []) (by exact zRes) ⟨b, _, _, X, rfl, ⟨hM, hCo, hA, rfl, hH, inv0, fun n _ => by simp [newR, As.ASt.zero], hT, hQ, fun n _ => by simp [newR, Qu.noX], hE, OwnSl.lit (by omega) (by simp) (by omega), hC⟩, rfl⟩
          · rintro _ _ ⟨bv, hbv, rfl, rfl⟩
            apply pl_e
            · exact e_call0 rfl rfl (En.new_any _)
            · rfl
            · rfl
            · rfl
            · intro _ _ _ c hc; cases hc
            rintro _ _ ⟨be, rfl, le, hE, rfl⟩
            refine pzU ?_
            apply pl_e
            · exact e_boxA rfl
            · rfl
            · rfl
            · rfl
            · intro _ _ _ c hc; cases hc
            rintro _ _ ⟨b, hb, rfl, rfl⟩
            refine pzU ?_
            refine gzU ?_
            exact k_ret [] rfl (l' := allL b ⟨bm, bc, ba, bh, bn, bt, bq, be, .slice (some ⟨bv, 0, none⟩) C C⟩ ⟨lm, lc, la, lh, lt, lq, le, [(bv, .cells (List.toArray (List.replicate C (.int .i64 0))) 3 (0, 0))]⟩ (newR F) (X ++ G)) (by unfold allL; dsimp only [rlC, newR, As.asA, pV]; simp only [List.getElem_toArray, List.getElem_cons_zero]; exact keep_ac []) (by exact zRes) ⟨b, _, _, X, rfl, ⟨hM, hCo, hA, rfl, hH, inv0, fun n _ => by simp [newR, As.ASt.zero], hT, hQ, fun n _ => by simp [newR, Qu.noX], hE, OwnSl.lit (by omega) (by simp) (by omega), hC⟩, rfl⟩
        · rintro _ _ ⟨bv, hbv, rfl, rfl⟩
          apply pl_e
          · exact e_call0 rfl rfl (Qu.new_any _)
          · rfl
          · rfl
          · rfl
          · intro _ _ _ c hc; cases hc
          rintro _ _ ⟨bq, rfl, lq, hQ, rfl⟩
          refine pzU ?_
          apply pl_e
          · exact e_call0 rfl rfl (En.new_any _)
          · rfl
          · rfl
          · rfl
          · intro _ _ _ c hc; cases hc
          rintro _ _ ⟨be, rfl, le, hE, rfl⟩
          refine pzU ?_
          apply pl_e
          · exact e_boxA rfl
          · rfl
          · rfl
          · rfl
          · intro _ _ _ c hc; cases hc
          rintro _ _ ⟨b, hb, rfl, rfl⟩
          refine pzU ?_
          refine gzU ?_
          exact k_ret [] rfl (l' := allL b ⟨bm, bc, ba, bh, bn, bt, bq, be, .slice (some ⟨bv, 0, none⟩) C C⟩ ⟨lm, lc, la, lh, lt, lq, le, [(bv, .cells (List.toArray (List.replicate C (.int .i64 0))) 3 (0, 0))]⟩ (newR F) (X ++ G)) (by unfold allL; dsimp only [rlC, newR, As.asA, pV]; simp only [List.getElem_toArray, List.getElem_cons_zero]; exact keep_ac []) (by exact zRes) ⟨b, _, _, X, rfl, ⟨hM, hCo, hA, rfl, hH, inv0, fun n _ => by simp [newR, As.ASt.zero], hT, hQ, fun n _ => by simp [newR, Qu.noX], hE, OwnSl.lit (by omega) (by simp) (by omega), hC⟩, rfl⟩
      · rintro _ _ ⟨bv, hbv, rfl, rfl⟩
        apply pl_e
        · exact e_call0 rfl rfl (Th.new_any _)
        · rfl
        · rfl
        · rfl
        · intro _ _ _ c hc; cases hc
        rintro _ _ ⟨bt, rfl, lt, hT, rfl⟩
        refine pzU ?_
        apply pl_e
        · exact e_call0 rfl rfl (Qu.new_any _)
        · rfl
        · rfl
        · rfl
        · intro _ _ _ c hc; cases hc
        rintro _ _ ⟨bq, rfl, lq, hQ, rfl⟩
        refine pzU ?_
        apply pl_e
        · exact e_call0 rfl rfl (En.new_any _)
        · rfl
        · rfl
        · rfl
        · intro _ _ _ c hc; cases hc
        rintro _ _ ⟨be, rfl, le, hE, rfl⟩
        refine pzU ?_
        apply pl_e
        · exact e_boxA rfl
        · rfl
        · rfl
        · rfl
        · intro _ _ _ c hc; cases hc
        rintro _ _ ⟨b, hb, rfl, rfl⟩
        refine pzU ?_
        refine gzU ?_
        exact k_ret [] rfl (l' := allL b ⟨bm, bc, ba, bh, bn, bt, bq, be, .slice (some ⟨bv, 0, none⟩) C C⟩ ⟨lm, lc, la, lh, lt, lq, le, [(bv, .cells (List.toArray (List.replicate C (.int .i64 0))) 3 (0, 0))]⟩ (newR F) (X ++ G)) (by unfold allL; dsimp only [rlC, newR, As.asA, pV]; simp only [List.getElem_toArray, List.getElem_cons_zero]; exact keep_ac []) (by exact zRes) ⟨b, _, _, X, rfl, ⟨hM, hCo, hA, rfl, hH, inv0, fun n _ => by simp [newR, As.ASt.zero], hT, hQ, fun n _ => by simp [newR, Qu.noX], hE, OwnSl.lit (by omega) (by simp) (by omega), hC⟩, rfl⟩
    · rintro _ _ ⟨bv, hbv, rfl, rfl⟩
      apply pl_e
      · exact e_call0 rfl rfl (As.new_any _)
      · rfl
      · rfl
      · rfl
      · intro _ _ _ c hc; cases hc
      rintro _ _ ⟨bn, _, rfl, rfl⟩
      refine pzU ?_
      apply pl_e
      · exact e_call0 rfl rfl (Th.new_any _)
      · rfl
      · rfl
      · rfl
      · intro _ _ _ c hc; cases hc
      rintro _ _ ⟨bt, rfl, lt, hT, rfl⟩
      refine pzU ?_
      apply pl_e
      · exact e_call0 rfl rfl (Qu.new_any _)
      · rfl
      · rfl
      · rfl
      · intro _ _ _ c hc; cases hc
      rintro _ _ ⟨bq, rfl, lq, hQ, rfl⟩
      refine pzU ?_
      apply pl_e
      · exact e_call0 rfl rfl (En.new_any _)
      · rfl
      · rfl
      · rfl
      · intro _ _ _ c hc; cases hc
      rintro _ _ ⟨be, rfl, le, hE, rfl⟩
      refine pzU ?_
      apply pl_e
      · exact e_boxA rfl
      · rfl
      · rfl
      · rfl
      · intro _ _ _ c hc; cases hc
      rintro _ _ ⟨b, hb, rfl, rfl⟩
      refine pzU ?_
      refine gzU ?_
      exact k_ret [] rfl (l' := allL b ⟨bm, bc, ba, bh, bn, bt, bq, be, .slice (some ⟨bv, 0, none⟩) C C⟩ ⟨lm, lc, la, lh, lt, lq, le, [(bv, .cells (List.toArray (List.replicate C (.int .i64 0))) 3 (0, 0))]⟩ (newR F) (X ++ G)) (by unfold allL; dsimp only [rlC, newR, As.asA, pV]; simp only [List.getElem_toArray, List.getElem_cons_zero]; exact keep_ac []) (by exact zRes) ⟨b, _, _, X, rfl, ⟨hM, hCo, hA, rfl, hH, inv0, fun n _ => by simp [newR, As.ASt.zero], hT, hQ, fun n _ => by simp [newR, Qu.noX], hE, OwnSl.lit (by omega) (by simp) (by omega), hC⟩, rfl⟩
  · rintro _ _ ⟨bv, hbv, rfl, rfl⟩
    apply pl_e
    · exact e_call0 rfl rfl (hnew_any _)
    · rfl
    · rfl
    · rfl
    · intro _ _ _ c hc; cases hc
    rintro _ _ ⟨bh, rfl, lh, hH, rfl⟩
    refine pzU ?_
    apply pl_e
    · exact e_call0 rfl rfl (As.new_any _)
    · rfl
    · rfl
    · rfl
    · intro _ _ _ c hc; cases hc
    rintro _ _ ⟨bn, _, rfl, rfl⟩
    refine pzU ?_
    apply pl_e
    · exact e_call0 rfl rfl (Th.new_any _)
    · rfl
    · rfl
    · rfl
    · intro _ _ _ c hc; cases hc
    rintro _ _ ⟨bt, rfl, lt, hT, rfl⟩
    refine pzU ?_
    apply pl_e
    · exact e_call0 rfl rfl (Qu.new_any _)
    · rfl
    · rfl
    · rfl
    · intro _ _ _ c hc; cases hc
    rintro _ _ ⟨bq, rfl, lq, hQ, rfl⟩
    refine pzU ?_
    apply pl_e
    · exact e_call0 rfl rfl (En.new_any _)
    · rfl
    · rfl
    · rfl
    · intro _ _ _ c hc; cases hc
    rintro _ _ ⟨be, rfl, le, hE, rfl⟩
    refine pzU ?_
    apply pl_e
    · exact e_boxA rfl
    · rfl
    · rfl
    · rfl
    · intro _ _ _ c hc; cases hc
    rintro _ _ ⟨b, hb, rfl, rfl⟩
    refine pzU ?_
    refine gzU ?_
    exact k_ret [] rfl (l' := allL b ⟨bm, bc, ba, bh, bn, bt, bq, be, .slice (some ⟨bv, 0, none⟩) C C⟩ ⟨lm, lc, la, lh, lt, lq, le, [(bv, .cells (List.toArray (List.replicate C (.int .i64 0))) 3 (0, 0))]⟩ (newR F) (X ++ G)) (by unfold allL; dsimp only [rlC, newR, As.asA, pV]; simp only [List.getElem_toArray, List.getElem_cons_zero]; exact keep_ac []) (by exact zRes) ⟨b, _, _, X, rfl, ⟨hM, hCo, hA, rfl, hH, inv0, fun n _ => by simp [newR, As.ASt.zero], hT, hQ, fun n _ => by simp [newR, Qu.noX], hE, OwnSl.lit (by omega) (by simp) (by omega), hC⟩, rfl⟩
theorem rarena_any (b : Nat) (p : RP) (l : List Chunk) (hm : rlC b p ∈ l) : Fn Tryz.prog 75 [pV b] l fun v l' => v = pV p.a ∧ l' = l := by
  refine fn_of_body Tryz.func75 rfl rfl fun E => ?_
  simp only [argF, Tryz.ntmps75]
  refine gzU ?_
  exact k_ret [] rfl .refl (by exact zRes) ⟨rfl, rfl⟩
theorem rhold_any (b : Nat) (p : RP) (l : List Chunk) (hm : rlC b p ∈ l) : Fn Tryz.prog 83 [pV b] l fun v l' => v = pV p.h ∧ l' = l := by
  refine fn_of_body Tryz.func83 rfl rfl fun E => ?_
  simp only [argF, Tryz.ntmps83]
  refine gzU ?_
  exact k_ret [] rfl .refl (by exact zRes) ⟨rfl, rfl⟩
theorem rasids_any (b : Nat) (p : RP) (l : List Chunk) (hm : rlC b p ∈ l) : Fn Tryz.prog 86 [pV b] l fun v l' => v = pV p.n ∧ l' = l := by
  refine fn_of_body Tryz.func86 rfl rfl fun E => ?_
  simp only [argF, Tryz.ntmps86]
  refine gzU ?_
  exact k_ret [] rfl .refl (by exact zRes) ⟨rfl, rfl⟩
theorem rthreads_any (b : Nat) (p : RP) (l : List Chunk) (hm : rlC b p ∈ l) : Fn Tryz.prog 22 [pV b] l fun v l' => v = pV p.t ∧ l' = l := by
  refine fn_of_body Tryz.func22 rfl rfl fun E => ?_
  simp only [argF, Tryz.ntmps22]
  refine gzU ?_
  exact k_ret [] rfl .refl (by exact zRes) ⟨rfl, rfl⟩
def makeR (R : RT) (k s f : Int) : (Int × Int) × RT :=
  if (Ar.addD R.A k s f).1.2 = 0 then
    (((Ar.addD R.A k s f).1.1, 0), ⟨(Ar.addD R.A k s f).2, (if 0 < Ar.slotsD k s then ((addN R.H.1 (Ar.addD R.A k s f).1.1 (Ar.slotsD k s)).2, R.H.2) else R.H), R.N, (if k = 9 then (Th.addD R.T (Ar.addD R.A k s f).1.1).2 else R.T), R.Q, (if k = 8 then (En.addD R.E (Ar.addD R.A k s f).1.1).2 else R.E)⟩)
  else ((0, (Ar.addD R.A k s f).1.2), { R with A := (Ar.addD R.A k s f).2 })
theorem add_n (S : Ar.ArT) (k s f : Int) : (Ar.addD S k s f).2.n = S.n := by unfold Ar.addD; split <;> rfl
theorem add_rng {S : Ar.ArT} {k s f : Int} (h : (Ar.addD S k s f).1.2 = 0) : 0 ≤ f ∧ f ≤ S.n - Ar.framesD k s ∧ 1 ≤ Ar.framesD k s := by
  have h1 := Ar.frames_rng k s
  unfold Ar.addD at h
  by_cases h0 : Ar.addE S k s f = 0
  · unfold Ar.addE at h0
    by_cases h2 : Ar.framesD k s = 0
    · rw [if_pos h2] at h0; omega
    · rw [if_neg h2] at h0
      by_cases h3 : f < 0 ∨ f > S.n - Ar.framesD k s
      · rw [if_pos h3] at h0; omega
      · omega
  · rw [if_neg h0] at h; exact absurd h h0
theorem IsRl.mono {F C k m : Nat} {R : RT} {p : RP} {s : RL} (h : IsRl F C k R p s) (hm : k ≤ m) : IsRl F C m R p s :=
  ⟨h.mem, h.co, h.ar, h.an, h.ho, h.inv.mono hm, fun n hn => by have := h.giv n hn; omega, h.th, h.qu, fun n hn => Nat.le_trans (h.ql n hn) hm, h.en, h.cu, h.c1⟩
set_option maxHeartbeats 4000000 in
theorem make_any (F C n : Nat) (R : RT) (b : Nat) (p : RP) (s : RL) (hR : IsRl F C n R p s) (hn : n ≤ 900) (k z f : Int) (G : List Chunk) : Fn Tryz.prog 26 [pV b, .int .i64 k, .int .i64 z, .int .i64 f] (allL b p s R G) fun v l' =>
    v = .tuple #[.int .i64 (makeR R k z f).1.1, .int .i64 (makeR R k z f).1.2] ∧ ∃ s' X, IsRl F C (n + 1) (makeR R k z f).2 p s' ∧ l' = allL b p s' (makeR R k z f).2 (X ++ G) := by
  have hF := hR.mem.2.1
  refine fn_of_body Tryz.func26 rfl rfl fun E => ?_
  simp only [argF, Tryz.ntmps26]
  unfold allL
  refine gzU ?_
  refine t_e (e_call0 rfl rfl (rarena_any b p _ (.head _))) rfl rfl rfl ?_
  rintro _ _ ⟨rfl, rfl⟩
  refine gzU ?_
  refine s_keep (l' := s.A ++ (rlC b p :: As.asA p.n R.N :: (s.M ++ (s.C ++ (s.H ++ (s.T ++ (s.Q ++ (s.E ++ (s.V ++ G))))))))) (keep_ac []) ?_
  refine t_e (e_call0 rfl rfl (Ar.add_any p.a R.A s.A hR.ar k z f _)) rfl rfl rfl ?_
  rintro _ _ ⟨rfl, lA, hA, rfl⟩
  refine s_keep (l' := rlC b p :: As.asA p.n R.N :: (s.M ++ (s.C ++ (lA ++ (s.H ++ (s.T ++ (s.Q ++ (s.E ++ (s.V ++ G))))))))) (keep_ac []) ?_
  obtain ⟨id, hid⟩ : ∃ x, x = (Ar.addD R.A k z f).1.1 := ⟨_, rfl⟩
  obtain ⟨er, her⟩ : ∃ x, x = (Ar.addD R.A k z f).1.2 := ⟨_, rfl⟩
  have hAn : (Ar.addD R.A k z f).2.n = F := by rw [add_n]; exact hR.an
  rw [← hid, ← her]
  have hmk : makeR R k z f = if er = 0 then ((id, 0), (⟨(Ar.addD R.A k z f).2, (if 0 < Ar.slotsD k z then ((addN R.H.1 id (Ar.slotsD k z)).2, R.H.2) else R.H), R.N, (if k = 9 then (Th.addD R.T id).2 else R.T), R.Q, (if k = 8 then (En.addD R.E id).2 else R.E)⟩ : RT)) else ((0, er), { R with A := (Ar.addD R.A k z f).2 }) := by unfold makeR; rw [← hid, ← her]
  by_cases he : er = 0
  · rw [if_pos he] at hmk
    rw [hmk]
    obtain ⟨r1, r2, r3⟩ := add_rng (her.symm.trans he)
    rw [hR.an] at r2
    obtain ⟨f', rfl⟩ : ∃ f' : Nat, f = f' := ⟨f.toNat, by omega⟩
    obtain ⟨fr, hfr⟩ : ∃ fr : Nat, Ar.framesD k z = fr := ⟨(Ar.framesD k z).toNat, by omega⟩
    refine gzU ?_
    by_cases h1 : k = 1
    · have hs0 : Ar.slotsD k z = 0 := by unfold Ar.slotsD; rw [if_neg (by omega), if_neg (by omega)]
      have hs : ¬ 0 < Ar.slotsD k z := by omega
      have hH0 : (if 0 < Ar.slotsD k z then ((addN R.H.1 id (Ar.slotsD k z)).2, R.H.2) else R.H) = R.H := if_neg hs
      have hT0 : (if k = 9 then (Th.addD R.T id).2 else R.T) = R.T := if_neg (by omega)
      have hE0 : (if k = 8 then (En.addD R.E id).2 else R.E) = R.E := if_neg (by omega)
      rw [hH0, hT0, hE0]
      refine gzU ?_
      refine t_e (e_call0 rfl rfl (Ar.slots_any k z _)) rfl rfl rfl ?_
      rintro _ _ ⟨rfl, rfl⟩
      refine gzU ?_
      refine gzU ?_
      refine k_ret [] rfl (l' := allL b p ⟨s.M, s.C, lA, s.H, s.T, s.Q, s.E, s.V⟩ ⟨(Ar.addD R.A k z (f' : Nat)).2, R.H, R.N, R.T, R.Q, R.E⟩ (([]) ++ G)) (by unfold allL; exact keep_ac []) (by exact zRes) ?_
      refine ⟨rfl, ⟨s.M, s.C, lA, s.H, s.T, s.Q, s.E, s.V⟩, [], ?_, rfl⟩
      exact ⟨hR.mem, hR.co, hA, hAn, hR.ho, hR.inv.mono (by omega), fun j hj => by have := hR.giv j hj; simp only; omega, hR.th, hR.qu, fun j hj => Nat.le_trans (hR.ql j hj) (by omega), hR.en, hR.cu, hR.c1⟩
    refine gzU ?_
    refine c_keep (l' := s.M ++ (rlC b p :: As.asA p.n R.N :: (s.C ++ (lA ++ (s.H ++ (s.T ++ (s.Q ++ (s.E ++ (s.V ++ G))))))))) (keep_ac []) ?_
    refine c_draw [(0, true), (1, true), (2, true), (3, true), (4, true), (5, true), (6, true), (7, true), (8, false)] [[], [0], [0, 1], [0, 1, 2], [], [], [], [5, 6], [0, 1, 2, 3, 4, 5, 6, 7]] ([rlC b p]) (by kernel_rfl) (by kernel_rfl) zAtt ((sing_mem (List.mem_append_right _ (.head _)))) ?_
    refine pzU ?_
    apply pl_q
    · exact q_call rfl rfl (fun l hl => Ar.frames_any k z l)
    · rfl
    · rfl
    · rfl
    refine pzU ?_
    apply pl_e
    · exact e_call0 rfl rfl (by rw [hfr]; exact mzero_any p.m F f' fr s.M hR.mem (by omega) (by omega) _)
    · rfl
    · rfl
    · rfl
    · rintro _ _ ⟨_, X, rfl⟩; exact sing_mem (List.mem_append_right _ (List.mem_append_right _ (.head _)))
    rintro _ _ ⟨rfl, X, rfl⟩
    refine pzU ?_
    refine gzU ?_
    refine t_e (e_call0 rfl rfl (Ar.slots_any k z _)) rfl rfl rfl ?_
    rintro _ _ ⟨rfl, rfl⟩
    refine gzU ?_
    by_cases hs : 0 < Ar.slotsD k z
    · by_cases h9 : k = 9
      · have hH0 : (if 0 < Ar.slotsD k z then ((addN R.H.1 id (Ar.slotsD k z)).2, R.H.2) else R.H) = ((addN R.H.1 id (Ar.slotsD k z)).2, R.H.2) := if_pos hs
        have hT0 : (if k = 9 then (Th.addD R.T id).2 else R.T) = (Th.addD R.T id).2 := if_pos (by omega)
        have hE0 : (if k = 8 then (En.addD R.E id).2 else R.E) = R.E := if_neg (by omega)
        rw [hH0, hT0, hE0]
        refine gzU ?_
        refine s_keep (l' := rlC b p :: As.asA p.n R.N :: (s.M ++ (s.C ++ (lA ++ (s.H ++ (s.T ++ (s.Q ++ (s.E ++ (s.V ++ (X ++ G)))))))))) (keep_ac []) ?_
        refine gzU ?_
        refine s_keep (l' := s.H ++ (rlC b p :: As.asA p.n R.N :: (s.M ++ (s.C ++ (lA ++ (s.T ++ (s.Q ++ (s.E ++ (s.V ++ (X ++ G)))))))))) (keep_ac []) ?_
        refine t_e (e_call0 rfl rfl (haddN_any p.h R.H s.H hR.ho id (Ar.slotsD k z) _)) rfl rfl rfl ?_
        rintro _ _ ⟨rfl, lH, hH, rfl⟩
        refine s_keep (l' := rlC b p :: As.asA p.n R.N :: (s.M ++ (s.C ++ (lA ++ (lH ++ (s.T ++ (s.Q ++ (s.E ++ (s.V ++ (X ++ G)))))))))) (keep_ac []) ?_
        refine gzU ?_
        refine s_keep (l' := s.T ++ (rlC b p :: As.asA p.n R.N :: (s.M ++ (s.C ++ (lA ++ (lH ++ (s.Q ++ (s.E ++ (s.V ++ (X ++ G)))))))))) (keep_ac []) ?_
        refine t_e (e_call0 rfl rfl (Th.add_any p.t R.T s.T hR.th id _)) rfl rfl rfl ?_
        rintro _ _ ⟨rfl, lT, hT, rfl⟩
        refine gzU ?_
        refine k_ret [] rfl (l' := allL b p ⟨s.M, s.C, lA, lH, lT, s.Q, s.E, s.V⟩ ⟨(Ar.addD R.A k z (f' : Nat)).2, ((addN R.H.1 id (Ar.slotsD k z)).2, R.H.2), R.N, (Th.addD R.T id).2, R.Q, R.E⟩ ((X) ++ G)) (by unfold allL; exact keep_ac []) (by exact zRes) ?_
        refine ⟨rfl, ⟨s.M, s.C, lA, lH, lT, s.Q, s.E, s.V⟩, X, ?_, rfl⟩
        exact ⟨hR.mem, hR.co, hA, hAn, hH, hR.inv.add _ _, fun j hj => by have := hR.giv j hj; simp only; omega, hT, hR.qu, fun j hj => Nat.le_trans (hR.ql j hj) (by omega), hR.en, hR.cu, hR.c1⟩
      by_cases h8 : k = 8
      · have hH0 : (if 0 < Ar.slotsD k z then ((addN R.H.1 id (Ar.slotsD k z)).2, R.H.2) else R.H) = ((addN R.H.1 id (Ar.slotsD k z)).2, R.H.2) := if_pos hs
        have hT0 : (if k = 9 then (Th.addD R.T id).2 else R.T) = R.T := if_neg (by omega)
        have hE0 : (if k = 8 then (En.addD R.E id).2 else R.E) = (En.addD R.E id).2 := if_pos (by omega)
        rw [hH0, hT0, hE0]
        refine gzU ?_
        refine s_keep (l' := rlC b p :: As.asA p.n R.N :: (s.M ++ (s.C ++ (lA ++ (s.H ++ (s.T ++ (s.Q ++ (s.E ++ (s.V ++ (X ++ G)))))))))) (keep_ac []) ?_
        refine gzU ?_
        refine s_keep (l' := s.H ++ (rlC b p :: As.asA p.n R.N :: (s.M ++ (s.C ++ (lA ++ (s.T ++ (s.Q ++ (s.E ++ (s.V ++ (X ++ G)))))))))) (keep_ac []) ?_
        refine t_e (e_call0 rfl rfl (haddN_any p.h R.H s.H hR.ho id (Ar.slotsD k z) _)) rfl rfl rfl ?_
        rintro _ _ ⟨rfl, lH, hH, rfl⟩
        refine s_keep (l' := rlC b p :: As.asA p.n R.N :: (s.M ++ (s.C ++ (lA ++ (lH ++ (s.T ++ (s.Q ++ (s.E ++ (s.V ++ (X ++ G)))))))))) (keep_ac []) ?_
        refine gzU ?_
        refine s_keep (l' := s.E ++ (rlC b p :: As.asA p.n R.N :: (s.M ++ (s.C ++ (lA ++ (lH ++ (s.T ++ (s.Q ++ (s.V ++ (X ++ G)))))))))) (keep_ac []) ?_
        refine t_e (e_call0 rfl rfl (En.add_any p.e R.E s.E id hR.en _)) rfl rfl rfl ?_
        rintro _ _ ⟨rfl, lE, hE, rfl⟩
        refine gzU ?_
        refine k_ret [] rfl (l' := allL b p ⟨s.M, s.C, lA, lH, s.T, s.Q, lE, s.V⟩ ⟨(Ar.addD R.A k z (f' : Nat)).2, ((addN R.H.1 id (Ar.slotsD k z)).2, R.H.2), R.N, R.T, R.Q, (En.addD R.E id).2⟩ ((X) ++ G)) (by unfold allL; exact keep_ac []) (by exact zRes) ?_
        refine ⟨rfl, ⟨s.M, s.C, lA, lH, s.T, s.Q, lE, s.V⟩, X, ?_, rfl⟩
        exact ⟨hR.mem, hR.co, hA, hAn, hH, hR.inv.add _ _, fun j hj => by have := hR.giv j hj; simp only; omega, hR.th, hR.qu, fun j hj => Nat.le_trans (hR.ql j hj) (by omega), hE, hR.cu, hR.c1⟩
      have hH0 : (if 0 < Ar.slotsD k z then ((addN R.H.1 id (Ar.slotsD k z)).2, R.H.2) else R.H) = ((addN R.H.1 id (Ar.slotsD k z)).2, R.H.2) := if_pos hs
      have hT0 : (if k = 9 then (Th.addD R.T id).2 else R.T) = R.T := if_neg (by omega)
      have hE0 : (if k = 8 then (En.addD R.E id).2 else R.E) = R.E := if_neg (by omega)
      rw [hH0, hT0, hE0]
      refine gzU ?_
      refine s_keep (l' := rlC b p :: As.asA p.n R.N :: (s.M ++ (s.C ++ (lA ++ (s.H ++ (s.T ++ (s.Q ++ (s.E ++ (s.V ++ (X ++ G)))))))))) (keep_ac []) ?_
      refine gzU ?_
      refine s_keep (l' := s.H ++ (rlC b p :: As.asA p.n R.N :: (s.M ++ (s.C ++ (lA ++ (s.T ++ (s.Q ++ (s.E ++ (s.V ++ (X ++ G)))))))))) (keep_ac []) ?_
      refine t_e (e_call0 rfl rfl (haddN_any p.h R.H s.H hR.ho id (Ar.slotsD k z) _)) rfl rfl rfl ?_
      rintro _ _ ⟨rfl, lH, hH, rfl⟩
      refine gzU ?_
      refine k_ret [] rfl (l' := allL b p ⟨s.M, s.C, lA, lH, s.T, s.Q, s.E, s.V⟩ ⟨(Ar.addD R.A k z (f' : Nat)).2, ((addN R.H.1 id (Ar.slotsD k z)).2, R.H.2), R.N, R.T, R.Q, R.E⟩ ((X) ++ G)) (by unfold allL; exact keep_ac []) (by exact zRes) ?_
      refine ⟨rfl, ⟨s.M, s.C, lA, lH, s.T, s.Q, s.E, s.V⟩, X, ?_, rfl⟩
      exact ⟨hR.mem, hR.co, hA, hAn, hH, hR.inv.add _ _, fun j hj => by have := hR.giv j hj; simp only; omega, hR.th, hR.qu, fun j hj => Nat.le_trans (hR.ql j hj) (by omega), hR.en, hR.cu, hR.c1⟩
    · by_cases h9 : k = 9
      · have hH0 : (if 0 < Ar.slotsD k z then ((addN R.H.1 id (Ar.slotsD k z)).2, R.H.2) else R.H) = R.H := if_neg hs
        have hT0 : (if k = 9 then (Th.addD R.T id).2 else R.T) = (Th.addD R.T id).2 := if_pos (by omega)
        have hE0 : (if k = 8 then (En.addD R.E id).2 else R.E) = R.E := if_neg (by omega)
        rw [hH0, hT0, hE0]
        refine gzU ?_
        refine s_keep (l' := rlC b p :: As.asA p.n R.N :: (s.M ++ (s.C ++ (lA ++ (s.H ++ (s.T ++ (s.Q ++ (s.E ++ (s.V ++ (X ++ G)))))))))) (keep_ac []) ?_
        refine gzU ?_
        refine s_keep (l' := s.T ++ (rlC b p :: As.asA p.n R.N :: (s.M ++ (s.C ++ (lA ++ (s.H ++ (s.Q ++ (s.E ++ (s.V ++ (X ++ G)))))))))) (keep_ac []) ?_
        refine t_e (e_call0 rfl rfl (Th.add_any p.t R.T s.T hR.th id _)) rfl rfl rfl ?_
        rintro _ _ ⟨rfl, lT, hT, rfl⟩
        refine gzU ?_
        refine k_ret [] rfl (l' := allL b p ⟨s.M, s.C, lA, s.H, lT, s.Q, s.E, s.V⟩ ⟨(Ar.addD R.A k z (f' : Nat)).2, R.H, R.N, (Th.addD R.T id).2, R.Q, R.E⟩ ((X) ++ G)) (by unfold allL; exact keep_ac []) (by exact zRes) ?_
        refine ⟨rfl, ⟨s.M, s.C, lA, s.H, lT, s.Q, s.E, s.V⟩, X, ?_, rfl⟩
        exact ⟨hR.mem, hR.co, hA, hAn, hR.ho, hR.inv.mono (by omega), fun j hj => by have := hR.giv j hj; simp only; omega, hT, hR.qu, fun j hj => Nat.le_trans (hR.ql j hj) (by omega), hR.en, hR.cu, hR.c1⟩
      by_cases h8 : k = 8
      · have hH0 : (if 0 < Ar.slotsD k z then ((addN R.H.1 id (Ar.slotsD k z)).2, R.H.2) else R.H) = R.H := if_neg hs
        have hT0 : (if k = 9 then (Th.addD R.T id).2 else R.T) = R.T := if_neg (by omega)
        have hE0 : (if k = 8 then (En.addD R.E id).2 else R.E) = (En.addD R.E id).2 := if_pos (by omega)
        rw [hH0, hT0, hE0]
        refine gzU ?_
        refine s_keep (l' := rlC b p :: As.asA p.n R.N :: (s.M ++ (s.C ++ (lA ++ (s.H ++ (s.T ++ (s.Q ++ (s.E ++ (s.V ++ (X ++ G)))))))))) (keep_ac []) ?_
        refine gzU ?_
        refine s_keep (l' := s.E ++ (rlC b p :: As.asA p.n R.N :: (s.M ++ (s.C ++ (lA ++ (s.H ++ (s.T ++ (s.Q ++ (s.V ++ (X ++ G)))))))))) (keep_ac []) ?_
        refine t_e (e_call0 rfl rfl (En.add_any p.e R.E s.E id hR.en _)) rfl rfl rfl ?_
        rintro _ _ ⟨rfl, lE, hE, rfl⟩
        refine gzU ?_
        refine k_ret [] rfl (l' := allL b p ⟨s.M, s.C, lA, s.H, s.T, s.Q, lE, s.V⟩ ⟨(Ar.addD R.A k z (f' : Nat)).2, R.H, R.N, R.T, R.Q, (En.addD R.E id).2⟩ ((X) ++ G)) (by unfold allL; exact keep_ac []) (by exact zRes) ?_
        refine ⟨rfl, ⟨s.M, s.C, lA, s.H, s.T, s.Q, lE, s.V⟩, X, ?_, rfl⟩
        exact ⟨hR.mem, hR.co, hA, hAn, hR.ho, hR.inv.mono (by omega), fun j hj => by have := hR.giv j hj; simp only; omega, hR.th, hR.qu, fun j hj => Nat.le_trans (hR.ql j hj) (by omega), hE, hR.cu, hR.c1⟩
      have hH0 : (if 0 < Ar.slotsD k z then ((addN R.H.1 id (Ar.slotsD k z)).2, R.H.2) else R.H) = R.H := if_neg hs
      have hT0 : (if k = 9 then (Th.addD R.T id).2 else R.T) = R.T := if_neg (by omega)
      have hE0 : (if k = 8 then (En.addD R.E id).2 else R.E) = R.E := if_neg (by omega)
      rw [hH0, hT0, hE0]
      refine gzU ?_
      refine gzU ?_
      refine k_ret [] rfl (l' := allL b p ⟨s.M, s.C, lA, s.H, s.T, s.Q, s.E, s.V⟩ ⟨(Ar.addD R.A k z (f' : Nat)).2, R.H, R.N, R.T, R.Q, R.E⟩ ((X) ++ G)) (by unfold allL; exact keep_ac []) (by exact zRes) ?_
      refine ⟨rfl, ⟨s.M, s.C, lA, s.H, s.T, s.Q, s.E, s.V⟩, X, ?_, rfl⟩
      exact ⟨hR.mem, hR.co, hA, hAn, hR.ho, hR.inv.mono (by omega), fun j hj => by have := hR.giv j hj; simp only; omega, hR.th, hR.qu, fun j hj => Nat.le_trans (hR.ql j hj) (by omega), hR.en, hR.cu, hR.c1⟩
  · rw [if_neg he] at hmk
    rw [hmk]
    refine gzU ?_
    exact k_ret [] rfl (l' := allL b p ⟨s.M, s.C, lA, s.H, s.T, s.Q, s.E, s.V⟩ { R with A := (Ar.addD R.A k z f).2 } ([] ++ G)) (by unfold allL; exact keep_ac []) (by exact zRes) ⟨rfl, _, _, (⟨hR.mem, hR.co, hA, hAn, hR.ho, hR.inv, hR.giv, hR.th, hR.qu, hR.ql, hR.en, hR.cu, hR.c1⟩ : IsRl F C n { R with A := (Ar.addD R.A k z f).2 } p ⟨s.M, s.C, lA, s.H, s.T, s.Q, s.E, s.V⟩).mono (by omega), rfl⟩
def layT : Int → List (Int × Int) → List (Int × Int × Int)
  | _, [] => []
  | f, x :: r => (x.1, x.2, f) :: layT (f + Ar.framesD x.1 x.2) r
def layN : Int → List (Int × Int) → Int
  | f, [] => f
  | f, x :: r => layN (f + Ar.framesD x.1 x.2) r
theorem layN_app (a b : List (Int × Int)) : ∀ f, layN f (a ++ b) = layN (layN f a) b := by
  induction a with
  | nil => intro f; rfl
  | cons x r ih => intro f; exact ih _
theorem layT_len : ∀ (L : List (Int × Int)) (f : Int), (layT f L).length = L.length
  | [], _ => rfl
  | x :: r, f => by show (layT _ r).length + 1 = r.length + 1; rw [layT_len r]
theorem layT_get : ∀ (L : List (Int × Int)) (f : Int) (m : Nat), (layT f L)[m]? = L[m]?.map fun x => (x.1, x.2, layN f (L.take m))
  | [], _, m => by simp [layT]
  | x :: r, f, 0 => rfl
  | x :: r, f, m + 1 => by
    show (layT (f + Ar.framesD x.1 x.2) r)[m]? = _
    rw [layT_get r]; rfl
theorem layN_take {L : List (Int × Int)} {m : Nat} {x : Int × Int} (h : L[m]? = some x) (f : Int) : layN f (L.take (m + 1)) = layN f (L.take m) + Ar.framesD x.1 x.2 := by
  rw [List.take_add_one, h, layN_app]; rfl
theorem layT_take {L : List (Int × Int)} {m : Nat} {x : Int × Int} (h : L[m]? = some x) (f : Int) : (layT f L).take (m + 1) = (layT f L).take m ++ [(x.1, x.2, layN f (L.take m))] := by
  rw [List.take_add_one, layT_get, h]; rfl
abbrev thV1 (x : Int × Int × Int) : Value := .agg (List.toArray [.int .i64 x.1, .int .i64 x.2.1, .int .i64 x.2.2])
abbrev fiC (B : Nat) (f : Int) : Chunk := (B, .cells (List.toArray [.int .i64 f]) 3 (0, 0))
abbrev yiC (B r : Nat) : Chunk := (B, .cells (List.toArray [.func (.yield r) #[] #[]]) 181 (0, 0))
set_option maxHeartbeats 1000000 in
theorem lay1_any (r : Nat) (k z f : Int) (hf : 0 ≤ f ∧ f ≤ 1000000) (B3 B2 : Nat) (l G : List Chunk) (J1 J2 : List Chunk → Prop) (hy : ∀ G2, (∀ c, c ∈ G → c ∈ G2) → YieldS Tryz.prog r [thV1 (k, z, f)] (l ++ G2) (fun v l' => ∃ l1, l' = l1 ++ G2 ∧ ((v = .bool true ∧ J1 l1) ∨ (v = .bool false ∧ J2 l1)))) :
    Fn Tryz.prog 73 [.int .i64 k, .int .i64 z, pV B3, pV B2] (fiC B3 f :: yiC B2 r :: (l ++ G)) fun v l' => ∃ l1 X bb, l' = fiC B3 (f + Ar.framesD k z) :: yiC B2 r :: (l1 ++ (X ++ G)) ∧ v = .bool bb ∧ ((bb = true ∧ J1 l1) ∨ (bb = false ∧ J2 l1)) := by
  have hfr := Ar.frames_rng k z
  refine fn_of_body Tryz.func73 rfl rfl fun E => ?_
  simp only [argF, Tryz.ntmps73]
  refine gzU ?_
  refine t_e e_alloc rfl rfl rfl ?_; rintro _ _ ⟨b7, _, rfl, rfl⟩
  refine gzU ?_
  refine c_draw [(0, true), (1, true), (2, true), (3, true), (4, true), (5, false)] [[], [], [], [1, 2], [0, 1, 2, 3], [0, 1, 2, 3, 4]] ([]) (by kernel_rfl) (by kernel_rfl) zAtt zHR ?_
  refine pzU ?_
  apply pl_s (S := [fiC B3 f]); (· exact zLd); (· exact sing_mem (.tail _ (.head _))); (· rfl); (· rfl); (· rfl)
  refine pzU ?_
  apply pl_q
  · exact q_call rfl rfl (fun l hl => Ar.frames_any k z l)
  · rfl
  · rfl
  · rfl
  refine pzU ?_
  apply pl_nS
  · exact e_storeL rfl rfl rfl (by exact zMem) .zero (by exact zUpd)
  (· rfl); (· rfl); (· intro _ _ _ c hc; cases hc); (· exact fun _ _ _ x hx ha => anc_all (by kernel_rfl) hx ha)
  rintro _ _ ⟨rfl, rfl⟩
  refine pzU ?_
  refine gzU ?_
  refine s_keep (l' := l ++ ((b7, .cells (List.toArray [.int .i64 k, .int .i64 z, .int .i64 f]) 88 (0, 0)) :: fiC B3 (f + Ar.framesD k z) :: yiC B2 r :: G)) (Keep.of_perm (List.perm_append_comm_assoc [_, _, _] l G)) ?_
  refine t_e (e_yield rfl rfl (hy _ fun c hc => .tail _ (.tail _ (.tail _ hc)))) rfl rfl rfl ?_
  rintro v _ ⟨l1, rfl, hJ⟩
  obtain ⟨bb, rfl, hK⟩ : ∃ bb, v = .bool bb ∧ ((bb = true ∧ J1 l1) ∨ (bb = false ∧ J2 l1)) := by
    rcases hJ with ⟨rfl, h⟩ | ⟨rfl, h⟩
    · exact ⟨true, rfl, .inl ⟨rfl, h⟩⟩
    · exact ⟨false, rfl, .inr ⟨rfl, h⟩⟩
  refine gzU ?_
  refine k_ret [] rfl (l' := fiC B3 (f + Ar.framesD k z) :: yiC B2 r :: (l1 ++ ([(b7, .cells (List.toArray [.int .i64 k, .int .i64 z, .int .i64 f]) 88 (0, 0))] ++ G))) (keep_ac []) (by exact zRes) ?_
  exact ⟨l1, _, bb, rfl, rfl, hK⟩
def kzs (T : Nat) (sh : Bool) : List (Int × Int) := (List.replicate T [(9, 0), (2, 4), (5, 0), (6, 0)]).flatten ++ (if sh then [(8, 0)] else [])
def unt (F T : Nat) (sh : Bool) : Int := ((F : Int) - layN 0 (kzs T sh)) / T
def kzF (F T : Nat) (sh : Bool) : List (Int × Int) := kzs T sh ++ List.replicate T (1, unt F T sh)
def thingsL (F T : Nat) (sh : Bool) : List (Int × Int × Int) := layT 0 (kzF F T sh)
def fstN (F T : Nat) (sh : Bool) (m : Nat) : Int := layN 0 ((kzF F T sh).take m)
abbrev cfC (B F C T : Nat) (sh : Bool) : Chunk := (B, .cells (List.toArray [.int .i64 F, .int .i64 C, .int .i64 T, .bool sh]) 23 (0, 0))
theorem layN_rng : ∀ (L : List (Int × Int)) (f : Int), 0 ≤ f → 0 ≤ layN f L ∧ layN f L ≤ f + 64 * L.length
  | [], f, h => by show 0 ≤ f ∧ f ≤ f + 64 * 0; omega
  | x :: r, f, h => by
    have h1 := Ar.frames_rng x.1 x.2
    have h2 := layN_rng r (f + Ar.framesD x.1 x.2) (by omega)
    show 0 ≤ layN _ r ∧ layN _ r ≤ f + 64 * ((r.length + 1 : Nat) : Int)
    omega
theorem flat4 : ∀ (T i j : Nat), i < T → j < 4 → ((List.replicate T [((9 : Int), (0 : Int)), (2, 4), (5, 0), (6, 0)]).flatten)[4 * i + j]? = [((9 : Int), (0 : Int)), (2, 4), (5, 0), (6, 0)][j]?
  | 0, i, j, h, _ => by omega
  | T + 1, 0, j, _, hj => by
    rw [List.replicate_succ, List.flatten_cons, Nat.mul_zero, Nat.zero_add, List.getElem?_append_left (by simpa using hj)]
  | T + 1, i + 1, j, h, hj => by
    rw [List.replicate_succ, List.flatten_cons, show 4 * (i + 1) + j = (4 * i + j) + 4 by omega, List.getElem?_append_right (by simp)]
    exact flat4 T i j (by omega) hj
theorem flat4_len (T : Nat) : ((List.replicate T [((9 : Int), (0 : Int)), (2, 4), (5, 0), (6, 0)]).flatten).length = 4 * T := by
  induction T with
  | zero => rfl
  | succ T ih => rw [List.replicate_succ, List.flatten_cons, List.length_append, ih]; simp; omega
theorem kzs_len (T : Nat) (sh : Bool) : (kzs T sh).length = 4 * T + sh.toNat := by
  unfold kzs; rw [List.length_append, flat4_len]; cases sh <;> rfl
theorem kzF_len (F T : Nat) (sh : Bool) : (kzF F T sh).length = 5 * T + sh.toNat := by
  unfold kzF; rw [List.length_append, kzs_len, List.length_replicate]; omega
theorem kz_four {F T : Nat} {sh : Bool} {i j : Nat} (hi : i < T) (hj : j < 4) : (kzF F T sh)[4 * i + j]? = [((9 : Int), (0 : Int)), (2, 4), (5, 0), (6, 0)][j]? := by
  unfold kzF
  rw [List.getElem?_append_left (by rw [kzs_len]; omega)]
  unfold kzs
  rw [List.getElem?_append_left (by rw [flat4_len]; omega)]
  exact flat4 T i j hi hj
theorem kz_end {F T : Nat} : (kzF F T true)[4 * T]? = some (8, 0) := by
  unfold kzF
  rw [List.getElem?_append_left (by rw [kzs_len]; simp)]
  unfold kzs
  rw [List.getElem?_append_right (by rw [flat4_len]; omega), flat4_len, Nat.sub_self]; rfl
theorem kz_unt {F T : Nat} {sh : Bool} {i : Nat} (hi : i < T) : (kzF F T sh)[4 * T + sh.toNat + i]? = some (1, unt F T sh) := by
  unfold kzF
  rw [List.getElem?_append_right (by rw [kzs_len]; omega), kzs_len, Nat.add_sub_cancel_left, List.getElem?_replicate, if_pos hi]
theorem kz_take (F T : Nat) (sh : Bool) : (kzF F T sh).take (4 * T + sh.toNat) = kzs T sh := by
  unfold kzF
  rw [← kzs_len, List.take_left]
theorem keep_in {L1 G G' : List Chunk} (h : Keep G G') : Keep (L1 ++ G) (L1 ++ G') := by
  obtain ⟨X, hX⟩ := h
  exact ⟨X, (hX.append_left L1).trans (List.perm_append_comm_assoc L1 X G')⟩
theorem lay_m {F T : Nat} {sh : Bool} (hT : T ≤ 3) {m : Nat} {k z : Int} (hm : (kzF F T sh)[m]? = some (k, z)) {r : Nat} {I Ix : List (Int × Int × Int) → List Chunk → Prop} {G0 : List Chunk}
    (hY : ∀ pre x l G, (∀ c, c ∈ G0 → c ∈ G) → I pre l → pre ++ [x] <+: thingsL F T sh → YieldS Tryz.prog r [thV1 x] (l ++ G) (fun v l' => ∃ l1, l' = l1 ++ G ∧ ((v = .bool true ∧ I (pre ++ [x]) l1) ∨ (v = .bool false ∧ Ix (pre ++ [x]) l1))))
    {l G : List Chunk} (hG : ∀ c, c ∈ G0 → c ∈ G) (hI : I ((thingsL F T sh).take m) l) (B3 B2 : Nat) :
    Fn Tryz.prog 73 [.int .i64 k, .int .i64 z, pV B3, pV B2] (fiC B3 (fstN F T sh m) :: yiC B2 r :: (l ++ G)) fun v l' => ∃ l1 X bb, l' = fiC B3 (fstN F T sh (m + 1)) :: yiC B2 r :: (l1 ++ (X ++ G)) ∧ v = .bool bb ∧ ((bb = true ∧ I ((thingsL F T sh).take (m + 1)) l1) ∨ (bb = false ∧ Ix ((thingsL F T sh).take (m + 1)) l1)) := by
  have e1 : (thingsL F T sh).take (m + 1) = (thingsL F T sh).take m ++ [(k, z, fstN F T sh m)] := layT_take hm 0
  have e2 : fstN F T sh (m + 1) = fstN F T sh m + Ar.framesD k z := layN_take hm 0
  rw [e1, e2]
  have hb : 0 ≤ fstN F T sh m ∧ fstN F T sh m ≤ 1000000 := by
    have h1 := layN_rng ((kzF F T sh).take m) 0 (Int.le_refl 0)
    have h2 : ((kzF F T sh).take m).length ≤ 16 := by
      rw [List.length_take, kzF_len]
      have : sh.toNat ≤ 1 := by cases sh <;> decide
      omega
    unfold fstN; omega
  exact lay1_any r k z _ hb B3 B2 l G _ _ fun G2 hG2 => hY _ (k, z, fstN F T sh m) l G2 (fun c hc => hG2 c (hG c hc)) hI (by rw [← e1]; exact List.take_prefix _ _)
theorem things_any (F C T : Nat) (sh : Bool) (l : List Chunk) : Fn Tryz.prog 25 [.agg (List.toArray [.int .i64 F, .int .i64 C, .int .i64 T, .bool sh])] l fun v l' => ∃ B1, v = .func (.func 72) #[] #[pV B1] ∧ l' = cfC B1 F C T sh :: l := by
  refine fn_of_body Tryz.func25 rfl rfl fun E => ?_
  simp only [argF, Tryz.ntmps25]
  refine gzU ?_
  refine t_e (e_boxA rfl) rfl rfl rfl ?_
  rintro _ _ ⟨B1, _, rfl, rfl⟩
  refine gzU ?_
  exact k_ret [] rfl .refl (by exact zRes) ⟨B1, rfl, rfl⟩
set_option maxHeartbeats 4000000 in
theorem things_iter (B1 F C T : Nat) (sh : Bool) (hT1 : 1 ≤ T) (hT : T ≤ 3) (hF : 11 * T ≤ F) (hF2 : F ≤ 64) : IterM Tryz.prog 72 [pV B1] (fun x => [thV1 x]) (fun xs => xs = thingsL F T sh) (fun pre => pre <+: thingsL F T sh) (fun _ _ => True) [cfC B1 F C T sh] := by
  refine ⟨fun r I Ix G0 hneed hY l G hG h0 => ?_⟩
  refine fn_of_body Tryz.func72 rfl rfl fun E => ?_
  simp only [argF, Tryz.ntmps72]
  refine gzU ?_
  refine t_e (e_box1 rfl rfl) rfl rfl rfl ?_
  rintro _ _ ⟨B2, _, rfl, rfl⟩
  refine gzU ?_
  refine t_e e_alloc rfl rfl rfl ?_; rintro _ _ ⟨B3, _, rfl, rfl⟩
  have hmc : cfC B1 F C T sh ∈ l ++ ([cfC B1 F C T sh] ++ G) := List.mem_append_right _ (.head _)
  refine gzU ?_
  refine k_loop (α := Nat × List Chunk × List Chunk) (fun x => [(1, pV B1), (3, pV B3), (4, .func (.func 73) #[] #[pV B3, pV B2]), (8, .int .i64 T), (9, .int .i64 x.1)]) (fun x => fiC B3 (fstN F T sh (4 * x.1)) :: yiC B2 r :: (x.2.1 ++ (x.2.2 ++ (cfC B1 F C T sh :: G)))) (fun x => x.1 ≤ T ∧ I ((thingsL F T sh).take (4 * x.1)) x.2.1) (fun x => T - x.1) (0, l, []) ⟨Nat.zero_le _, h0⟩ ⟨rfl, rfl, rfl, rfl, rfl, trivial⟩ .refl ?_
  rintro ⟨i, l0, X0⟩ ⟨hi, hI0⟩
  simp only at hi hI0 ⊢
  have hmc : cfC B1 F C T sh ∈ l0 ++ (X0 ++ (cfC B1 F C T sh :: G)) := List.mem_append_right _ (List.mem_append_right _ (.head _))
  by_cases hlt : i < T
  · refine gzU ?_
    refine t_e (e_call rfl rfl (lay_m (F := F) (sh := sh) hT (m := 4 * i + 0) (kz_four hlt (by decide)) hY (G := X0 ++ (cfC B1 F C T sh :: G)) (fun c hc => List.mem_append_right _ ((.tail _ (hG c hc)))) hI0 B3 B2)) rfl rfl rfl ?_
    rintro _ _ ⟨l1, X1, bb, rfl, rfl, hbb⟩
    rcases hbb.symm with ⟨rfl, hx⟩ | ⟨rfl, hI1⟩
    · refine gzU ?_
      exact k_ret [] rfl (l' := l1 ++ G) (.drop (.drop (keep_in (Keep.dropL X1 (Keep.dropL X0 ((.drop .refl))))))) (by exact zRes) ⟨l1, rfl, .inr ⟨_, List.take_prefix _ _, hx⟩⟩
    refine gzU ?_
    refine t_eh (e_call rfl rfl (lay_m (F := F) (sh := sh) hT (m := 4 * i + 1) (kz_four hlt (by decide)) hY (G := X1 ++ (X0 ++ (cfC B1 F C T sh :: G))) (fun c hc => List.mem_append_right _ (List.mem_append_right _ ((.tail _ (hG c hc))))) hI1 B3 B2)) rfl rfl rfl ?_
    rintro _ _ ⟨l2, X2, bb, rfl, rfl, hbb⟩
    rcases hbb.symm with ⟨rfl, hx⟩ | ⟨rfl, hI2⟩
    · refine gzU ?_
      exact k_ret [] rfl (l' := l2 ++ G) (.drop (.drop (keep_in (Keep.dropL X2 (Keep.dropL X1 (Keep.dropL X0 ((.drop .refl)))))))) (by exact zRes) ⟨l2, rfl, .inr ⟨_, List.take_prefix _ _, hx⟩⟩
    refine gzU ?_
    refine t_eh (e_call rfl rfl (lay_m (F := F) (sh := sh) hT (m := 4 * i + 2) (kz_four hlt (by decide)) hY (G := X2 ++ (X1 ++ (X0 ++ (cfC B1 F C T sh :: G)))) (fun c hc => List.mem_append_right _ (List.mem_append_right _ (List.mem_append_right _ ((.tail _ (hG c hc)))))) hI2 B3 B2)) rfl rfl rfl ?_
    rintro _ _ ⟨l3, X3, bb, rfl, rfl, hbb⟩
    rcases hbb.symm with ⟨rfl, hx⟩ | ⟨rfl, hI3⟩
    · refine gzU ?_
      exact k_ret [] rfl (l' := l3 ++ G) (.drop (.drop (keep_in (Keep.dropL X3 (Keep.dropL X2 (Keep.dropL X1 (Keep.dropL X0 ((.drop .refl))))))))) (by exact zRes) ⟨l3, rfl, .inr ⟨_, List.take_prefix _ _, hx⟩⟩
    refine gzU ?_
    refine t_eh (e_call rfl rfl (lay_m (F := F) (sh := sh) hT (m := 4 * i + 3) (kz_four hlt (by decide)) hY (G := X3 ++ (X2 ++ (X1 ++ (X0 ++ (cfC B1 F C T sh :: G))))) (fun c hc => List.mem_append_right _ (List.mem_append_right _ (List.mem_append_right _ (List.mem_append_right _ ((.tail _ (hG c hc))))))) hI3 B3 B2)) rfl rfl rfl ?_
    rintro _ _ ⟨l4, X4, bb, rfl, rfl, hbb⟩
    rcases hbb.symm with ⟨rfl, hx⟩ | ⟨rfl, hI4⟩
    · refine gzU ?_
      exact k_ret [] rfl (l' := l4 ++ G) (.drop (.drop (keep_in (Keep.dropL X4 (Keep.dropL X3 (Keep.dropL X2 (Keep.dropL X1 (Keep.dropL X0 ((.drop .refl)))))))))) (by exact zRes) ⟨l4, rfl, .inr ⟨_, List.take_prefix _ _, hx⟩⟩
    refine gzU ?_
    exact k_next (i + 1, l4, X4 ++ (X3 ++ (X2 ++ (X1 ++ X0)))) ⟨by simp only; omega, hI4⟩ (by simp only; omega) ⟨rfl, rfl, rfl, rfl, rfl, trivial⟩ (by simp only [List.append_assoc]; exact .refl)
  · obtain rfl : i = T := by omega
    have hv : layN 0 (kzs i sh) = 7 * i + sh.toNat := by
      have h3 : i = 1 ∨ i = 2 ∨ i = 3 := by omega
      rcases h3 with rfl | rfl | rfl <;> cases sh <;> rfl
    cases sh with
    | true =>
      have hv : layN 0 (kzs i true) = 7 * i + 1 := hv
      refine gzU ?_
      refine t_eh (e_call rfl rfl (lay_m (F := F) (sh := true) hT (m := 4 * i) kz_end hY (G := X0 ++ (cfC B1 F C i true :: G)) (fun c hc => List.mem_append_right _ ((.tail _ (hG c hc)))) hI0 B3 B2)) rfl rfl rfl ?_
      rintro _ _ ⟨l1, X1, bb, rfl, rfl, hbb⟩
      rcases hbb.symm with ⟨rfl, hx⟩ | ⟨rfl, hI1⟩
      · refine gzU ?_
        exact k_ret [] rfl (l' := l1 ++ G) (.drop (.drop (keep_in (Keep.dropL X1 (Keep.dropL X0 ((.drop .refl))))))) (by exact zRes) ⟨l1, rfl, .inr ⟨_, List.take_prefix _ _, hx⟩⟩
      refine gzU ?_
      have hfe : fstN F i true (4 * i + 1) = layN 0 (kzs i true) := by rw [← kz_take F i true]; rfl
      have hu : ((F : Int) - fstN F i true (4 * i + 1)) / i = unt F i true := by rw [hfe]; rfl
      have hmd : cfC B1 F C i true ∈ l1 ++ (X1 ++ (X0 ++ (cfC B1 F C i true :: G))) := List.mem_append_right _ (List.mem_append_right _ (List.mem_append_right _ (.head _)))
      refine gzU ?_
      rw [hu]
      refine gzU ?_
      refine k_loop (α := Nat × List Chunk × List Chunk) (fun x => [(4, .func (.func 73) #[] #[pV B3, pV B2]), (5, .int .i64 (unt F i true)), (45, .int .i64 i), (46, .int .i64 x.1)]) (fun x => fiC B3 (fstN F i true ((4 * i + 1) + x.1)) :: yiC B2 r :: (x.2.1 ++ (x.2.2 ++ (cfC B1 F C i true :: G)))) (fun x => x.1 ≤ i ∧ I ((thingsL F i true).take ((4 * i + 1) + x.1)) x.2.1) (fun x => i - x.1) (0, l1, X1 ++ X0) ⟨Nat.zero_le _, hI1⟩ ⟨rfl, rfl, rfl, rfl, trivial⟩ (by simp only [List.append_assoc]; exact .refl) ?_
      rintro ⟨j, l7, X7⟩ ⟨hj, hI7⟩
      simp only at hj hI7 ⊢
      by_cases hlt2 : j < i
      · refine gzU ?_
        refine t_e (e_call rfl rfl (lay_m (F := F) (sh := true) hT (m := (4 * i + 1) + j) (kz_unt (sh := true) hlt2) hY (G := X7 ++ (cfC B1 F C i true :: G)) (fun c hc => List.mem_append_right _ (.tail _ (hG c hc))) hI7 B3 B2)) rfl rfl rfl ?_
        rintro _ _ ⟨l8, X8, bb, rfl, rfl, hbb⟩
        rcases hbb.symm with ⟨rfl, hx⟩ | ⟨rfl, hI8⟩
        · refine gzU ?_
          exact k_ret [] rfl (l' := l8 ++ G) (.drop (.drop (keep_in (Keep.dropL X8 (Keep.dropL X7 ((.drop .refl))))))) (by exact zRes) ⟨l8, rfl, .inr ⟨_, List.take_prefix _ _, hx⟩⟩
        refine gzU ?_
        exact k_next (j + 1, l8, X8 ++ X7) ⟨by simp only; omega, hI8⟩ (by simp only; omega) ⟨rfl, rfl, rfl, rfl, trivial⟩ (by simp only [List.append_assoc]; exact .refl)
      · obtain rfl : j = i := by omega
        have hall : (thingsL F j true).take ((4 * j + 1) + j) = thingsL F j true := List.take_of_length_le (by unfold thingsL; rw [layT_len, kzF_len]; simp only [Bool.toNat_true, Bool.toNat_false]; omega)
        rw [hall] at hI7
        refine gzU ?_
        exact k_ret [] rfl (l' := l7 ++ G) (.drop (.drop (keep_in (Keep.dropL X7 (.drop .refl))))) (by exact zRes) ⟨l7, rfl, .inl ⟨_, rfl, hI7⟩⟩
    | false =>
      have hv : layN 0 (kzs i false) = 7 * i := by simpa using hv
      have hfe : fstN F i false (4 * i) = layN 0 (kzs i false) := by rw [← kz_take F i false]; rfl
      have hu : ((F : Int) - fstN F i false (4 * i)) / i = unt F i false := by rw [hfe]; rfl
      have hmd : cfC B1 F C i false ∈ l0 ++ (X0 ++ (cfC B1 F C i false :: G)) := List.mem_append_right _ (List.mem_append_right _ (.head _))
      refine gzU ?_
      rw [hu]
      refine gzU ?_
      refine k_loop (α := Nat × List Chunk × List Chunk) (fun x => [(4, .func (.func 73) #[] #[pV B3, pV B2]), (5, .int .i64 (unt F i false)), (45, .int .i64 i), (46, .int .i64 x.1)]) (fun x => fiC B3 (fstN F i false ((4 * i) + x.1)) :: yiC B2 r :: (x.2.1 ++ (x.2.2 ++ (cfC B1 F C i false :: G)))) (fun x => x.1 ≤ i ∧ I ((thingsL F i false).take ((4 * i) + x.1)) x.2.1) (fun x => i - x.1) (0, l0, X0) ⟨Nat.zero_le _, hI0⟩ ⟨rfl, rfl, rfl, rfl, trivial⟩ (by simp only [List.append_assoc]; exact .refl) ?_
      rintro ⟨j, l7, X7⟩ ⟨hj, hI7⟩
      simp only at hj hI7 ⊢
      by_cases hlt2 : j < i
      · refine gzU ?_
        refine t_e (e_call rfl rfl (lay_m (F := F) (sh := false) hT (m := (4 * i) + j) (kz_unt (sh := false) hlt2) hY (G := X7 ++ (cfC B1 F C i false :: G)) (fun c hc => List.mem_append_right _ (.tail _ (hG c hc))) hI7 B3 B2)) rfl rfl rfl ?_
        rintro _ _ ⟨l8, X8, bb, rfl, rfl, hbb⟩
        rcases hbb.symm with ⟨rfl, hx⟩ | ⟨rfl, hI8⟩
        · refine gzU ?_
          exact k_ret [] rfl (l' := l8 ++ G) (.drop (.drop (keep_in (Keep.dropL X8 (Keep.dropL X7 ((.drop .refl))))))) (by exact zRes) ⟨l8, rfl, .inr ⟨_, List.take_prefix _ _, hx⟩⟩
        refine gzU ?_
        exact k_next (j + 1, l8, X8 ++ X7) ⟨by simp only; omega, hI8⟩ (by simp only; omega) ⟨rfl, rfl, rfl, rfl, trivial⟩ (by simp only [List.append_assoc]; exact .refl)
      · obtain rfl : j = i := by omega
        have hall : (thingsL F j false).take ((4 * j) + j) = thingsL F j false := List.take_of_length_le (by unfold thingsL; rw [layT_len, kzF_len]; simp only [Bool.toNat_true, Bool.toNat_false]; omega)
        rw [hall] at hI7
        refine gzU ?_
        exact k_ret [] rfl (l' := l7 ++ G) (.drop (.drop (keep_in (Keep.dropL X7 (.drop .refl))))) (by exact zRes) ⟨l7, rfl, .inl ⟨_, rfl, hI7⟩⟩
structure OwT where
  th : Int
  nd : Int
  rt : Int
  pl : Int
  un : Int
abbrev owL (o : OwT) : List Value := [.int .i64 o.th, .int .i64 o.nd, .int .i64 o.rt, .int .i64 o.pl, .int .i64 o.un]
abbrev owC (B : Nat) (o : OwT) : Chunk := (B, .cells (List.toArray (owL o)) 92 (0, 0))
abbrev capX (k o b : Int) : CapT := ⟨k, o, 0, 0, 0, b, 0, 0⟩
theorem capX_w (k o b : Int) : CapW (capX k o b) := ⟨Int.le_refl 0, by show (0 : Int) ≤ 9223372036854775807; decide⟩
def layH (H : HS) (o : OwT) (first : Bool) : HS :=
  let H1 := (rootH H (o.nd, 1) (capX 2 o.nd 8)).2
  let H2 := (rootH H1 (o.nd, 2) (capX 9 o.th 0)).2
  let H3 := (rootH H2 (o.nd, 3) (capX 1 o.un 0)).2
  let H4 := (rootH H3 (o.nd, 4) (capX 5 o.rt 0)).2
  let H5 := if first then (rootH H4 (o.nd, 5) (capX 7 0 0)).2 else H4
  let H6 := (rootH H5 (o.nd, 6) (capX 6 o.pl 0)).2
  let H7 := (derH H6 (o.nd, 1) (o.th, 0) (copyC (atD H6.1 (o.nd, 1)) 7)).2
  (derH H7 (o.nd, 4) (o.th, 1) (copyC (atD H7.1 (o.nd, 4)) 7)).2
def layR (R : RT) (o : OwT) (first : Bool) : RT := { R with H := layH R.H o first, N := (As.assignP (As.addP R.N o.pl).2.2 o.pl o.rt).2.2.2 }
theorem bat_any (o : OwT) (B : Nat) (i : Int) (l : List Chunk) (hm : owC B o ∈ l) : Fn Tryz.prog 82 [.int .i64 i, pV B] l fun v l' => v = .agg (List.toArray (encT (o.nd, i))) ∧ l' = l := by
  refine fn_of_body Tryz.func82 rfl rfl fun E => ?_
  simp only [argF, Tryz.ntmps82]
  refine gzU ?_
  refine t_e e_alloc rfl rfl rfl ?_; rintro _ _ ⟨b3, _, rfl, rfl⟩
  refine gzU ?_
  exact k_ret2 [] ((b3, .cells (List.toArray (encT (o.nd, i))) 109 (0, 0)) :: l) rfl (l' := l) (by exact zKeep) (by exact zRes) (by exact zKeep) ⟨rfl, rfl⟩
theorem giv_add (s : As.ASt) (o : Int) (n : Nat) : (As.addP s o).2.2.given n = s.given n := by
  unfold As.addP
  repeat' split
  all_goals rfl
theorem giv_asg {s : As.ASt} {k : Nat} (h : ∀ n, n < 32 → 0 ≤ s.given n ∧ s.given n ≤ k) (o r : Int) : ∀ n, n < 32 → 0 ≤ (As.assignP s o r).2.2.2.given n ∧ (As.assignP s o r).2.2.2.given n ≤ (k + 1 : Nat) := by
  intro n hn
  have h0 := h n hn
  unfold As.assignP
  repeat' split
  all_goals first
    | (simp only; omega)
    | (simp only [As.ASt.give]
       unfold As.upd
       split <;> first | omega | (rename_i e; rw [← e]; omega))
set_option maxHeartbeats 4000000 in
theorem blay_any (F C n : Nat) (R : RT) (b : Nat) (p : RP) (s : RL) (hR : IsRl F C n R p s) (hn : n ≤ 900) (o : OwT) (first : Bool) (G : List Chunk) : Fn Tryz.prog 27 [pV b, .agg (List.toArray (owL o)), .bool first] (allL b p s R G) fun v l' =>
    v = .tuple #[] ∧ ∃ s' X, IsRl F C (n + 8) (layR R o first) p s' ∧ l' = allL b p s' (layR R o first) (X ++ G) := by
  refine fn_of_body Tryz.func27 rfl rfl fun E => ?_
  simp only [argF, Tryz.ntmps27]
  unfold allL
  refine gzU ?_
  refine t_e (e_boxA rfl) rfl rfl rfl ?_
  rintro _ _ ⟨b4, _, rfl, rfl⟩
  refine gzU ?_
  have hsubR : ∀ (lq : List Chunk) (c : Chunk), c ∈ [rlC b p, owC b4 o] → c ∈ lq ++ (owC b4 o :: rlC b p :: As.asA p.n R.N :: (s.M ++ (s.C ++ (s.A ++ (s.T ++ (s.Q ++ (s.E ++ (s.V ++ G)))))))) := fun lq c hc => by
    rcases List.mem_cons.1 hc with rfl | hc
    · exact List.mem_append_right _ (.tail _ (.head _))
    · rw [List.mem_singleton.1 hc]; exact List.mem_append_right _ (.head _)
  cases first with
  | true =>
    refine c_keep (l' := s.H ++ (owC b4 o :: rlC b p :: As.asA p.n R.N :: (s.M ++ (s.C ++ (s.A ++ (s.T ++ (s.Q ++ (s.E ++ (s.V ++ G))))))))) (by dsimp only [owC, owL]; exact keep_ac []) ?_
    refine c_draw [(0, true), (1, true), (2, true), (3, true), (4, true), (5, true), (6, true), (7, false)] [[], [0], [], [0, 1, 2], [], [4], [4, 5], [0, 1, 2, 3, 4, 5, 6]] ([rlC b p, owC b4 o]) (by kernel_rfl) (by kernel_rfl) zAtt (hsubR _) ?_
    refine pzU ?_
    apply pl_q
    · exact q_call rfl rfl (fun l hl => rhold_any b p l (hl _ (.head _)))
    · rfl
    · rfl
    · rfl
    refine pzU ?_
    apply pl_q
    · exact q_callC rfl rfl (fun l hl => bat_any o b4 1 l (hl _ (.tail _ (.head _))))
    · rfl
    · rfl
    · rfl
    refine pzU ?_
    apply pl_e
    · exact e_call0 rfl rfl (hroot_any p.h R.H (n) (hR.inv) s.H hR.ho (o.nd, 1) (capX 2 o.nd 8) _)
    · rfl
    · rfl
    · rfl
    · rintro _ _ ⟨_, _, _, rfl⟩; exact hsubR _
    rintro _ _ ⟨rfl, lH1, hq1, rfl⟩
    refine pzU ?_
    refine gzU ?_
    obtain ⟨H1, hH1⟩ : ∃ x, x = (rootH R.H (o.nd, 1) (capX 2 o.nd 8)).2 := ⟨_, rfl⟩
    have hI1 : InvH H1 (n + 1) := by rw [hH1]; exact InvH.root (hR.inv) _ _ (capX_w _ _ _)
    rw [← hH1] at hq1
    refine c_draw [(0, true), (1, true), (2, true), (3, true), (4, true), (5, true), (6, true), (7, false)] [[], [0], [], [0, 1, 2], [], [4], [4, 5], [0, 1, 2, 3, 4, 5, 6]] ([rlC b p, owC b4 o]) (by kernel_rfl) (by kernel_rfl) zAtt (hsubR _) ?_
    refine pzU ?_
    apply pl_q
    · exact q_call rfl rfl (fun l hl => rhold_any b p l (hl _ (.head _)))
    · rfl
    · rfl
    · rfl
    refine pzU ?_
    apply pl_q
    · exact q_callC rfl rfl (fun l hl => bat_any o b4 2 l (hl _ (.tail _ (.head _))))
    · rfl
    · rfl
    · rfl
    refine pzU ?_
    apply pl_e
    · exact e_call0 rfl rfl (hroot_any p.h H1 (n + 1) (hI1) lH1 hq1 (o.nd, 2) (capX 9 o.th 0) _)
    · rfl
    · rfl
    · rfl
    · rintro _ _ ⟨_, _, _, rfl⟩; exact hsubR _
    rintro _ _ ⟨rfl, lH2, hq2, rfl⟩
    refine pzU ?_
    refine gzU ?_
    obtain ⟨H2, hH2⟩ : ∃ x, x = (rootH H1 (o.nd, 2) (capX 9 o.th 0)).2 := ⟨_, rfl⟩
    have hI2 : InvH H2 (n + 1 + 1) := by rw [hH2]; exact InvH.root (hI1) _ _ (capX_w _ _ _)
    rw [← hH2] at hq2
    refine c_draw [(0, true), (1, true), (2, true), (3, true), (4, true), (5, true), (6, true), (7, false)] [[], [0], [], [0, 1, 2], [], [4], [4, 5], [0, 1, 2, 3, 4, 5, 6]] ([rlC b p, owC b4 o]) (by kernel_rfl) (by kernel_rfl) zAtt (hsubR _) ?_
    refine pzU ?_
    apply pl_q
    · exact q_call rfl rfl (fun l hl => rhold_any b p l (hl _ (.head _)))
    · rfl
    · rfl
    · rfl
    refine pzU ?_
    apply pl_q
    · exact q_callC rfl rfl (fun l hl => bat_any o b4 3 l (hl _ (.tail _ (.head _))))
    · rfl
    · rfl
    · rfl
    refine pzU ?_
    apply pl_e
    · exact e_call0 rfl rfl (hroot_any p.h H2 (n + 1 + 1) (hI2) lH2 hq2 (o.nd, 3) (capX 1 o.un 0) _)
    · rfl
    · rfl
    · rfl
    · rintro _ _ ⟨_, _, _, rfl⟩; exact hsubR _
    rintro _ _ ⟨rfl, lH3, hq3, rfl⟩
    refine pzU ?_
    refine gzU ?_
    obtain ⟨H3, hH3⟩ : ∃ x, x = (rootH H2 (o.nd, 3) (capX 1 o.un 0)).2 := ⟨_, rfl⟩
    have hI3 : InvH H3 (n + 1 + 1 + 1) := by rw [hH3]; exact InvH.root (hI2) _ _ (capX_w _ _ _)
    rw [← hH3] at hq3
    refine c_draw [(0, true), (1, true), (2, true), (3, true), (4, true), (5, true), (6, true), (7, false)] [[], [0], [], [0, 1, 2], [], [4], [4, 5], [0, 1, 2, 3, 4, 5, 6]] ([rlC b p, owC b4 o]) (by kernel_rfl) (by kernel_rfl) zAtt (hsubR _) ?_
    refine pzU ?_
    apply pl_q
    · exact q_call rfl rfl (fun l hl => rhold_any b p l (hl _ (.head _)))
    · rfl
    · rfl
    · rfl
    refine pzU ?_
    apply pl_q
    · exact q_callC rfl rfl (fun l hl => bat_any o b4 4 l (hl _ (.tail _ (.head _))))
    · rfl
    · rfl
    · rfl
    refine pzU ?_
    apply pl_e
    · exact e_call0 rfl rfl (hroot_any p.h H3 (n + 1 + 1 + 1) (hI3) lH3 hq3 (o.nd, 4) (capX 5 o.rt 0) _)
    · rfl
    · rfl
    · rfl
    · rintro _ _ ⟨_, _, _, rfl⟩; exact hsubR _
    rintro _ _ ⟨rfl, lH4, hq4, rfl⟩
    refine pzU ?_
    refine gzU ?_
    obtain ⟨H4, hH4⟩ : ∃ x, x = (rootH H3 (o.nd, 4) (capX 5 o.rt 0)).2 := ⟨_, rfl⟩
    have hI4 : InvH H4 (n + 1 + 1 + 1 + 1) := by rw [hH4]; exact InvH.root (hI3) _ _ (capX_w _ _ _)
    rw [← hH4] at hq4
    refine t_q (q_call rfl rfl (fun l hl => rhold_any b p l (hl _ (hsubR _ _ (.head _))))) rfl rfl rfl ?_
    refine gzU ?_
    refine t_q (q_callC rfl rfl (fun l hl => bat_any o b4 5 l (hl _ (hsubR _ _ (.tail _ (.head _)))))) rfl rfl rfl ?_
    refine gzU ?_
    refine t_e (e_call0 rfl rfl (hroot_any p.h H4 (n + 1 + 1 + 1 + 1) (hI4) lH4 hq4 (o.nd, 5) (capX 7 0 0) _)) rfl rfl rfl ?_
    rintro _ _ ⟨rfl, lH5, hq5, rfl⟩
    obtain ⟨H5, hH5⟩ : ∃ x, x = (rootH H4 (o.nd, 5) (capX 7 0 0)).2 := ⟨_, rfl⟩
    have hI5 : InvH H5 (n + 1 + 1 + 1 + 1 + 1) := by rw [hH5]; exact InvH.root (hI4) _ _ (capX_w _ _ _)
    rw [← hH5] at hq5
    refine gzU ?_
    refine c_draw [(0, true), (1, true), (2, true), (3, true), (4, true), (5, true), (6, true), (7, false)] [[], [0], [], [0, 1, 2], [], [4], [4, 5], [0, 1, 2, 3, 4, 5, 6]] ([rlC b p, owC b4 o]) (by kernel_rfl) (by kernel_rfl) zAtt (hsubR _) ?_
    refine pzU ?_
    apply pl_q
    · exact q_call rfl rfl (fun l hl => rhold_any b p l (hl _ (.head _)))
    · rfl
    · rfl
    · rfl
    refine pzU ?_
    apply pl_q
    · exact q_callC rfl rfl (fun l hl => bat_any o b4 6 l (hl _ (.tail _ (.head _))))
    · rfl
    · rfl
    · rfl
    refine pzU ?_
    apply pl_e
    · exact e_call0 rfl rfl (hroot_any p.h H5 (n + 1 + 1 + 1 + 1 + 1) (hI5) lH5 hq5 (o.nd, 6) (capX 6 o.pl 0) _)
    · rfl
    · rfl
    · rfl
    · rintro _ _ ⟨_, _, _, rfl⟩; exact hsubR _
    rintro _ _ ⟨rfl, lH6, hq6, rfl⟩
    refine pzU ?_
    refine gzU ?_
    obtain ⟨H6, hH6⟩ : ∃ x, x = (rootH H5 (o.nd, 6) (capX 6 o.pl 0)).2 := ⟨_, rfl⟩
    have hI6 : InvH H6 (n + 1 + 1 + 1 + 1 + 1 + 1) := by rw [hH6]; exact InvH.root (hI5) _ _ (capX_w _ _ _)
    rw [← hH6] at hq6
    refine c_draw [(0, true), (1, true), (2, true), (3, true), (4, true), (5, true), (6, true), (7, false)] [[], [0], [], [0, 1, 2], [], [4], [4, 5], [0, 1, 2, 3, 4, 5, 6]] ([rlC b p, owC b4 o]) (by kernel_rfl) (by kernel_rfl) zAtt (hsubR _) ?_
    refine pzU ?_
    apply pl_q
    · exact q_call rfl rfl (fun l hl => rhold_any b p l (hl _ (.head _)))
    · rfl
    · rfl
    · rfl
    refine pzU ?_
    apply pl_q
    · exact q_callC rfl rfl (fun l hl => bat_any o b4 1 l (hl _ (.tail _ (.head _))))
    · rfl
    · rfl
    · rfl
    refine pzU ?_
    apply pl_e
    · exact e_call0 rfl rfl (hcopy_any p.h H6 (n + 1 + 1 + 1 + 1 + 1 + 1) (hI6) (by omega) lH6 hq6 (o.nd, 1) (o.th, 0) 7 _)
    · rfl
    · rfl
    · rfl
    · rintro _ _ ⟨_, _, _, rfl⟩; exact hsubR _
    rintro _ _ ⟨rfl, lH7, hq7, rfl⟩
    refine pzU ?_
    refine gzU ?_
    obtain ⟨H7, hH7⟩ : ∃ x, x = (derH H6 (o.nd, 1) (o.th, 0) (copyC (atD H6.1 (o.nd, 1)) 7)).2 := ⟨_, rfl⟩
    have hI7 : InvH H7 (n + 1 + 1 + 1 + 1 + 1 + 1 + 1) := by rw [hH7]; exact InvH.der (hI6) _ _ _ (copy_w (hI6.at _).2 _)
    rw [← hH7] at hq7
    refine c_draw [(0, true), (1, true), (2, true), (3, true), (4, true), (5, true), (6, true), (7, false)] [[], [0], [], [0, 1, 2], [], [4], [4, 5], [0, 1, 2, 3, 4, 5, 6]] ([rlC b p, owC b4 o]) (by kernel_rfl) (by kernel_rfl) zAtt (hsubR _) ?_
    refine pzU ?_
    apply pl_q
    · exact q_call rfl rfl (fun l hl => rhold_any b p l (hl _ (.head _)))
    · rfl
    · rfl
    · rfl
    refine pzU ?_
    apply pl_q
    · exact q_callC rfl rfl (fun l hl => bat_any o b4 4 l (hl _ (.tail _ (.head _))))
    · rfl
    · rfl
    · rfl
    refine pzU ?_
    apply pl_e
    · exact e_call0 rfl rfl (hcopy_any p.h H7 (n + 1 + 1 + 1 + 1 + 1 + 1 + 1) (hI7) (by omega) lH7 hq7 (o.nd, 4) (o.th, 1) 7 _)
    · rfl
    · rfl
    · rfl
    · rintro _ _ ⟨_, _, _, rfl⟩; exact hsubR _
    rintro _ _ ⟨rfl, lH8, hq8, rfl⟩
    refine pzU ?_
    refine gzU ?_
    obtain ⟨H8, hH8⟩ : ∃ x, x = (derH H7 (o.nd, 4) (o.th, 1) (copyC (atD H7.1 (o.nd, 4)) 7)).2 := ⟨_, rfl⟩
    have hI8 : InvH H8 (n + 1 + 1 + 1 + 1 + 1 + 1 + 1 + 1) := by rw [hH8]; exact InvH.der (hI7) _ _ _ (copy_w (hI7.at _).2 _)
    rw [← hH8] at hq8
    have hsubA : ∀ (N : As.ASt) (c : Chunk), c ∈ [rlC b p, owC b4 o] → c ∈ As.asA p.n N :: (lH8 ++ (owC b4 o :: rlC b p :: (s.M ++ (s.C ++ (s.A ++ (s.T ++ (s.Q ++ (s.E ++ (s.V ++ G))))))))) := fun N c hc => by
      rcases List.mem_cons.1 hc with rfl | hc
      · exact .tail _ (List.mem_append_right _ (.tail _ (.head _)))
      · rw [List.mem_singleton.1 hc]; exact .tail _ (List.mem_append_right _ (.head _))
    refine c_keep (l' := As.asA p.n R.N :: (lH8 ++ (owC b4 o :: rlC b p :: (s.M ++ (s.C ++ (s.A ++ (s.T ++ (s.Q ++ (s.E ++ (s.V ++ G)))))))))) (keep_ac []) ?_
    refine c_draw [(0, true), (1, true), (2, true), (3, true), (4, false)] [[], [0], [], [2], [0, 1, 2, 3]] ([rlC b p, owC b4 o]) (by kernel_rfl) (by kernel_rfl) zAtt (hsubA _) ?_
    refine pzU ?_
    apply pl_q
    · exact q_call rfl rfl (fun l hl => rasids_any b p l (hl _ (.head _)))
    · rfl
    · rfl
    · rfl
    refine pzU ?_
    apply pl_e
    · exact e_call0 rfl rfl (As.addPool_any p.n R.N o.pl _)
    · rfl
    · rfl
    · rfl
    · rintro _ _ ⟨_, rfl⟩; exact hsubA _
    rintro _ _ ⟨rfl, rfl⟩
    refine pzU ?_
    refine gzU ?_
    refine c_draw [(0, true), (1, true), (2, true), (3, true), (4, true), (5, true), (6, false)] [[], [0], [], [2], [], [4], [0, 1, 2, 3, 4, 5]] ([rlC b p, owC b4 o]) (by kernel_rfl) (by kernel_rfl) zAtt (hsubA _) ?_
    refine pzU ?_
    apply pl_q
    · exact q_call rfl rfl (fun l hl => rasids_any b p l (hl _ (.head _)))
    · rfl
    · rfl
    · rfl
    refine pzU ?_
    apply pl_e
    · exact e_call0 rfl rfl (As.assign_any p.n (As.addP R.N o.pl).2.2 o.pl o.rt _ (fun n hn => by rw [giv_add]; have := hR.giv n hn; omega))
    · rfl
    · rfl
    · rfl
    · rintro _ _ ⟨_, rfl⟩; exact hsubA _
    rintro _ _ ⟨rfl, rfl⟩
    refine pzU ?_
    refine gzU ?_
    refine k_ret [] rfl (l' := allL b p ⟨s.M, s.C, s.A, lH8, s.T, s.Q, s.E, s.V⟩ (layR R o true) ([owC b4 o] ++ G)) (by unfold allL; dsimp only [layR]; exact keep_ac []) (by exact zRes) ⟨rfl, ⟨s.M, s.C, s.A, lH8, s.T, s.Q, s.E, s.V⟩, [owC b4 o], ?_, rfl⟩
    have hL : layH R.H o true = H8 := by
      simp only [layH, if_true]
      rw [← hH1, ← hH2, ← hH3, ← hH4, ← hH5, ← hH6, ← hH7, ← hH8]
    unfold layR
    rw [hL]
    clear hH1 hH2 hH3 hH4 hH5 hH6 hH7 hH8
    exact ⟨hR.mem, hR.co, hR.ar, hR.an, hq8, hI8.mono (by omega), fun i hi => by have := giv_asg (s := (As.addP R.N o.pl).2.2) (k := n) (fun n hn => by rw [giv_add]; exact hR.giv n hn) o.pl o.rt i hi; simp only; omega, hR.th, hR.qu, fun j hj => Nat.le_trans (hR.ql j hj) (by omega), hR.en, hR.cu, hR.c1⟩
  | false =>
    refine c_keep (l' := s.H ++ (owC b4 o :: rlC b p :: As.asA p.n R.N :: (s.M ++ (s.C ++ (s.A ++ (s.T ++ (s.Q ++ (s.E ++ (s.V ++ G))))))))) (by dsimp only [owC, owL]; exact keep_ac []) ?_
    refine c_draw [(0, true), (1, true), (2, true), (3, true), (4, true), (5, true), (6, true), (7, false)] [[], [0], [], [0, 1, 2], [], [4], [4, 5], [0, 1, 2, 3, 4, 5, 6]] ([rlC b p, owC b4 o]) (by kernel_rfl) (by kernel_rfl) zAtt (hsubR _) ?_
    refine pzU ?_
    apply pl_q
    · exact q_call rfl rfl (fun l hl => rhold_any b p l (hl _ (.head _)))
    · rfl
    · rfl
    · rfl
    refine pzU ?_
    apply pl_q
    · exact q_callC rfl rfl (fun l hl => bat_any o b4 1 l (hl _ (.tail _ (.head _))))
    · rfl
    · rfl
    · rfl
    refine pzU ?_
    apply pl_e
    · exact e_call0 rfl rfl (hroot_any p.h R.H (n) (hR.inv) s.H hR.ho (o.nd, 1) (capX 2 o.nd 8) _)
    · rfl
    · rfl
    · rfl
    · rintro _ _ ⟨_, _, _, rfl⟩; exact hsubR _
    rintro _ _ ⟨rfl, lH1, hq1, rfl⟩
    refine pzU ?_
    refine gzU ?_
    obtain ⟨H1, hH1⟩ : ∃ x, x = (rootH R.H (o.nd, 1) (capX 2 o.nd 8)).2 := ⟨_, rfl⟩
    have hI1 : InvH H1 (n + 1) := by rw [hH1]; exact InvH.root (hR.inv) _ _ (capX_w _ _ _)
    rw [← hH1] at hq1
    refine c_draw [(0, true), (1, true), (2, true), (3, true), (4, true), (5, true), (6, true), (7, false)] [[], [0], [], [0, 1, 2], [], [4], [4, 5], [0, 1, 2, 3, 4, 5, 6]] ([rlC b p, owC b4 o]) (by kernel_rfl) (by kernel_rfl) zAtt (hsubR _) ?_
    refine pzU ?_
    apply pl_q
    · exact q_call rfl rfl (fun l hl => rhold_any b p l (hl _ (.head _)))
    · rfl
    · rfl
    · rfl
    refine pzU ?_
    apply pl_q
    · exact q_callC rfl rfl (fun l hl => bat_any o b4 2 l (hl _ (.tail _ (.head _))))
    · rfl
    · rfl
    · rfl
    refine pzU ?_
    apply pl_e
    · exact e_call0 rfl rfl (hroot_any p.h H1 (n + 1) (hI1) lH1 hq1 (o.nd, 2) (capX 9 o.th 0) _)
    · rfl
    · rfl
    · rfl
    · rintro _ _ ⟨_, _, _, rfl⟩; exact hsubR _
    rintro _ _ ⟨rfl, lH2, hq2, rfl⟩
    refine pzU ?_
    refine gzU ?_
    obtain ⟨H2, hH2⟩ : ∃ x, x = (rootH H1 (o.nd, 2) (capX 9 o.th 0)).2 := ⟨_, rfl⟩
    have hI2 : InvH H2 (n + 1 + 1) := by rw [hH2]; exact InvH.root (hI1) _ _ (capX_w _ _ _)
    rw [← hH2] at hq2
    refine c_draw [(0, true), (1, true), (2, true), (3, true), (4, true), (5, true), (6, true), (7, false)] [[], [0], [], [0, 1, 2], [], [4], [4, 5], [0, 1, 2, 3, 4, 5, 6]] ([rlC b p, owC b4 o]) (by kernel_rfl) (by kernel_rfl) zAtt (hsubR _) ?_
    refine pzU ?_
    apply pl_q
    · exact q_call rfl rfl (fun l hl => rhold_any b p l (hl _ (.head _)))
    · rfl
    · rfl
    · rfl
    refine pzU ?_
    apply pl_q
    · exact q_callC rfl rfl (fun l hl => bat_any o b4 3 l (hl _ (.tail _ (.head _))))
    · rfl
    · rfl
    · rfl
    refine pzU ?_
    apply pl_e
    · exact e_call0 rfl rfl (hroot_any p.h H2 (n + 1 + 1) (hI2) lH2 hq2 (o.nd, 3) (capX 1 o.un 0) _)
    · rfl
    · rfl
    · rfl
    · rintro _ _ ⟨_, _, _, rfl⟩; exact hsubR _
    rintro _ _ ⟨rfl, lH3, hq3, rfl⟩
    refine pzU ?_
    refine gzU ?_
    obtain ⟨H3, hH3⟩ : ∃ x, x = (rootH H2 (o.nd, 3) (capX 1 o.un 0)).2 := ⟨_, rfl⟩
    have hI3 : InvH H3 (n + 1 + 1 + 1) := by rw [hH3]; exact InvH.root (hI2) _ _ (capX_w _ _ _)
    rw [← hH3] at hq3
    refine c_draw [(0, true), (1, true), (2, true), (3, true), (4, true), (5, true), (6, true), (7, false)] [[], [0], [], [0, 1, 2], [], [4], [4, 5], [0, 1, 2, 3, 4, 5, 6]] ([rlC b p, owC b4 o]) (by kernel_rfl) (by kernel_rfl) zAtt (hsubR _) ?_
    refine pzU ?_
    apply pl_q
    · exact q_call rfl rfl (fun l hl => rhold_any b p l (hl _ (.head _)))
    · rfl
    · rfl
    · rfl
    refine pzU ?_
    apply pl_q
    · exact q_callC rfl rfl (fun l hl => bat_any o b4 4 l (hl _ (.tail _ (.head _))))
    · rfl
    · rfl
    · rfl
    refine pzU ?_
    apply pl_e
    · exact e_call0 rfl rfl (hroot_any p.h H3 (n + 1 + 1 + 1) (hI3) lH3 hq3 (o.nd, 4) (capX 5 o.rt 0) _)
    · rfl
    · rfl
    · rfl
    · rintro _ _ ⟨_, _, _, rfl⟩; exact hsubR _
    rintro _ _ ⟨rfl, lH4, hq4, rfl⟩
    refine pzU ?_
    refine gzU ?_
    obtain ⟨H4, hH4⟩ : ∃ x, x = (rootH H3 (o.nd, 4) (capX 5 o.rt 0)).2 := ⟨_, rfl⟩
    have hI4 : InvH H4 (n + 1 + 1 + 1 + 1) := by rw [hH4]; exact InvH.root (hI3) _ _ (capX_w _ _ _)
    rw [← hH4] at hq4
    refine c_draw [(0, true), (1, true), (2, true), (3, true), (4, true), (5, true), (6, true), (7, false)] [[], [0], [], [0, 1, 2], [], [4], [4, 5], [0, 1, 2, 3, 4, 5, 6]] ([rlC b p, owC b4 o]) (by kernel_rfl) (by kernel_rfl) zAtt (hsubR _) ?_
    refine pzU ?_
    apply pl_q
    · exact q_call rfl rfl (fun l hl => rhold_any b p l (hl _ (.head _)))
    · rfl
    · rfl
    · rfl
    refine pzU ?_
    apply pl_q
    · exact q_callC rfl rfl (fun l hl => bat_any o b4 6 l (hl _ (.tail _ (.head _))))
    · rfl
    · rfl
    · rfl
    refine pzU ?_
    apply pl_e
    · exact e_call0 rfl rfl (hroot_any p.h H4 (n + 1 + 1 + 1 + 1) (hI4) lH4 hq4 (o.nd, 6) (capX 6 o.pl 0) _)
    · rfl
    · rfl
    · rfl
    · rintro _ _ ⟨_, _, _, rfl⟩; exact hsubR _
    rintro _ _ ⟨rfl, lH6, hq6, rfl⟩
    refine pzU ?_
    refine gzU ?_
    obtain ⟨H6, hH6⟩ : ∃ x, x = (rootH H4 (o.nd, 6) (capX 6 o.pl 0)).2 := ⟨_, rfl⟩
    have hI6 : InvH H6 (n + 1 + 1 + 1 + 1 + 1) := by rw [hH6]; exact InvH.root (hI4) _ _ (capX_w _ _ _)
    rw [← hH6] at hq6
    refine c_draw [(0, true), (1, true), (2, true), (3, true), (4, true), (5, true), (6, true), (7, false)] [[], [0], [], [0, 1, 2], [], [4], [4, 5], [0, 1, 2, 3, 4, 5, 6]] ([rlC b p, owC b4 o]) (by kernel_rfl) (by kernel_rfl) zAtt (hsubR _) ?_
    refine pzU ?_
    apply pl_q
    · exact q_call rfl rfl (fun l hl => rhold_any b p l (hl _ (.head _)))
    · rfl
    · rfl
    · rfl
    refine pzU ?_
    apply pl_q
    · exact q_callC rfl rfl (fun l hl => bat_any o b4 1 l (hl _ (.tail _ (.head _))))
    · rfl
    · rfl
    · rfl
    refine pzU ?_
    apply pl_e
    · exact e_call0 rfl rfl (hcopy_any p.h H6 (n + 1 + 1 + 1 + 1 + 1) (hI6) (by omega) lH6 hq6 (o.nd, 1) (o.th, 0) 7 _)
    · rfl
    · rfl
    · rfl
    · rintro _ _ ⟨_, _, _, rfl⟩; exact hsubR _
    rintro _ _ ⟨rfl, lH7, hq7, rfl⟩
    refine pzU ?_
    refine gzU ?_
    obtain ⟨H7, hH7⟩ : ∃ x, x = (derH H6 (o.nd, 1) (o.th, 0) (copyC (atD H6.1 (o.nd, 1)) 7)).2 := ⟨_, rfl⟩
    have hI7 : InvH H7 (n + 1 + 1 + 1 + 1 + 1 + 1) := by rw [hH7]; exact InvH.der (hI6) _ _ _ (copy_w (hI6.at _).2 _)
    rw [← hH7] at hq7
    refine c_draw [(0, true), (1, true), (2, true), (3, true), (4, true), (5, true), (6, true), (7, false)] [[], [0], [], [0, 1, 2], [], [4], [4, 5], [0, 1, 2, 3, 4, 5, 6]] ([rlC b p, owC b4 o]) (by kernel_rfl) (by kernel_rfl) zAtt (hsubR _) ?_
    refine pzU ?_
    apply pl_q
    · exact q_call rfl rfl (fun l hl => rhold_any b p l (hl _ (.head _)))
    · rfl
    · rfl
    · rfl
    refine pzU ?_
    apply pl_q
    · exact q_callC rfl rfl (fun l hl => bat_any o b4 4 l (hl _ (.tail _ (.head _))))
    · rfl
    · rfl
    · rfl
    refine pzU ?_
    apply pl_e
    · exact e_call0 rfl rfl (hcopy_any p.h H7 (n + 1 + 1 + 1 + 1 + 1 + 1) (hI7) (by omega) lH7 hq7 (o.nd, 4) (o.th, 1) 7 _)
    · rfl
    · rfl
    · rfl
    · rintro _ _ ⟨_, _, _, rfl⟩; exact hsubR _
    rintro _ _ ⟨rfl, lH8, hq8, rfl⟩
    refine pzU ?_
    refine gzU ?_
    obtain ⟨H8, hH8⟩ : ∃ x, x = (derH H7 (o.nd, 4) (o.th, 1) (copyC (atD H7.1 (o.nd, 4)) 7)).2 := ⟨_, rfl⟩
    have hI8 : InvH H8 (n + 1 + 1 + 1 + 1 + 1 + 1 + 1) := by rw [hH8]; exact InvH.der (hI7) _ _ _ (copy_w (hI7.at _).2 _)
    rw [← hH8] at hq8
    have hsubA : ∀ (N : As.ASt) (c : Chunk), c ∈ [rlC b p, owC b4 o] → c ∈ As.asA p.n N :: (lH8 ++ (owC b4 o :: rlC b p :: (s.M ++ (s.C ++ (s.A ++ (s.T ++ (s.Q ++ (s.E ++ (s.V ++ G))))))))) := fun N c hc => by
      rcases List.mem_cons.1 hc with rfl | hc
      · exact .tail _ (List.mem_append_right _ (.tail _ (.head _)))
      · rw [List.mem_singleton.1 hc]; exact .tail _ (List.mem_append_right _ (.head _))
    refine c_keep (l' := As.asA p.n R.N :: (lH8 ++ (owC b4 o :: rlC b p :: (s.M ++ (s.C ++ (s.A ++ (s.T ++ (s.Q ++ (s.E ++ (s.V ++ G)))))))))) (keep_ac []) ?_
    refine c_draw [(0, true), (1, true), (2, true), (3, true), (4, false)] [[], [0], [], [2], [0, 1, 2, 3]] ([rlC b p, owC b4 o]) (by kernel_rfl) (by kernel_rfl) zAtt (hsubA _) ?_
    refine pzU ?_
    apply pl_q
    · exact q_call rfl rfl (fun l hl => rasids_any b p l (hl _ (.head _)))
    · rfl
    · rfl
    · rfl
    refine pzU ?_
    apply pl_e
    · exact e_call0 rfl rfl (As.addPool_any p.n R.N o.pl _)
    · rfl
    · rfl
    · rfl
    · rintro _ _ ⟨_, rfl⟩; exact hsubA _
    rintro _ _ ⟨rfl, rfl⟩
    refine pzU ?_
    refine gzU ?_
    refine c_draw [(0, true), (1, true), (2, true), (3, true), (4, true), (5, true), (6, false)] [[], [0], [], [2], [], [4], [0, 1, 2, 3, 4, 5]] ([rlC b p, owC b4 o]) (by kernel_rfl) (by kernel_rfl) zAtt (hsubA _) ?_
    refine pzU ?_
    apply pl_q
    · exact q_call rfl rfl (fun l hl => rasids_any b p l (hl _ (.head _)))
    · rfl
    · rfl
    · rfl
    refine pzU ?_
    apply pl_e
    · exact e_call0 rfl rfl (As.assign_any p.n (As.addP R.N o.pl).2.2 o.pl o.rt _ (fun n hn => by rw [giv_add]; have := hR.giv n hn; omega))
    · rfl
    · rfl
    · rfl
    · rintro _ _ ⟨_, rfl⟩; exact hsubA _
    rintro _ _ ⟨rfl, rfl⟩
    refine pzU ?_
    refine gzU ?_
    refine k_ret [] rfl (l' := allL b p ⟨s.M, s.C, s.A, lH8, s.T, s.Q, s.E, s.V⟩ (layR R o false) ([owC b4 o] ++ G)) (by unfold allL; dsimp only [layR]; exact keep_ac []) (by exact zRes) ⟨rfl, ⟨s.M, s.C, s.A, lH8, s.T, s.Q, s.E, s.V⟩, [owC b4 o], ?_, rfl⟩
    have hL : layH R.H o false = H8 := by
      simp only [layH, Bool.false_eq_true, if_false]
      rw [← hH1, ← hH2, ← hH3, ← hH4, ← hH6, ← hH7, ← hH8]
    unfold layR
    rw [hL]
    clear hH1 hH2 hH3 hH4 hH6 hH7 hH8
    exact ⟨hR.mem, hR.co, hR.ar, hR.an, hq8, hI8.mono (by omega), fun i hi => by have := giv_asg (s := (As.addP R.N o.pl).2.2) (k := n) (fun n hn => by rw [giv_add]; exact hR.giv n hn) o.pl o.rt i hi; simp only; omega, hR.th, hR.qu, fun j hj => Nat.le_trans (hR.ql j hj) (by omega), hR.en, hR.cu, hR.c1⟩
end Go.Proofs.YtcjknmpogkofpaaGreat
