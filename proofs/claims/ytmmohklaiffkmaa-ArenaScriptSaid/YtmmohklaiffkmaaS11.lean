/- Maps whose keys are integers: look up, set, delete, range. Empty literals; slices beside nil. Laws of my own, no program's. -/
import Derived.Test.YtmmohklaiffkmaaS10
set_option linter.unusedVariables false
set_option linter.unusedSimpArgs false
namespace Go.Proofs.Ytmmohklaiffkmaa
open Go.RowKit

/-- an entry: key, value, stamp -/
abbrev Ent := Int × Value × Nat
def mkE (k : IntKind) (x : Ent) : MapEntry := { key := .int k x.1, val := x.2.1, born := x.2.2 }
abbrev mapO (k : IntKind) (es : List Ent) (clock : Nat) : Obj := .map (List.toArray (es.map (mkE k))) clock
def zoV (P : Program) (t : Nat) : Option Value := match P.info? t with
  | some i => i.zero
  | none => none
class ZO (P : Program) (t : Nat) (z : outParam Value) : Prop where out : zoV P t = some z
def findE (a : Int) : List Ent → Nat → Option (Nat × Value)
  | [], _ => none
  | e :: es, i => if a = e.1 then some (i, e.2.1) else findE a es (i + 1)
def getE (a : Int) (es : List Ent) : Option Value := (findE a es 0).map Prod.snd
def setE (a : Int) (v : Value) (clock : Nat) (es : List Ent) : List Ent × Nat := match findE a es 0 with
  | some (i, _) => (es.modify i fun x => (x.1, v, x.2.2), clock)
  | none => (es ++ [(a, v, clock)], clock + 1)
def delE (a : Int) (es : List Ent) : List Ent := match findE a es 0 with
  | some (i, _) => es.eraseIdx i
  | none => es
theorem findE_add (a : Int) : ∀ (es : List Ent) (i : Nat), findE a es i = (findE a es 0).map fun p => (p.1 + i, p.2)
  | [], i => rfl
  | e :: es, i => by
    unfold findE
    split
    · simp
    · rw [findE_add a es (i + 1), findE_add a es (0 + 1)]
      cases findE a es 0 with
      | none => rfl
      | some p => simp; omega
theorem findE_none {a : Int} : ∀ {es : List Ent} {i : Nat}, findE a es i = none ↔ ∀ e ∈ es, e.1 ≠ a
  | [], i => by simp [findE]
  | e :: es, i => by
    unfold findE
    split
    · rename_i h; subst h; simp
    · rename_i h; rw [findE_none]; simp only [List.mem_cons, forall_eq_or_imp]; exact ⟨fun h2 => ⟨fun e' => h e'.symm, h2⟩, fun h2 => h2.2⟩
theorem findE_some {a : Int} : ∀ {es : List Ent} {i k : Nat} {v : Value}, findE a es i = some (k, v) → i ≤ k ∧ ∃ e, es[k - i]? = some e ∧ e.1 = a ∧ e.2.1 = v ∧ ∀ j, j < k - i → ∀ e', es[j]? = some e' → e'.1 ≠ a
  | [], i, k, v, h => by simp [findE] at h
  | e :: es, i, k, v, h => by
    unfold findE at h
    split at h
    · rename_i ha
      cases h
      exact ⟨Nat.le_refl _, e, by simp, ha.symm, rfl, fun j hj => by omega⟩
    · rename_i ha
      obtain ⟨h1, e', h2, h3, h4, h5⟩ := findE_some h
      refine ⟨by omega, e', ?_, h3, h4, fun j hj e2 he2 => ?_⟩
      · rw [show k - i = (k - (i + 1)) + 1 by omega]; simpa using h2
      · cases j with
        | zero => simp only [List.getElem?_cons_zero, Option.some.injEq] at he2; subst he2; exact fun e' => ha e'.symm
        | succ j => exact h5 j (by omega) e2 (by simpa using he2)
theorem findNow_mk (k : IntKind) (a : Int) : ∀ (es : List Ent) (i : Nat), Instr.findNow (.int k) (.int k a) (es.map (mkE k)) i = some (findE a es i)
  | [], i => rfl
  | e :: es, i => by
    rw [List.map_cons]
    unfold Instr.findNow
    simp only [mkE, Instr.sameNow, if_true]
    unfold findE
    by_cases h : a = e.1
    · rw [show (a == e.1) = true by simpa using h, if_pos h]
    · rw [show (a == e.1) = false by simpa using h, if_neg h]
      exact findNow_mk k a es (i + 1)
section
variable {P : Program} {ro : Option Nat} {N : Nat} {fr : Fr} {R l : List Chunk} {d : Option Nat} {ty : TypeId} {pos : String} {aft : Array Edge} {g : Option (Nat × Bool)} {x y z : Operand} {v u w : Value} {b m : Nat} {t t2 T kt et : TypeId} {k : IntKind} {a : Int} {es : List Ent} {clock : Nat}
theorem mtV_spec {T k e : Nat} (h : mtV P T = some (k, e)) : P.underlying T = some (.map k e) := by
  unfold mtV at h; split at h <;> simp_all
theorem itV_spec {t : Nat} {k : IntKind} (h : itV P t = some k) : P.underlying t = some (.int k) := by
  unfold itV at h; split at h <;> simp_all
theorem sl_pure' {α : Type} {Q : α → List Chunk → Prop} (a : α) : sl P (Sem.pure a) l Q ↔ Q a l := Iff.rfl
theorem sl_choose {α : Type} {Q : α → List Chunk → Prop} {f : Nat → Sem α} {q : Question} : sl P (choose q >>= f) l Q ↔ ∀ t, sl P (f (if q.forced = true then 0 else q.cut t)) l Q := Iff.rfl
theorem sl_checkKey {Q : Unit → List Chunk → Prop} {empty : Bool} {n : Nat} (h : itV P kt = some k) : sl P (Instr.checkKey empty (n + 1) kt (.int k a)) l Q ↔ Q () l := by
  unfold Instr.checkKey
  rw [sl_under (itV_spec h)]
  exact Iff.rfl
theorem sl_findKey {Q : Option (Nat × Value) → List Chunk → Prop} (h : itV P kt = some k) : sl P (Instr.findKey kt (.int k a) (es.map (mkE k))) l Q ↔ Q (findE a es 0) l := by
  unfold Instr.findKey
  rw [sl_under (itV_spec h), findNow_mk]
  exact Iff.rfl
theorem sl_zero {Q : Value → List Chunk → Prop} {zv : Value} (h : zoV P et = some zv) : sl P (zeroValue et) l Q ↔ Q zv l := by
  unfold zoV at h
  split at h
  · rename_i i hi
    unfold zeroValue
    rw [sl_info hi, h]
    exact Iff.rfl
  · cases h
theorem q_lookup {zv : Value} (hx : ev fr x = some (.map (some m))) (hy : ev fr y = some (.int k a)) [c : MT P T kt et] [ci : IT P kt k] [cz : ZO P et zv] (hm : (m, mapO k es clock) ∈ R) : OpQ P ro N fr R ⟨d, .lookup T x y false, ty, pos, aft, g⟩ ((getE a es).getD zv) := opQ_of_sl rfl fun ρ l hρ hR => by
  simp only [execOp, hρ x _ hx, hρ y _ hy, sl_bind]
  unfold Instr.lookup
  rw [sl_under (mtV_spec c.out)]
  simp only [sl_bind]
  refine ⟨_, hR _ hm, rfl, ?_⟩
  simp only [sl_pure, sl_pure', sl_bind]
  rw [sl_checkKey ci.out, sl_findKey ci.out]
  unfold getE
  cases h : findE a es 0 with
  | none => simp only [sl_bind]; rw [sl_zero cz.out]; exact ⟨rfl, rfl⟩
  | some p => exact ⟨rfl, rfl⟩
theorem q_lookup2 {zv : Value} (hx : ev fr x = some (.map (some m))) (hy : ev fr y = some (.int k a)) [c : MT P T kt et] [ci : IT P kt k] [cz : ZO P et zv] (hm : (m, mapO k es clock) ∈ R) : OpQ P ro N fr R ⟨d, .lookup T x y true, ty, pos, aft, g⟩ (.tuple #[(getE a es).getD zv, .bool (getE a es).isSome]) := opQ_of_sl rfl fun ρ l hρ hR => by
  simp only [execOp, hρ x _ hx, hρ y _ hy, sl_bind]
  unfold Instr.lookup
  rw [sl_under (mtV_spec c.out)]
  simp only [sl_bind]
  refine ⟨_, hR _ hm, rfl, ?_⟩
  simp only [sl_pure, sl_pure', sl_bind]
  rw [sl_checkKey ci.out, sl_findKey ci.out]
  unfold getE
  cases h : findE a es 0 with
  | none => simp only [sl_bind]; rw [sl_zero cz.out]; exact ⟨rfl, rfl⟩
  | some p => exact ⟨rfl, rfl⟩
theorem e_makeMap : OpE P ro N fr l ⟨d, .makeMap T none, ty, pos, aft, g⟩ (fun v' l' => ∃ b, (∀ c, c ∈ l → c.1 ≠ b) ∧ v' = .map (some b) ∧ l' = (b, .map #[] 0) :: l) := opE_of_sl rfl fun ρ hρ => by
  simp only [execOp, sl_bind]
  unfold Instr.makeMap
  simp only [Option.map_none, sl_bind, sl_pure]
  intro b hb
  exact ⟨b, hb, rfl, rfl⟩
theorem sl_keyStays {Q : Value → List Chunk → Prop} {a : Int} : sl P (Instr.keyThatStays (.int k a) (.int k a)) l Q ↔ Q (.int k a) l := by
  unfold Instr.keyThatStays
  rw [if_pos (by simp [Instr.sameBits])]
  exact Iff.rfl
theorem modify_key (es : List Ent) (i : Nat) (v : Value) (e : Ent) (he : es[i]? = some e) : (List.toArray (es.map (mkE k))).modify i (fun x => { key := .int k e.1, val := v, born := x.born }) = List.toArray ((es.modify i fun x => (x.1, v, x.2.2)).map (mkE k)) := by
  apply Array.toList_inj.1
  rw [Array.toList_modify]
  simp only
  apply List.ext_getElem?
  intro j
  rw [List.getElem?_modify, List.getElem?_map, List.getElem?_map, List.getElem?_modify]
  by_cases h : i = j
  · subst h
    rw [he]; simp [mkE]
  · cases es[j]? <;> simp [h]
theorem e_mapUpdate {l' : List Chunk} (hx : ev fr x = some (.map (some m))) (hy : ev fr y = some (.int k a)) (hz : ev fr z = some v) [c : MT P T kt et] [ci : IT P kt k] (hu : Upd l m (mapO k es clock) (mapO k (setE a v clock es).1 (setE a v clock es).2) l') :
    OpE P ro N fr l ⟨d, .mapUpdate T x y z, ty, pos, aft, g⟩ (fun v' l2 => v' = undef ∧ l2 = l') := opE_of_sl rfl fun ρ hρ => by
  simp only [execOp, hρ x _ hx, hρ y _ hy, hρ z _ hz]
  rw [sl_bind]
  unfold Instr.mapUpdate
  rw [sl_under (mtV_spec c.out)]
  simp only [sl_bind]
  refine ⟨_, hu.mem, rfl, ?_⟩
  simp only [sl_pure, sl_pure', sl_bind]
  rw [sl_checkKey ci.out, sl_findKey ci.out]
  unfold setE at hu
  cases h : findE a es 0 with
  | none =>
    rw [h] at hu
    simp only at hu ⊢
    refine ⟨mapO k es clock, l', ?_, rfl, ⟨rfl, rfl⟩⟩
    have e : (List.toArray (es.map (mkE k))).push { key := .int k a, val := v, born := clock } = List.toArray ((es ++ [(a, v, clock)]).map (mkE k)) := by simp [mkE]
    rw [e]
    exact hu
  | some p =>
    obtain ⟨i, u⟩ := p
    rw [h] at hu
    simp only at hu ⊢
    obtain ⟨_, e, he, h1, _, _⟩ := findE_some h
    rw [Nat.sub_zero] at he
    subst h1
    have hk : (((List.toArray (es.map (mkE k)))[i]?).map (·.key)).getD (.int k e.1) = .int k e.1 := by simp [he, mkE]
    simp only [sl_bind]
    rw [hk, sl_keyStays]
    refine ⟨mapO k es clock, l', ?_, rfl, ⟨rfl, rfl⟩⟩
    rw [modify_key es i v e he]
    exact hu
theorem e_delete {l' : List Chunk} {T2 : TypeId} (hx : ev fr x = some (.map (some m))) (hy : ev fr y = some (.int k a)) [c : MT P T kt et] [ci : IT P kt k] (hu : Upd l m (mapO k es clock) (mapO k (delE a es) clock) l') :
    OpE P ro N fr l ⟨d, .call { callee := .builtin .delete, args := #[x, y], argTypes := #[T, T2] }, ty, pos, aft, g⟩ (fun v' l2 => v' = .tuple #[] ∧ l2 = l') := opE_of_sl rfl fun ρ hρ => by
  simp only [execOp, resolve, sl_bind, sl_pure, invoke, builtin, List.map_toArray, List.map_cons, List.map_nil, hρ x _ hx, hρ y _ hy]
  unfold Builtin.delete_
  simp only [List.getElem?_toArray, List.getElem?_cons_zero, List.getElem?_cons_succ, sl_bind]
  rw [sl_under' (mtV_spec c.out)]
  simp only [sl_bind]
  refine ⟨_, hu.mem, rfl, ?_⟩
  simp only [sl_pure, sl_pure', sl_bind]
  rw [sl_checkKey ci.out, sl_findKey ci.out]
  unfold delE at hu
  cases h : findE a es 0 with
  | none =>
    rw [h] at hu
    exact ⟨mapO k es clock, l', hu, rfl, ⟨rfl, rfl⟩⟩
  | some p =>
    obtain ⟨i, u⟩ := p
    rw [h] at hu
    refine ⟨mapO k es clock, l', ?_, rfl, ⟨rfl, rfl⟩⟩
    have e : (List.toArray (es.map (mkE k))).eraseIdxIfInBounds i = List.toArray ((es.eraseIdx i).map (mkE k)) := by
      apply Array.toList_inj.1
      simp only [List.eraseIdxIfInBounds_toArray]
      rw [List.eraseIdx_eq_take_drop_succ, List.eraseIdx_eq_take_drop_succ, List.map_append, List.map_take, List.map_drop]
    rw [e]
    exact hu
theorem q_len_map {T : TypeId} (hx : ev fr x = some (.map (some m))) [c : MT P T kt et] (hm : (m, mapO k es clock) ∈ R) : OpQ P ro N fr R ⟨d, .call { callee := .builtin .len, args := #[x], argTypes := #[T] }, ty, pos, aft, g⟩ (.int .i64 es.length) := opQ_of_sl rfl fun ρ l hρ hR => by
  simp only [execOp, resolve, sl_bind, sl_pure, invoke, builtin, List.map_toArray, List.map_cons, List.map_nil, hρ x _ hx]
  unfold Builtin.len_
  simp only [List.getElem?_toArray, List.getElem?_cons_zero, sl_bind]
  rw [sl_under' (mtV_spec c.out)]
  simp only [sl_bind]
  refine ⟨_, hR _ hm, rfl, ?_⟩
  simp [goInt, sl_pure, sl_pure']
theorem e_range (hx : ev fr x = some (.map (some m))) [c : MT P T kt et] (hm : (m, mapO k es clock) ∈ l) : OpE P ro N fr l ⟨d, .range T x, ty, pos, aft, g⟩ (fun v' l' => ∃ b, (∀ c, c ∈ l → c.1 ≠ b) ∧ v' = .pointer (some ⟨b, 0, none⟩) ∧ l' = (b, .mapIter (some m) clock #[] clock) :: l) := opE_of_sl rfl fun ρ hρ => by
  simp only [execOp, hρ x _ hx, sl_bind]
  unfold Instr.range
  rw [sl_bind, sl_under' (mtV_spec c.out)]
  simp only [sl_bind]
  refine ⟨_, hm, rfl, ?_⟩
  simp only [sl_pure, sl_pure', sl_bind]
  intro b hb
  exact ⟨b, hb, rfl, rfl⟩
/-- a step through a map that holds nothing new -/
theorem e_next {F : List Chunk} {since last : Nat} {seen : Array Nat} (hx : ev fr x = some (.pointer (some ⟨b, 0, none⟩))) (hm : (m, mapO k es clock) ∈ F) (hold : ∀ e ∈ es, e.2.2 < since) (hsl : since ≤ last) :
    OpE P ro N fr ((b, .mapIter (some m) since seen last) :: F) ⟨d, .next x false, ty, pos, aft, g⟩ (fun v' l' => (v' = .tuple #[.bool false] ∧ l' = (b, .mapIter (some m) since seen last) :: F ∧ ∀ e ∈ es, e.2.2 ∈ seen.toList) ∨
      ∃ e ∈ es, e.2.2 ∉ seen.toList ∧ v' = .tuple #[.bool true, .int k e.1, e.2.1] ∧ l' = (b, .mapIter (some m) since (seen.push e.2.2) clock) :: F) := opE_of_sl rfl fun ρ hρ => by
  simp only [execOp, hρ x _ hx, sl_bind]
  unfold Instr.next
  simp only [sl_bind]
  refine ⟨_, List.mem_cons_self, rfl, ?_⟩
  simp only [sl_pure, sl_pure', sl_bind]
  refine ⟨_, List.mem_cons_of_mem _ hm, rfl, ?_⟩
  simp only [sl_pure, sl_pure', sl_bind]
  have hmem : ∀ y : MapEntry, y ∈ es.map (mkE k) → y.born < since := fun y hy => by
    rw [List.mem_map] at hy
    obtain ⟨e, he, rfl⟩ := hy
    exact hold e he
  have hany : (!seen.isEmpty && !(List.toArray (es.map (mkE k))).isEmpty && (List.toArray (es.map (mkE k))).all (fun e => decide (e.born ≥ last))) = false := by
    cases hes : es with
    | nil => simp
    | cons e0 r =>
      have := hold e0 (by rw [hes]; exact List.mem_cons_self)
      have hlt : ¬ last ≤ e0.2.2 := by omega
      simp [mkE, hlt]
  rw [hany]
  simp only [Bool.false_eq_true, if_false]
  obtain ⟨L, hL⟩ : ∃ L : List Ent, L = es.filter fun e => !seen.contains e.2.2 := ⟨_, rfl⟩
  have eL : (List.toArray (es.map (mkE k))).filter (fun e => !seen.contains e.born) = List.toArray (L.map (mkE k)) := by
    apply Array.toList_inj.1
    rw [Array.toList_filter]
    simp only [hL, List.filter_map]
    congr 1
  have hLm : ∀ y : MapEntry, y ∈ L.map (mkE k) → y.born < since := fun y hy => by
    rw [List.mem_map] at hy
    obtain ⟨e, he, rfl⟩ := hy
    rw [hL] at he
    exact hold e (List.mem_filter.1 he).1
  rw [eL]
  have e1 : (List.toArray (L.map (mkE k))).filter (fun x => decide (x.born < since)) = List.toArray (L.map (mkE k)) := Array.filter_eq_self.2 fun y hy => by simpa using hLm y (by simpa using hy)
  have e2 : (List.toArray (L.map (mkE k))).filter (fun x => decide (x.born ≥ since)) = #[] := by
    rw [Array.filter_eq_empty_iff]
    intro y hy
    have := hLm y (by simpa using hy)
    simp; omega
  simp only [e1, e2, Array.append_empty]
  rw [sl_choose]
  intro tp
  cases hLL : L with
  | nil =>
    have hnil : es.filter (fun e => !seen.contains e.2.2) = [] := by rw [← hL, hLL]
    have hq : (Question.mapNext 1).forced = true := by simp [Question.forced]
    simp [hq]
    refine .inl ⟨rfl, rfl, fun e1 e2 e3 he => ?_⟩
    have := List.filter_eq_nil_iff.1 hnil (e1, e2, e3) he
    simpa using this
  | cons e0 r =>
    have hne : (List.toArray ((e0 :: r).map (mkE k))).isEmpty = false := by simp
    simp only [hne, Bool.false_eq_true, if_false, Array.empty_append, Array.size_map]
    obtain ⟨j, hj, hjlt⟩ : ∃ j, (if (Question.mapNext (List.toArray ((e0 :: r).map (mkE k))).size).forced = true then 0 else (Question.mapNext (List.toArray ((e0 :: r).map (mkE k))).size).cut tp) = j ∧ j < (e0 :: r).length := by
      refine ⟨_, rfl, ?_⟩
      split
      · simp
      · simp only [Question.cut, List.size_toArray, List.length_map]
        exact Nat.mod_lt _ (by simp)
    rw [hj]
    have hget : ((List.toArray ((e0 :: r).map (mkE k))).map some)[j]? = some (some (mkE k (e0 :: r)[j])) := by
      rw [Array.getElem?_map, List.getElem?_toArray, List.getElem?_map, List.getElem?_eq_getElem hjlt]; rfl
    rw [hget]
    have hin : (e0 :: r)[j] ∈ L := by rw [hLL]; exact List.getElem_mem hjlt
    rw [hL] at hin
    obtain ⟨hi1, hi2⟩ := List.mem_filter.1 hin
    refine ⟨.mapIter (some m) since seen last, _, .here, rfl, .inr ⟨_, hi1, by simpa using hi2, rfl, rfl⟩⟩
theorem find_born : ∀ {es : List Ent} {e : Ent}, e ∈ es → (es.map (·.2.2)).Nodup → (es.map (mkE k)).find? (fun x => x.born == e.2.2) = some (mkE k e)
  | [], e, h, _ => by cases h
  | e0 :: es, e, h, hn => by
    rw [List.map_cons, List.nodup_cons] at hn
    rw [List.map_cons, List.find?_cons]
    rcases List.mem_cons.1 h with rfl | h
    · simp [mkE]
    · have hne : ((mkE k e0).born == e.2.2) = false := by
        have : e0.2.2 ≠ e.2.2 := fun h2 => hn.1 (by rw [h2]; exact List.mem_map.2 ⟨e, h, rfl⟩)
        simpa [mkE] using this
      rw [hne]
      exact find_born h hn.2
theorem q_entry {since : Nat} {seen : Array Nat} {e : Ent} (hx : ev fr x = some (.pointer (some ⟨b, 0, none⟩))) (hi : (b, .mapIter (some m) since (seen.push e.2.2) clock) ∈ R) (hm : (m, mapO k es clock) ∈ R) (he : e ∈ es) (hn : (es.map (·.2.2)).Nodup) :
    OpQ P ro N fr R ⟨d, .entry x, ty, pos, aft, g⟩ (.tuple #[.int k e.1, e.2.1]) := opQ_of_sl rfl fun ρ l hρ hR => by
  simp only [execOp, hρ x _ hx, sl_bind]
  unfold Instr.entry
  simp only [sl_bind]
  refine ⟨_, hR _ hi, rfl, ?_⟩
  simp only [sl_pure, sl_pure', Array.back?_push, sl_bind]
  refine ⟨_, hR _ hm, rfl, ?_⟩
  have hf : (List.toArray (es.map (mkE k))).find? (·.born == e.2.2) = some (mkE k e) := by rw [← Array.find?_toList]; exact find_born he hn
  simp only [sl_pure, sl_pure', bne_self_eq_false, Bool.false_eq_true, if_false, hf]
  exact ⟨rfl, trivial⟩
/-! slices beside nil, empty literals, nothing appended -/
theorem q_eqnilsl {p : Option Addr} {n cap e kk yb : Nat} (hx : ev fr x = some (.slice p n cap)) (hy : ev fr y = some (.slice none 0 0)) [c : ST P t e kk yb] : OpQ P ro N fr R ⟨d, .binOp .eql t x y t2, ty, pos, aft, g⟩ (.bool p.isNone) := opQ_of_sl rfl fun ρ l hρ _ => by
  obtain ⟨inf, u1, _⟩ := stV_spec c.out
  simp only [execOp, hρ x _ hx, hρ y _ hy, sl_bind, eqGuard_sl, sl_pure, binOp]
  unfold Op.equal Op.maxDepth Op.equalIn
  rw [sl_under u1]
  cases p <;> exact ⟨rfl, rfl⟩
theorem q_nenilsl {p : Option Addr} {n cap e kk yb : Nat} (hx : ev fr x = some (.slice p n cap)) (hy : ev fr y = some (.slice none 0 0)) [c : ST P t e kk yb] : OpQ P ro N fr R ⟨d, .binOp .neq t x y t2, ty, pos, aft, g⟩ (.bool p.isSome) := opQ_of_sl rfl fun ρ l hρ _ => by
  obtain ⟨inf, u1, _⟩ := stV_spec c.out
  simp only [execOp, hρ x _ hx, hρ y _ hy, sl_bind, eqGuard_sl, sl_pure, binOp]
  unfold Op.equal Op.maxDepth Op.equalIn
  rw [sl_under u1]
  cases p <;> exact ⟨rfl, rfl⟩
theorem e_lit0 {T e kk yb : Nat} [c : ST P T e kk yb] : OpE P ro N fr l ⟨d, .buildSlice T 0 #[], ty, pos, aft, g⟩ (fun v' l' => ∃ b, (∀ c, c ∈ l → c.1 ≠ b) ∧ v' = .slice (some ⟨b, 0, none⟩) 0 0 ∧ l' = (b, .cells #[] e (0, 0)) :: l) := opE_of_sl rfl fun ρ hρ => by
  obtain ⟨inf, u1, u2, _⟩ := stV_spec c.out
  simp only [execOp, sl_bind]
  unfold Instr.buildSlice
  rw [sl_under u1]
  simp only
  rw [sl_sizeOf u2]
  simp only [Nat.zero_mul, if_true, sl_bind]
  rw [if_neg (by omega)]
  have hf : Instr.fill (fun i => some (i * inf.size, inf.size)) (Array.map (fun x => (#[] : Array Value)[x % (#[] : Array Value).size]!) (Array.range 0)) ((#[] : Array (Nat × Operand)).map fun x => (x.1, ρ x.2)).toList = some #[] := by simp [Instr.fill]
  simp only [sl_pure, sl_bind, newRow]
  rw [hf]
  simp only [sl_pure, sl_bind]
  intro b hb
  exact ⟨b, hb, rfl, rfl⟩
theorem OwnSl.empty {e k : Nat} {b : Nat} : OwnSl e k (.slice (some ⟨b, 0, none⟩) 0 0) 0 [] [(b, .cells #[] e (0, 0))] :=
  ⟨by simp, .inr ⟨b, 0, [], rfl, rfl, by omega, by unfold maxLen; omega, by simp⟩⟩
theorem q_appendNil {s : Operand} {p : Option Addr} {T e kk yb n cap : Nat} (hs : ev fr s = some (.slice p n cap)) (hx : ev fr x = some (.slice none 0 0)) [c : ST P T e kk yb] (hn : n ≤ cap) :
    OpQ P ro N fr R ⟨d, .call { callee := .builtin .append, args := #[s, x], argTypes := #[T, T] }, ty, pos, aft, g⟩ (.slice p n cap) := opQ_of_sl rfl fun ρ l hρ _ => by
  obtain ⟨inf, u1, u2, _⟩ := stV_spec c.out
  simp only [execOp, resolve, sl_bind, sl_pure, invoke, builtin, List.map_toArray, List.map_cons, List.map_nil, hρ s _ hs, hρ x _ hx]
  unfold Builtin.append_
  simp only [List.getElem?_toArray, List.getElem?_cons_zero, List.getElem?_cons_succ, sl_bind]
  rw [sl_under' u1]
  simp only
  rw [sl_sizeOf u2]
  simp only [sl_bind]
  rw [sl_under' u1]
  simp only [sl_pure, Bool.false_eq_true, if_false, Builtin.lenOf, Bool.not_false, if_true, Nat.add_zero, if_pos hn, sl_bind, Builtin.firstCells]
  cases p with
  | none => exact ⟨rfl, rfl⟩
  | some a => exact ⟨rfl, rfl⟩
end
end Go.Proofs.Ytmmohklaiffkmaa
