/- Maps whose keys are flat structs: the operations. Laws of my own, no program's. Strings. Laws of my own, no program's. The steps' laws with their usual proofs as default arguments. Laws of my own, no program's. The long tactics as default arguments of short laws: what is left of a goal is handed on. Laws of my own, no program's. DERIVED: THE SHELF's CONTRACTS AT THIS DUMP, IN PLAIN WORDS (tools/lay-plain.mjs out of 'YtffmibmefmbdjaaDoorSH.lean', which tools/lay-shelf.mjs wrote): THE SAME DECLARATIONS UNDER THE SAME NAMES: 'import', 'namespace', 'open', 'def', 'theorem' AND NOTHING ELSE: no command of the shelf's: FOR A HAND-IN. Each laying: the table of numbers ('.._ren') and one theorem, a field a fact of the dump's own or the kernel's comparison; each contract: ONE APPLICATION. Laws that the statement's proof leans on. -/
import Derived.Test.YtffmibmefmbdjaaDoorGr3
import Derived.Lib.Strings
import Derived.Test.YtffmibmefmbdjaaDoorProg
import Derived.KernelRfl
import Derived.Test.YtffmibmefmbdjaaDoorGr2
import Derived.Shelf.Strings.Builder1
import Derived.Shelf.Strconv.Itoa0
import Derived.Shelf.Strconv.Itoa1
import Derived.Shelf.LaysM
import Derived.Shelf.Strconv.Itoa2
import Derived.Ground.MpProg
import Derived.Shelf.Pu.ParseUintPublic10
import Derived.Shelf.Pu.ErrVarParseUint
import Derived.Shelf.Strings.Search1
import Derived.Shelf.Strings.Search2
import Derived.Shelf.Strings.Cut
import Derived.Shelf.Strings.Shaped
/- Maps whose keys are flat structs: the operations. Laws of my own, no program's. -/
set_option linter.unusedVariables false
set_option linter.unusedSimpArgs false
set_option linter.unusedSectionVars false
namespace Go.Proofs.YtffmibmefmbdjaaDoor
open Go.RowKit

section
variable {P : Program} {ro : Option Nat} {N : Nat} {fr : Fr} {R l : List Chunk} {d : Option Nat} {ty : TypeId} {pos : String} {aft : Array Edge} {g : Option (Nat × Bool)} {x y z : Operand} {v u w : Value} {b m n : Nat} {t t2 T kt et : TypeId}
theorem sl_forU {β : Type} (body : β → PUnit → Sem (ForInStep PUnit)) {Q : PUnit → List Chunk → Prop} {l : List Chunk} : ∀ (xs : List β), (∀ x ∈ xs, ∀ (Q : ForInStep PUnit → List Chunk → Prop) l, sl P (body x ()) l Q ↔ Q (.yield ()) l) → (sl P (forIn xs PUnit.unit body) l Q ↔ Q () l)
  | [], _ => by simp only [List.forIn_nil, sl_pure]
  | x :: xs, h => by
    rw [List.forIn_cons, sl_bind, h x List.mem_cons_self]
    exact sl_forU body xs fun y hy => h y (List.mem_cons_of_mem _ hy)
theorem sl_checkIn {empty : Bool} : ∀ (n d : Nat) (t : TypeId) (ks : List (Option IntKind)), eqK P n t = some ks → n ≤ d → ∀ (xs : List Value), AllK ks xs → ∀ (Q : Unit → List Chunk → Prop) (l : List Chunk), (sl P (Instr.checkKey empty d t (valOf P t xs)) l Q ↔ Q () l) := by
  intro n
  induction n with
  | zero => intro d t ks h; cases h
  | succ n ih =>
    intro d t ks h hd xs hx Q l
    obtain ⟨d, rfl⟩ : ∃ e, d = e + 1 := ⟨d - 1, by omega⟩
    unfold eqK at h
    split at h
    · rename_i k hu
      cases h
      obtain ⟨_, _, rfl, ⟨a, rfl⟩, rfl⟩ := hx
      simp only [valOf, aggT, hu, Bool.false_eq_true, if_false, List.headD_cons]
      unfold Instr.checkKey
      rw [sl_under hu]
      exact Iff.rfl
    · rename_i hu
      cases h
      obtain ⟨_, _, rfl, ⟨a, rfl⟩, rfl⟩ := hx
      simp only [valOf, aggT, hu, Bool.false_eq_true, if_false, List.headD_cons]
      unfold Instr.checkKey
      rw [sl_under hu]
      exact Iff.rfl
    · rename_i fs hu
      by_cases hst : P.stoodInHeld t = true
      · rw [if_pos hst] at h; cases h
      rw [if_neg hst] at h
      obtain ⟨rest, hr, hrest⟩ := eqK_fields n xs xs fs.toList [] ks h
      obtain ⟨g1, g2⟩ := hrest hx hx
      have hag : aggT P t = true := by unfold aggT; rw [hu]
      simp only [valOf, hag, if_true]
      unfold Instr.checkKey
      rw [sl_under hu]
      simp only
      rw [← Array.forIn_toList]
      rw [sl_bind]
      refine (sl_forU _ fs.toList fun f hf Q l => ?_).trans Iff.rfl
      obtain ⟨kf, ok⟩ := g1 f hf
      rw [if_pos ok.named, sl_piece ok.kinds ok.size xs f.offset ok.x, sl_bind, ih d f.type kf ok.kinds (by omega) _ ok.x]
      exact Iff.rfl
    · rename_i len e hu
      obtain ⟨kf, hk, hk2⟩ := Option.bind_eq_some_iff.1 h
      by_cases hs : (P.info? e).map (·.size) = some kf.length
      · rw [if_pos hs] at hk2
        cases hk2
        obtain ⟨g1, g2⟩ := eqK_rows kf len xs xs hx hx
        have hag : aggT P t = true := by unfold aggT; rw [hu]
        have hi : ∃ inf, P.info? e = some inf ∧ inf.size = kf.length := by
          cases hh : P.info? e with
          | none => rw [hh] at hs; cases hs
          | some inf => rw [hh] at hs; exact ⟨inf, rfl, by simpa using hs⟩
        obtain ⟨inf, hi1, hi2⟩ := hi
        simp only [valOf, hag, if_true]
        unfold Instr.checkKey
        rw [sl_under hu]
        simp only
        rw [Std.Legacy.Range.forIn_eq_forIn_range']
        have hsz : Std.Legacy.Range.size [:len] = len := by simp [Std.Legacy.Range.size]
        rw [hsz]
        rw [sl_bind]
        refine (sl_forU _ _ fun i hf Q l => ?_).trans Iff.rfl
        have hf : i ∈ List.range' 0 len := hf
        have hil : i < len := by have := List.mem_range'_1.1 hf; omega
        obtain ⟨o1, _⟩ := g1 i hil
        rw [sl_sizeOf hi1, hi2, sl_piece hk hs xs _ o1, sl_bind, ih d e kf hk (by omega) _ o1]
        exact Iff.rfl
      · rw [if_neg hs] at hk2; cases hk2
    · cases h
/-- keys told by their cells -/
structure EncOk {κ : Type} (enc : κ → List Value) (ks : List (Option IntKind)) : Prop where
  kinds : ∀ a, AllK ks (enc a)
  inj : ∀ a b, enc a = enc b → a = b
variable {κ : Type} [DecidableEq κ] {enc : κ → List Value} {ks : List (Option IntKind)} {a : κ} {es : List (EntS κ)} {clock : Nat}
theorem sl_checkKeyS {Q : Unit → List Chunk → Prop} {empty : Bool} (h : eqV P kt = some ks) (he : EncOk enc ks) : sl P (Instr.checkKey empty 10000 kt (.agg (List.toArray (enc a)))) l Q ↔ Q () l := by
  obtain ⟨h1, _, h3⟩ := eqV_spec h
  have := sl_checkIn (empty := empty) 20 10000 kt ks h3 (by decide) (enc a) (he.kinds a) Q l
  unfold valOf at this
  rw [h1] at this
  exact this
theorem sl_equalS {Q : Bool → List Chunk → Prop} (h : eqV P kt = some ks) (he : EncOk enc ks) (a b : κ) : sl P (Op.equal kt (.agg (List.toArray (enc a))) (.agg (List.toArray (enc b)))) l Q ↔ Q (decide (a = b)) l := by
  obtain ⟨h1, _, h3⟩ := eqV_spec h
  have := sl_eqIn 20 Op.maxDepth kt ks h3 (by decide) (enc a) (enc b) (he.kinds a) (he.kinds b) Q l
  unfold valOf at this
  rw [h1] at this
  have e : eqCells (enc a) (enc b) = decide (a = b) := by
    by_cases hab : a = b
    · rw [decide_eq_true hab]; exact (eqCells_iff (he.kinds a) (he.kinds b)).2 (by rw [hab])
    · rw [decide_eq_false hab]
      cases hc : eqCells (enc a) (enc b) with
      | false => rfl
      | true => exact absurd (he.inj a b ((eqCells_iff (he.kinds a) (he.kinds b)).1 hc)) hab
  rw [e] at this
  exact this
theorem sl_findAsking {Q : Option (Nat × Value) → List Chunk → Prop} (h : eqV P kt = some ks) (he : EncOk enc ks) (a : κ) : ∀ (es : List (EntS κ)) (i : Nat), sl P (Instr.findAsking kt (.agg (List.toArray (enc a))) (es.map (mkS enc)) i) l Q ↔ Q (findS a es i) l
  | [], i => Iff.rfl
  | e :: es, i => by
    rw [List.map_cons]
    unfold Instr.findAsking
    simp only [mkS]
    rw [sl_bind, sl_equalS h he, findS]
    by_cases hc : a = e.1
    · rw [decide_eq_true hc, if_pos hc]; exact Iff.rfl
    · rw [decide_eq_false hc, if_neg hc]
      exact sl_findAsking h he a es (i + 1)
theorem sl_findKeyS {Q : Option (Nat × Value) → List Chunk → Prop} (h : eqV P kt = some ks) (he : EncOk enc ks) : sl P (Instr.findKey kt (.agg (List.toArray (enc a))) (es.map (mkS enc))) l Q ↔ Q (findS a es 0) l := by
  obtain ⟨h1, _, _⟩ := eqV_spec h
  unfold Instr.findKey
  unfold aggT at h1
  cases hu : P.underlying kt with
  | none => rw [hu] at h1; cases h1
  | some td =>
    rw [sl_under hu]
    cases es with
    | nil => exact Iff.rfl
    | cons e es =>
      have hn : Instr.findNow td (.agg (List.toArray (enc a))) ((e :: es).map (mkS enc)) 0 = none := by
        rw [List.map_cons]
        unfold Instr.findNow
        rw [hu] at h1
        cases td <;> first | rfl | cases h1
      rw [hn]
      exact sl_findAsking h he a (e :: es) 0
theorem q_lookupS {zv : Value} (hx : ev fr x = some (.map (some m))) (hy : ev fr y = some (.agg (List.toArray (enc a)))) [c : MT P T kt et] [ci : EQ P kt ks] [cz : ZO P et zv] (he : EncOk enc ks) (hm : (m, mapS enc es clock) ∈ R) : OpQ P ro N fr R ⟨d, .lookup T x y false, ty, pos, aft, g⟩ ((getS a es).getD zv) := opQ_of_sl rfl fun ρ l hρ hR => by
  simp only [execOp, hρ x _ hx, hρ y _ hy, sl_bind]
  unfold Instr.lookup
  rw [sl_under (mtV_spec c.out)]
  simp only [sl_bind]
  refine ⟨_, hR _ hm, rfl, ?_⟩
  simp only [sl_pure, sl_pure', sl_bind]
  rw [sl_checkKeyS ci.out he, sl_findKeyS ci.out he]
  unfold getS
  cases h : findS a es 0 with
  | none => simp only [sl_bind]; rw [sl_zero cz.out]; exact ⟨rfl, rfl⟩
  | some p => exact ⟨rfl, rfl⟩
theorem same_cells : ∀ {ks : List (Option IntKind)} {a : List Value} (n : Nat), AllK ks a → (a.zip a).all (fun p => Instr.sameBits (n + 1) p.1 p.2) = true
  | [], a, n, h => by cases h; rfl
  | none :: ks, a, n, h => by obtain ⟨c, r, rfl, ⟨p, rfl⟩, h2⟩ := h; rw [List.zip_cons_cons, List.all_cons, same_cells n h2]; simp [Instr.sameBits]
  | some k :: ks, a, n, h => by obtain ⟨c, r, rfl, ⟨p, rfl⟩, h2⟩ := h; rw [List.zip_cons_cons, List.all_cons, same_cells n h2]; simp [Instr.sameBits]
theorem sl_keyStaysS {Q : Value → List Chunk → Prop} (he : EncOk enc ks) : sl P (Instr.keyThatStays (.agg (List.toArray (enc a))) (.agg (List.toArray (enc a)))) l Q ↔ Q (.agg (List.toArray (enc a))) l := by
  unfold Instr.keyThatStays
  have h : Instr.sameBits 10000 (.agg (List.toArray (enc a))) (.agg (List.toArray (enc a))) = true := by
    unfold Instr.sameBits
    simp only [beq_self_eq_true, Bool.true_and]
    exact same_cells 9998 (he.kinds a)
  rw [if_pos h]
  exact Iff.rfl
theorem modify_keyS (A B : List (EntS κ)) (e : EntS κ) (v : Value) : (List.toArray ((A ++ e :: B).map (mkS enc))).modify A.length (fun x => { key := .agg (List.toArray (enc e.1)), val := v, born := x.born }) = List.toArray ((A ++ (e.1, v, e.2.2) :: B).map (mkS enc)) := by
  apply Array.toList_inj.1
  rw [Array.toList_modify]
  simp only [List.map_append, List.map_cons]
  have := modify_mid (fun x : MapEntry => { key := .agg (List.toArray (enc e.1)), val := v, born := x.born }) (mkS enc e) (B.map (mkS enc)) (A.map (mkS enc))
  rw [List.length_map] at this
  rw [this]; rfl
theorem e_mapUpdateS {l' : List Chunk} (hx : ev fr x = some (.map (some m))) (hy : ev fr y = some (.agg (List.toArray (enc a)))) (hz : ev fr z = some v) [c : MT P T kt et] [ci : EQ P kt ks] (he : EncOk enc ks) (hu : Upd l m (mapS enc es clock) (mapS enc (setS a v clock es).1 (setS a v clock es).2) l') :
    OpE P ro N fr l ⟨d, .mapUpdate T x y z, ty, pos, aft, g⟩ (fun v' l2 => v' = undef ∧ l2 = l') := opE_of_sl rfl fun ρ hρ => by
  simp only [execOp, hρ x _ hx, hρ y _ hy, hρ z _ hz]
  rw [sl_bind]
  unfold Instr.mapUpdate
  rw [sl_under (mtV_spec c.out)]
  simp only [sl_bind]
  refine ⟨_, hu.mem, rfl, ?_⟩
  simp only [sl_pure, sl_pure', sl_bind]
  rw [sl_checkKeyS ci.out he, sl_findKeyS ci.out he]
  unfold setS at hu
  cases h : findS a es 0 with
  | none =>
    rw [h] at hu
    simp only at hu ⊢
    refine ⟨mapS enc es clock, l', ?_, rfl, ⟨rfl, rfl⟩⟩
    have e : (List.toArray (es.map (mkS enc))).push { key := .agg (List.toArray (enc a)), val := v, born := clock } = List.toArray ((es ++ [(a, v, clock)]).map (mkS enc)) := by simp [mkS]
    rw [e]
    exact hu
  | some p =>
    obtain ⟨i, u⟩ := p
    rw [h] at hu
    simp only at hu ⊢
    obtain ⟨A, e, B, rfl, rfl, h1, h2, h3⟩ := findS_some h
    subst h1
    have hk : (((List.toArray ((A ++ e :: B).map (mkS enc)))[A.length]?).map (·.key)).getD (.agg (List.toArray (enc e.1))) = .agg (List.toArray (enc e.1)) := by simp [mkS]
    simp only [sl_bind]
    rw [hk, sl_keyStaysS he]
    refine ⟨mapS enc (A ++ e :: B) clock, l', ?_, rfl, ⟨rfl, rfl⟩⟩
    rw [modify_keyS, ← modify_mid (fun x => (x.1, v, x.2.2)) e B A]
    exact hu
theorem e_deleteS {l' : List Chunk} {T2 : TypeId} (hx : ev fr x = some (.map (some m))) (hy : ev fr y = some (.agg (List.toArray (enc a)))) [c : MT P T kt et] [ci : EQ P kt ks] (he : EncOk enc ks) (hu : Upd l m (mapS enc es clock) (mapS enc (delS a es) clock) l') :
    OpE P ro N fr l ⟨d, .call { callee := .builtin .delete, args := #[x, y], argTypes := #[T, T2] }, ty, pos, aft, g⟩ (fun v' l2 => v' = .tuple #[] ∧ l2 = l') := opE_of_sl rfl fun ρ hρ => by
  simp only [execOp, resolve, sl_bind, sl_pure, invoke, builtin, List.map_toArray, List.map_cons, List.map_nil, hρ x _ hx, hρ y _ hy]
  unfold Builtin.delete_
  simp only [List.getElem?_toArray, List.getElem?_cons_zero, List.getElem?_cons_succ, sl_bind]
  rw [sl_under' (mtV_spec c.out)]
  simp only [sl_bind]
  refine ⟨_, hu.mem, rfl, ?_⟩
  simp only [sl_pure, sl_pure', sl_bind]
  rw [sl_checkKeyS ci.out he, sl_findKeyS ci.out he]
  unfold delS at hu
  cases h : findS a es 0 with
  | none =>
    rw [h] at hu
    exact ⟨mapS enc es clock, l', hu, rfl, ⟨rfl, rfl⟩⟩
  | some p =>
    obtain ⟨i, u⟩ := p
    rw [h] at hu
    refine ⟨mapS enc es clock, l', ?_, rfl, ⟨rfl, rfl⟩⟩
    have e : (List.toArray (es.map (mkS enc))).eraseIdxIfInBounds i = List.toArray ((es.eraseIdx i).map (mkS enc)) := by
      apply Array.toList_inj.1
      simp only [List.eraseIdxIfInBounds_toArray]
      rw [List.eraseIdx_eq_take_drop_succ, List.eraseIdx_eq_take_drop_succ, List.map_append, List.map_take, List.map_drop]
    rw [e]
    exact hu
/-- an entry that is there, looked up to be written -/
theorem e_mapEntryS {A B : List (EntS κ)} {e : EntS κ} {l' : List Chunk} (hx : ev fr x = some (.map (some m))) (hy : ev fr y = some (.agg (List.toArray (enc a)))) [c : MT P T kt et] [ci : EQ P kt ks] (he : EncOk enc ks) (hes : es = A ++ e :: B) (h1 : e.1 = a) (h3 : ∀ x ∈ A, x.1 ≠ a) (hm : (m, mapS enc es clock) ∈ l) :
    OpE P ro N fr l ⟨d, .mapEntry T x y, ty, pos, aft, g⟩ (fun v' l2 => v' = .tuple #[e.2.1, .int .i64 e.2.2] ∧ l2 = l) := opE_of_sl rfl fun ρ hρ => by
  subst h1 hes
  simp only [execOp, hρ x _ hx, hρ y _ hy, sl_bind]
  unfold Instr.mapEntry
  rw [sl_under (mtV_spec c.out)]
  simp only [sl_bind]
  refine ⟨_, hm, rfl, ?_⟩
  simp only [sl_pure, sl_pure', sl_bind]
  have hf : findS e.1 (A ++ e :: B) 0 = some (A.length, e.2.1) := by
    have : ∀ (A : List (EntS κ)) (i : Nat), (∀ x ∈ A, x.1 ≠ e.1) → findS e.1 (A ++ e :: B) i = some (i + A.length, e.2.1) := by
      intro A
      induction A with
      | nil => intro i _; rw [List.nil_append, findS, if_pos rfl]; rfl
      | cons z A ih =>
        intro i hA
        rw [List.cons_append, findS, if_neg (fun h => hA z List.mem_cons_self h.symm), ih (i + 1) fun x hx => hA x (List.mem_cons_of_mem _ hx), List.length_cons]
        congr 2; omega
    rw [this A 0 h3, Nat.zero_add]
  rw [sl_checkKeyS ci.out he, sl_findKeyS ci.out he, hf]
  have hk : (((List.toArray ((A ++ e :: B).map (mkS enc)))[A.length]?).map (·.key)).getD (.agg (List.toArray (enc e.1))) = .agg (List.toArray (enc e.1)) := by simp [mkS]
  have hb : (((List.toArray ((A ++ e :: B).map (mkS enc)))[A.length]?).map (fun x => (x.born : Int))).getD 0 = (e.2.2 : Int) := by simp [mkS]
  simp only [sl_bind]
  rw [hk, sl_keyStaysS he]
  obtain ⟨l2, hl2⟩ : ∃ l2, Upd l m (mapS enc (A ++ e :: B) clock) (mapS enc (A ++ e :: B) clock) l2 := by
    clear hρ
    induction l with
    | nil => cases hm
    | cons c l ih =>
      by_cases hc : c = (m, mapS enc (A ++ e :: B) clock)
      · subst hc; exact ⟨_, .here⟩
      · rcases List.mem_cons.1 hm with h | h
        · exact absurd h.symm hc
        · obtain ⟨l2, h2⟩ := ih h; exact ⟨_, .there h2⟩
  refine ⟨mapS enc (A ++ e :: B) clock, l, ?_, rfl, ?_⟩
  · have e2 : (List.toArray ((A ++ e :: B).map (mkS enc))).modify A.length (fun x => { key := .agg (List.toArray (enc e.1)), val := x.val, born := x.born }) = List.toArray ((A ++ e :: B).map (mkS enc)) := by
      apply Array.toList_inj.1
      rw [Array.toList_modify]
      simp only [List.map_append, List.map_cons]
      have := modify_mid (fun x : MapEntry => { key := .agg (List.toArray (enc e.1)), val := x.val, born := x.born }) (mkS enc e) (B.map (mkS enc)) (A.map (mkS enc))
      rw [List.length_map] at this
      rw [this]; rfl
    rw [e2]
    have := hl2.same
    subst this
    exact hl2
  · simp only [sl_pure, sl_pure']
    refine ⟨?_, rfl⟩
    show Value.tuple _ = _
    congr 3
    first | exact congrArg goInt hb | (unfold goInt; rw [← hb])
theorem e_entryStoreS {A B : List (EntS κ)} {e : EntS κ} {l' : List Chunk} (hx : ev fr x = some (.map (some m))) (hy : ev fr y = some (.int .i64 (e.2.2 : Nat))) (hz : ev fr z = some v) (hes : es = A ++ e :: B) (h3 : ∀ x ∈ A, x.2.2 ≠ e.2.2) (hu : Upd l m (mapS enc es clock) (mapS enc (A ++ (e.1, v, e.2.2) :: B) clock) l') :
    OpE P ro N fr l ⟨d, .entryStore T x y z, ty, pos, aft, g⟩ (fun v' l2 => v' = undef ∧ l2 = l') := opE_of_sl rfl fun ρ hρ => by
  subst hes
  simp only [execOp, hρ x _ hx, hρ y _ hy, hρ z _ hz]
  rw [sl_bind]
  unfold Instr.entryStore
  simp only [sl_bind]
  refine ⟨_, hu.mem, rfl, ?_⟩
  simp only [sl_pure, sl_pure', sl_bind, asInt, asIntOf]
  have hf : (List.toArray ((A ++ e :: B).map (mkS enc))).findIdx? (fun x => (x.born : Int) == (e.2.2 : Int)) = some A.length := by
    rw [List.findIdx?_toArray]
    clear hu hρ
    induction A with
    | nil => simp [mkS, List.findIdx?_cons]
    | cons z A ih =>
      have hz : ¬ z.2.2 = e.2.2 := h3 z List.mem_cons_self
      rw [List.cons_append, List.map_cons, List.findIdx?_cons, ih fun x hx => h3 x (List.mem_cons_of_mem _ hx)]
      have : (((mkS enc z).born : Int) == (e.2.2 : Int)) = false := by simp [mkS]; omega
      rw [this]; rfl
  rw [hf]
  refine ⟨mapS enc (A ++ e :: B) clock, l', ?_, rfl, ⟨rfl, rfl⟩⟩
  have e2 : (List.toArray ((A ++ e :: B).map (mkS enc))).modify A.length (fun x => { key := x.key, val := v, born := x.born }) = List.toArray ((A ++ (e.1, v, e.2.2) :: B).map (mkS enc)) := by
    apply Array.toList_inj.1
    rw [Array.toList_modify]
    simp only [List.map_append, List.map_cons]
    have := modify_mid (fun x : MapEntry => { key := x.key, val := v, born := x.born }) (mkS enc e) (B.map (mkS enc)) (A.map (mkS enc))
    rw [List.length_map] at this
    rw [this]; rfl
  rw [e2]
  exact hu
end
end Go.Proofs.YtffmibmefmbdjaaDoor

/- Strings. Laws of my own, no program's. -/
set_option linter.unusedVariables false
set_option linter.unusedSimpArgs false
namespace Go.Proofs.YtffmibmefmbdjaaDoor
open Go.RowKit

/-- a string, by its bytes -/
abbrev str (l : List UInt8) : Value := .string ⟨List.toArray l⟩
class SGT (P : Program) (t : Nat) : Prop where out : P.underlying t = some .string
theorem ba_toList (l : List UInt8) : (⟨List.toArray l⟩ : ByteArray).toList = l := ByteArray.toList_eq _
theorem ba_eq {a b : List UInt8} : ((⟨List.toArray a⟩ : ByteArray).toList == (⟨List.toArray b⟩ : ByteArray).toList) = decide (a = b) := by
  rw [ba_toList, ba_toList]; by_cases h : a = b <;> simp [h]
theorem ba_size (l : List UInt8) : (⟨List.toArray l⟩ : ByteArray).size = l.length := rfl
theorem ba_append (a b : List UInt8) : (⟨List.toArray a⟩ : ByteArray) ++ ⟨List.toArray b⟩ = ⟨List.toArray (a ++ b)⟩ := by
  apply ByteArray.ext; simp
theorem str_data (s : ByteArray) : Value.string s = str s.data.toList := by
  show Value.string s = Value.string ⟨List.toArray s.data.toList⟩
  rw [Lib.mk_data]

section
variable {P : Program} {ro : Option Nat} {N : Nat} {fr : Fr} {R l : List Chunk} {K : Value → List Chunk → Prop} {d : Option Nat} {ty : TypeId} {pos : String} {aft : Array Edge} {g : Option (Nat × Bool)} {x y z : Operand} {v u w : Value} {t t2 : TypeId} {p q : List UInt8}

theorem q_eqS (hx : ev fr x = some (str p)) (hy : ev fr y = some (str q)) : OpQ P ro N fr R ⟨d, .binOp .eql t x y t2, ty, pos, aft, g⟩ (.bool (decide (p = q))) :=
  q_bin hx hy (fun _ _ => eqGuard_str _ _ _) (by simp only [binOp, Op.stringOp, ba_eq])
theorem q_neS (hx : ev fr x = some (str p)) (hy : ev fr y = some (str q)) : OpQ P ro N fr R ⟨d, .binOp .neq t x y t2, ty, pos, aft, g⟩ (.bool (decide (¬ p = q))) :=
  q_bin hx hy (fun _ _ => eqGuard_str _ _ _) (by simp only [binOp, Op.stringOp, ba_eq, decide_not])
theorem q_addS (hx : ev fr x = some (str p)) (hy : ev fr y = some (str q)) (h : p.length + q.length ≤ 9223372036854775807) : OpQ P ro N fr R ⟨d, .binOp .add t x y t2, ty, pos, aft, g⟩ (str (p ++ q)) :=
  q_bin hx hy (fun _ _ => eqGuard_str _ _ _) (by
    simp only [binOp, Op.stringOp, ba_size]
    rw [if_neg (by show ¬ (((p.length + q.length : Nat) : Int) > 9223372036854775807); omega), ba_append])
theorem q_lenS (hx : ev fr x = some (str p)) [c : SGT P t] : OpQ P ro N fr R ⟨d, .call { callee := .builtin .len, args := #[x], argTypes := #[t] }, ty, pos, aft, g⟩ (.int .i64 (p.length : Nat)) := opQ_of_sl rfl fun ρ l hρ _ => by
  simp only [execOp, resolve, sl_bind, sl_pure, invoke, builtin, List.map_toArray, List.map_cons, List.map_nil, hρ x _ hx, Builtin.len_]
  show sl P (underlying t >>= _) l _
  rw [sl_under c.out]
  exact ⟨rfl, by first | rfl | trivial⟩
theorem q_idxS {m : Nat} {k : IntKind} (hx : ev fr x = some (str p)) (hy : ev fr y = some (.int k (m : Nat))) [c : SGT P t] (hi : m < p.length) : OpQ P ro N fr R ⟨d, .index t x y, ty, pos, aft, g⟩ (.int .u8 ((p.getD m 0).toNat : Nat)) := opQ_of_sl rfl fun ρ l hρ _ => by
  simp only [execOp, hρ x _ hx, hρ y _ hy]
  unfold Instr.index
  simp only [asIntOf, sl_bind, sl_pure]
  rw [sl_under' c.out]
  have h0 : (0 : Int) ≤ (m : Nat) := by omega
  have h1 : (⟨List.toArray p⟩ : ByteArray)[m]? = some (p.getD m 0) := by
    show (if h : m < (⟨List.toArray p⟩ : ByteArray).size then some (⟨List.toArray p⟩ : ByteArray)[m] else none) = _
    rw [dif_pos (show m < (⟨List.toArray p⟩ : ByteArray).size from hi)]
    show some ((List.toArray p)[m]) = _
    simp [List.getD, List.getElem?_eq_getElem hi]
  simp only [h0, if_true, Int.toNat_natCast, h1, sl_pure]
  exact ⟨trivial, trivial⟩
theorem sl_sliceBoundsS {Q : Nat × Nat × Nat → List Chunk → Prop} {ρ : Operand → Value} (hρ : Agrees fr ρ) {lo hi : Option Operand} {n l0 h0 : Nat} (hl : Bnd fr lo 0 l0) (hh : Bnd fr hi n h0) (h1 : l0 ≤ h0) (h2 : h0 ≤ n) :
    sl P (Instr.sliceBounds false n n (lo.map ρ) (hi.map ρ) none) l Q ↔ Q (l0, h0, n) l := by
  unfold Instr.sliceBounds
  cases hh with
  | none =>
    cases hl with
    | none => simp only [Option.map_none, sl_bind, sl_pure]
    | some e i0 ir =>
      simp only [Option.map_none, Option.map_some, sl_bind, sl_pure, hρ _ _ e]
      rw [sl_sliceBound i0 ir h1]
  | some e i0 ir =>
    cases hl with
    | none =>
      simp only [Option.map_none, Option.map_some, sl_bind, sl_pure, hρ _ _ e]
      rw [sl_sliceBound i0 ir h2]
    | some e' i0' ir' =>
      simp only [Option.map_none, Option.map_some, sl_bind, sl_pure, hρ _ _ e, hρ _ _ e']
      rw [sl_sliceBound i0 ir h2, sl_sliceBound i0' ir' h1]
theorem q_sliceS {lo hi : Option Operand} {l0 h0 : Nat} (hx : ev fr x = some (str p)) [c : SGT P t] (hl : Bnd fr lo 0 l0) (hh : Bnd fr hi p.length h0) (h1 : l0 ≤ h0) (h2 : h0 ≤ p.length) : OpQ P ro N fr R ⟨d, .slice t x lo hi none, ty, pos, aft, g⟩ (str ((p.drop l0).take (h0 - l0))) := opQ_of_sl rfl fun ρ l hρ _ => by
  simp only [execOp, hρ x _ hx]
  rw [sl_bind]
  unfold Instr.sliceAt
  rw [sl_under c.out]
  show sl P (Instr.slice t _ _ _ _) l _
  unfold Instr.slice
  rw [sl_under c.out]
  show sl P (Instr.sliceBounds false p.length p.length (lo.map ρ) (hi.map ρ) none >>= _) l _
  rw [sl_bind, sl_sliceBoundsS hρ hl hh h1 h2, sl_pure]
  refine ⟨?_, rfl⟩
  show Next.value (.string ((⟨List.toArray p⟩ : ByteArray).extract l0 h0)) = _
  rw [Lib.extract_eq]
end
end Go.Proofs.YtffmibmefmbdjaaDoor

namespace Go.Proofs.YtffmibmefmbdjaaDoor
instance : OC Tryd.prog 1 := ⟨by kernel_rfl⟩
instance : ZV Tryd.prog 1 [.nilFunc] := ⟨by kernel_rfl⟩
instance : ZO Tryd.prog 1 (.nilFunc) := ⟨by kernel_rfl⟩
instance : OC Tryd.prog 2 := ⟨by kernel_rfl⟩
instance : IT Tryd.prog 2 .i64 := ⟨by kernel_rfl⟩
instance : ZV Tryd.prog 2 [.int .i64 0] := ⟨by kernel_rfl⟩
instance : ZO Tryd.prog 2 (.int .i64 0) := ⟨by kernel_rfl⟩
instance : OC Tryd.prog 3 := ⟨by kernel_rfl⟩
instance : IT Tryd.prog 3 .i64 := ⟨by kernel_rfl⟩
instance : ZV Tryd.prog 3 [.int .i64 0] := ⟨by kernel_rfl⟩
instance : ZO Tryd.prog 3 (.int .i64 0) := ⟨by kernel_rfl⟩
instance : OC Tryd.prog 4 := ⟨by kernel_rfl⟩
instance : ZV Tryd.prog 4 [.bool false] := ⟨by kernel_rfl⟩
instance : ZO Tryd.prog 4 (.bool false) := ⟨by kernel_rfl⟩
instance : OC Tryd.prog 5 := ⟨by kernel_rfl⟩
instance : IT Tryd.prog 5 .u8 := ⟨by kernel_rfl⟩
instance : ZV Tryd.prog 5 [.int .u8 0] := ⟨by kernel_rfl⟩
instance : ZO Tryd.prog 5 (.int .u8 0) := ⟨by kernel_rfl⟩
instance : SGT Tryd.prog 9 := ⟨by kernel_rfl⟩
instance : OC Tryd.prog 9 := ⟨by kernel_rfl⟩
instance : ZV Tryd.prog 9 [.string ⟨#[]⟩] := ⟨by kernel_rfl⟩
instance : ZO Tryd.prog 9 (.string ⟨#[]⟩) := ⟨by kernel_rfl⟩
instance : OC Tryd.prog 12 := ⟨by kernel_rfl⟩
instance : IT Tryd.prog 12 .u64 := ⟨by kernel_rfl⟩
instance : ZV Tryd.prog 12 [.int .u64 0] := ⟨by kernel_rfl⟩
instance : ZO Tryd.prog 12 (.int .u64 0) := ⟨by kernel_rfl⟩
instance : FO Tryd.prog 13 0 0 := ⟨by kernel_rfl⟩
instance : FV Tryd.prog 13 0 0 9 := ⟨by kernel_rfl⟩
instance : FO Tryd.prog 13 1 1 := ⟨by kernel_rfl⟩
instance : FV Tryd.prog 13 1 1 12 := ⟨by kernel_rfl⟩
instance : BT Tryd.prog 13 := ⟨by kernel_rfl⟩
instance : AG Tryd.prog 13 2 := ⟨by kernel_rfl⟩
instance : ZV Tryd.prog 13 [.string ⟨#[]⟩, .int .u64 0] := ⟨by kernel_rfl⟩
instance : ZO Tryd.prog 13 (.agg (List.toArray [.string ⟨#[]⟩, .int .u64 0])) := ⟨by kernel_rfl⟩
instance : OC Tryd.prog 20 := ⟨by kernel_rfl⟩
instance : ZV Tryd.prog 20 [.nilIface] := ⟨by kernel_rfl⟩
instance : ZO Tryd.prog 20 (.nilIface) := ⟨by kernel_rfl⟩
instance : OC Tryd.prog 21 := ⟨by kernel_rfl⟩
instance : IT Tryd.prog 21 .i32 := ⟨by kernel_rfl⟩
instance : ZV Tryd.prog 21 [.int .i32 0] := ⟨by kernel_rfl⟩
instance : ZO Tryd.prog 21 (.int .i32 0) := ⟨by kernel_rfl⟩
instance : OC Tryd.prog 22 := ⟨by kernel_rfl⟩
instance : ZV Tryd.prog 22 [.nilFunc] := ⟨by kernel_rfl⟩
instance : ZO Tryd.prog 22 (.nilFunc) := ⟨by kernel_rfl⟩
instance : ST Tryd.prog 23 43 15 120 := ⟨by kernel_rfl⟩
instance : OC Tryd.prog 23 := ⟨by kernel_rfl⟩
instance : ZV Tryd.prog 23 [.slice none 0 0] := ⟨by kernel_rfl⟩
instance : ZO Tryd.prog 23 (.slice none 0 0) := ⟨by kernel_rfl⟩
instance : OC Tryd.prog 24 := ⟨by kernel_rfl⟩
instance : IT Tryd.prog 24 .i64 := ⟨by kernel_rfl⟩
instance : ZV Tryd.prog 24 [.int .i64 0] := ⟨by kernel_rfl⟩
instance : ZO Tryd.prog 24 (.int .i64 0) := ⟨by kernel_rfl⟩
instance : OC Tryd.prog 26 := ⟨by kernel_rfl⟩
instance : ZV Tryd.prog 26 [.nilFunc] := ⟨by kernel_rfl⟩
instance : ZO Tryd.prog 26 (.nilFunc) := ⟨by kernel_rfl⟩
instance : OC Tryd.prog 28 := ⟨by kernel_rfl⟩
instance : ZV Tryd.prog 28 [.nilFunc] := ⟨by kernel_rfl⟩
instance : ZO Tryd.prog 28 (.nilFunc) := ⟨by kernel_rfl⟩
instance : OC Tryd.prog 29 := ⟨by kernel_rfl⟩
instance : ZV Tryd.prog 29 [.nilFunc] := ⟨by kernel_rfl⟩
instance : ZO Tryd.prog 29 (.nilFunc) := ⟨by kernel_rfl⟩
instance : OC Tryd.prog 30 := ⟨by kernel_rfl⟩
instance : ZV Tryd.prog 30 [.nilFunc] := ⟨by kernel_rfl⟩
instance : ZO Tryd.prog 30 (.nilFunc) := ⟨by kernel_rfl⟩
instance : OC Tryd.prog 31 := ⟨by kernel_rfl⟩
instance : ZV Tryd.prog 31 [.nilFunc] := ⟨by kernel_rfl⟩
instance : ZO Tryd.prog 31 (.nilFunc) := ⟨by kernel_rfl⟩
instance : OC Tryd.prog 32 := ⟨by kernel_rfl⟩
instance : ZV Tryd.prog 32 [.nilFunc] := ⟨by kernel_rfl⟩
instance : ZO Tryd.prog 32 (.nilFunc) := ⟨by kernel_rfl⟩
instance : OC Tryd.prog 34 := ⟨by kernel_rfl⟩
instance : ZV Tryd.prog 34 [.nilFunc] := ⟨by kernel_rfl⟩
instance : ZO Tryd.prog 34 (.nilFunc) := ⟨by kernel_rfl⟩
instance : OC Tryd.prog 36 := ⟨by kernel_rfl⟩
instance : ZV Tryd.prog 36 [.nilFunc] := ⟨by kernel_rfl⟩
instance : ZO Tryd.prog 36 (.nilFunc) := ⟨by kernel_rfl⟩
instance : OC Tryd.prog 37 := ⟨by kernel_rfl⟩
instance : ZV Tryd.prog 37 [.nilFunc] := ⟨by kernel_rfl⟩
instance : ZO Tryd.prog 37 (.nilFunc) := ⟨by kernel_rfl⟩
instance : OC Tryd.prog 38 := ⟨by kernel_rfl⟩
instance : IT Tryd.prog 38 .u64 := ⟨by kernel_rfl⟩
instance : ZV Tryd.prog 38 [.int .u64 0] := ⟨by kernel_rfl⟩
instance : ZO Tryd.prog 38 (.int .u64 0) := ⟨by kernel_rfl⟩
instance : AT Tryd.prog 39 6 38 1 := ⟨by kernel_rfl⟩
instance : BA Tryd.prog 39 := ⟨by kernel_rfl⟩
instance : AG Tryd.prog 39 6 := ⟨by kernel_rfl⟩
instance : ZV Tryd.prog 39 [.int .u64 0, .int .u64 0, .int .u64 0, .int .u64 0, .int .u64 0, .int .u64 0] := ⟨by kernel_rfl⟩
instance : ZO Tryd.prog 39 (.agg (List.toArray [.int .u64 0, .int .u64 0, .int .u64 0, .int .u64 0, .int .u64 0, .int .u64 0])) := ⟨by kernel_rfl⟩
instance : FO Tryd.prog 40 0 0 := ⟨by kernel_rfl⟩
instance : FV Tryd.prog 40 0 0 38 := ⟨by kernel_rfl⟩
instance : FO Tryd.prog 40 1 1 := ⟨by kernel_rfl⟩
instance : FV Tryd.prog 40 1 1 39 := ⟨by kernel_rfl⟩
instance : BT Tryd.prog 40 := ⟨by kernel_rfl⟩
instance : AG Tryd.prog 40 7 := ⟨by kernel_rfl⟩
instance : ZV Tryd.prog 40 [.int .u64 0, .int .u64 0, .int .u64 0, .int .u64 0, .int .u64 0, .int .u64 0, .int .u64 0] := ⟨by kernel_rfl⟩
instance : ZO Tryd.prog 40 (.agg (List.toArray [.int .u64 0, .int .u64 0, .int .u64 0, .int .u64 0, .int .u64 0, .int .u64 0, .int .u64 0])) := ⟨by kernel_rfl⟩
instance : FO Tryd.prog 41 0 0 := ⟨by kernel_rfl⟩
instance : FV Tryd.prog 41 0 0 38 := ⟨by kernel_rfl⟩
instance : FO Tryd.prog 41 1 1 := ⟨by kernel_rfl⟩
instance : FV Tryd.prog 41 1 1 39 := ⟨by kernel_rfl⟩
instance : BT Tryd.prog 41 := ⟨by kernel_rfl⟩
instance : AG Tryd.prog 41 7 := ⟨by kernel_rfl⟩
instance : ZV Tryd.prog 41 [.int .u64 0, .int .u64 0, .int .u64 0, .int .u64 0, .int .u64 0, .int .u64 0, .int .u64 0] := ⟨by kernel_rfl⟩
instance : ZO Tryd.prog 41 (.agg (List.toArray [.int .u64 0, .int .u64 0, .int .u64 0, .int .u64 0, .int .u64 0, .int .u64 0, .int .u64 0])) := ⟨by kernel_rfl⟩
instance : FO Tryd.prog 42 0 0 := ⟨by kernel_rfl⟩
instance : FV Tryd.prog 42 0 0 3 := ⟨by kernel_rfl⟩
instance : FO Tryd.prog 42 1 1 := ⟨by kernel_rfl⟩
instance : FV Tryd.prog 42 1 1 3 := ⟨by kernel_rfl⟩
instance : FO Tryd.prog 42 2 2 := ⟨by kernel_rfl⟩
instance : FV Tryd.prog 42 2 2 3 := ⟨by kernel_rfl⟩
instance : FO Tryd.prog 42 3 3 := ⟨by kernel_rfl⟩
instance : FV Tryd.prog 42 3 3 41 := ⟨by kernel_rfl⟩
instance : FO Tryd.prog 42 4 10 := ⟨by kernel_rfl⟩
instance : FV Tryd.prog 42 4 10 38 := ⟨by kernel_rfl⟩
instance : FO Tryd.prog 42 5 11 := ⟨by kernel_rfl⟩
instance : FV Tryd.prog 42 5 11 38 := ⟨by kernel_rfl⟩
instance : FO Tryd.prog 42 6 12 := ⟨by kernel_rfl⟩
instance : FV Tryd.prog 42 6 12 3 := ⟨by kernel_rfl⟩
instance : FO Tryd.prog 42 7 13 := ⟨by kernel_rfl⟩
instance : FV Tryd.prog 42 7 13 3 := ⟨by kernel_rfl⟩
instance : FO Tryd.prog 42 8 14 := ⟨by kernel_rfl⟩
instance : FV Tryd.prog 42 8 14 3 := ⟨by kernel_rfl⟩
instance : BT Tryd.prog 42 := ⟨by kernel_rfl⟩
instance : AG Tryd.prog 42 15 := ⟨by kernel_rfl⟩
instance : ZV Tryd.prog 42 [.int .i64 0, .int .i64 0, .int .i64 0, .int .u64 0, .int .u64 0, .int .u64 0, .int .u64 0, .int .u64 0, .int .u64 0, .int .u64 0, .int .u64 0, .int .u64 0, .int .i64 0, .int .i64 0, .int .i64 0] := ⟨by kernel_rfl⟩
instance : ZO Tryd.prog 42 (.agg (List.toArray [.int .i64 0, .int .i64 0, .int .i64 0, .int .u64 0, .int .u64 0, .int .u64 0, .int .u64 0, .int .u64 0, .int .u64 0, .int .u64 0, .int .u64 0, .int .u64 0, .int .i64 0, .int .i64 0, .int .i64 0])) := ⟨by kernel_rfl⟩
instance : FO Tryd.prog 43 0 0 := ⟨by kernel_rfl⟩
instance : FV Tryd.prog 43 0 0 3 := ⟨by kernel_rfl⟩
instance : FO Tryd.prog 43 1 1 := ⟨by kernel_rfl⟩
instance : FV Tryd.prog 43 1 1 3 := ⟨by kernel_rfl⟩
instance : FO Tryd.prog 43 2 2 := ⟨by kernel_rfl⟩
instance : FV Tryd.prog 43 2 2 3 := ⟨by kernel_rfl⟩
instance : FO Tryd.prog 43 3 3 := ⟨by kernel_rfl⟩
instance : FV Tryd.prog 43 3 3 41 := ⟨by kernel_rfl⟩
instance : FO Tryd.prog 43 4 10 := ⟨by kernel_rfl⟩
instance : FV Tryd.prog 43 4 10 38 := ⟨by kernel_rfl⟩
instance : FO Tryd.prog 43 5 11 := ⟨by kernel_rfl⟩
instance : FV Tryd.prog 43 5 11 38 := ⟨by kernel_rfl⟩
instance : FO Tryd.prog 43 6 12 := ⟨by kernel_rfl⟩
instance : FV Tryd.prog 43 6 12 3 := ⟨by kernel_rfl⟩
instance : FO Tryd.prog 43 7 13 := ⟨by kernel_rfl⟩
instance : FV Tryd.prog 43 7 13 3 := ⟨by kernel_rfl⟩
instance : FO Tryd.prog 43 8 14 := ⟨by kernel_rfl⟩
instance : FV Tryd.prog 43 8 14 3 := ⟨by kernel_rfl⟩
instance : BT Tryd.prog 43 := ⟨by kernel_rfl⟩
instance : AG Tryd.prog 43 15 := ⟨by kernel_rfl⟩
instance : ZV Tryd.prog 43 [.int .i64 0, .int .i64 0, .int .i64 0, .int .u64 0, .int .u64 0, .int .u64 0, .int .u64 0, .int .u64 0, .int .u64 0, .int .u64 0, .int .u64 0, .int .u64 0, .int .i64 0, .int .i64 0, .int .i64 0] := ⟨by kernel_rfl⟩
instance : ZO Tryd.prog 43 (.agg (List.toArray [.int .i64 0, .int .i64 0, .int .i64 0, .int .u64 0, .int .u64 0, .int .u64 0, .int .u64 0, .int .u64 0, .int .u64 0, .int .u64 0, .int .u64 0, .int .u64 0, .int .i64 0, .int .i64 0, .int .i64 0])) := ⟨by kernel_rfl⟩
instance : OC Tryd.prog 44 := ⟨by kernel_rfl⟩
instance : ZV Tryd.prog 44 [.nilFunc] := ⟨by kernel_rfl⟩
instance : ZO Tryd.prog 44 (.nilFunc) := ⟨by kernel_rfl⟩
instance : OC Tryd.prog 45 := ⟨by kernel_rfl⟩
instance : ZV Tryd.prog 45 [.nilFunc] := ⟨by kernel_rfl⟩
instance : ZO Tryd.prog 45 (.nilFunc) := ⟨by kernel_rfl⟩
instance : OC Tryd.prog 46 := ⟨by kernel_rfl⟩
instance : ZV Tryd.prog 46 [.nilFunc] := ⟨by kernel_rfl⟩
instance : ZO Tryd.prog 46 (.nilFunc) := ⟨by kernel_rfl⟩
instance : OC Tryd.prog 48 := ⟨by kernel_rfl⟩
instance : ZV Tryd.prog 48 [.nilFunc] := ⟨by kernel_rfl⟩
instance : ZO Tryd.prog 48 (.nilFunc) := ⟨by kernel_rfl⟩
instance : OC Tryd.prog 50 := ⟨by kernel_rfl⟩
instance : ZV Tryd.prog 50 [.nilFunc] := ⟨by kernel_rfl⟩
instance : ZO Tryd.prog 50 (.nilFunc) := ⟨by kernel_rfl⟩
instance : ST Tryd.prog 51 9 1 16 := ⟨by kernel_rfl⟩
instance : OC Tryd.prog 51 := ⟨by kernel_rfl⟩
instance : ZV Tryd.prog 51 [.slice none 0 0] := ⟨by kernel_rfl⟩
instance : ZO Tryd.prog 51 (.slice none 0 0) := ⟨by kernel_rfl⟩
instance : OC Tryd.prog 52 := ⟨by kernel_rfl⟩
instance : ZV Tryd.prog 52 [.nilFunc] := ⟨by kernel_rfl⟩
instance : ZO Tryd.prog 52 (.nilFunc) := ⟨by kernel_rfl⟩
instance : OC Tryd.prog 53 := ⟨by kernel_rfl⟩
instance : PT Tryd.prog 53 56 := ⟨by kernel_rfl⟩
instance : ZV Tryd.prog 53 [.pointer none] := ⟨by kernel_rfl⟩
instance : ZO Tryd.prog 53 (.pointer none) := ⟨by kernel_rfl⟩
instance : ST Tryd.prog 54 5 1 1 := ⟨by kernel_rfl⟩
instance : OC Tryd.prog 54 := ⟨by kernel_rfl⟩
instance : ZV Tryd.prog 54 [.slice none 0 0] := ⟨by kernel_rfl⟩
instance : ZO Tryd.prog 54 (.slice none 0 0) := ⟨by kernel_rfl⟩
instance : FO Tryd.prog 55 0 0 := ⟨by kernel_rfl⟩
instance : FV Tryd.prog 55 0 0 53 := ⟨by kernel_rfl⟩
instance : FO Tryd.prog 55 1 1 := ⟨by kernel_rfl⟩
instance : FV Tryd.prog 55 1 1 54 := ⟨by kernel_rfl⟩
instance : BT Tryd.prog 55 := ⟨by kernel_rfl⟩
instance : AG Tryd.prog 55 2 := ⟨by kernel_rfl⟩
instance : ZV Tryd.prog 55 [.pointer none, .slice none 0 0] := ⟨by kernel_rfl⟩
instance : ZO Tryd.prog 55 (.agg (List.toArray [.pointer none, .slice none 0 0])) := ⟨by kernel_rfl⟩
instance : FO Tryd.prog 56 0 0 := ⟨by kernel_rfl⟩
instance : FV Tryd.prog 56 0 0 53 := ⟨by kernel_rfl⟩
instance : FO Tryd.prog 56 1 1 := ⟨by kernel_rfl⟩
instance : FV Tryd.prog 56 1 1 54 := ⟨by kernel_rfl⟩
instance : BT Tryd.prog 56 := ⟨by kernel_rfl⟩
instance : AG Tryd.prog 56 2 := ⟨by kernel_rfl⟩
instance : ZV Tryd.prog 56 [.pointer none, .slice none 0 0] := ⟨by kernel_rfl⟩
instance : ZO Tryd.prog 56 (.agg (List.toArray [.pointer none, .slice none 0 0])) := ⟨by kernel_rfl⟩
instance : OC Tryd.prog 57 := ⟨by kernel_rfl⟩
instance : ZV Tryd.prog 57 [.nilFunc] := ⟨by kernel_rfl⟩
instance : ZO Tryd.prog 57 (.nilFunc) := ⟨by kernel_rfl⟩
instance : OC Tryd.prog 58 := ⟨by kernel_rfl⟩
instance : ZV Tryd.prog 58 [.nilIface] := ⟨by kernel_rfl⟩
instance : ZO Tryd.prog 58 (.nilIface) := ⟨by kernel_rfl⟩
instance : OC Tryd.prog 59 := ⟨by kernel_rfl⟩
instance : ZV Tryd.prog 59 [.nilIface] := ⟨by kernel_rfl⟩
instance : ZO Tryd.prog 59 (.nilIface) := ⟨by kernel_rfl⟩
instance : OC Tryd.prog 61 := ⟨by kernel_rfl⟩
instance : ZV Tryd.prog 61 [.nilFunc] := ⟨by kernel_rfl⟩
instance : ZO Tryd.prog 61 (.nilFunc) := ⟨by kernel_rfl⟩
instance : OC Tryd.prog 62 := ⟨by kernel_rfl⟩
instance : ZV Tryd.prog 62 [.nilFunc] := ⟨by kernel_rfl⟩
instance : ZO Tryd.prog 62 (.nilFunc) := ⟨by kernel_rfl⟩
instance : ST Tryd.prog 63 70 2 16 := ⟨by kernel_rfl⟩
instance : OC Tryd.prog 63 := ⟨by kernel_rfl⟩
instance : ZV Tryd.prog 63 [.slice none 0 0] := ⟨by kernel_rfl⟩
instance : ZO Tryd.prog 63 (.slice none 0 0) := ⟨by kernel_rfl⟩
instance : OC Tryd.prog 65 := ⟨by kernel_rfl⟩
instance : ZV Tryd.prog 65 [.nilFunc] := ⟨by kernel_rfl⟩
instance : ZO Tryd.prog 65 (.nilFunc) := ⟨by kernel_rfl⟩
instance : OC Tryd.prog 66 := ⟨by kernel_rfl⟩
instance : PT Tryd.prog 66 43 := ⟨by kernel_rfl⟩
instance : ZV Tryd.prog 66 [.pointer none] := ⟨by kernel_rfl⟩
instance : ZO Tryd.prog 66 (.pointer none) := ⟨by kernel_rfl⟩
instance : OC Tryd.prog 67 := ⟨by kernel_rfl⟩
instance : PT Tryd.prog 67 3 := ⟨by kernel_rfl⟩
instance : ZV Tryd.prog 67 [.pointer none] := ⟨by kernel_rfl⟩
instance : ZO Tryd.prog 67 (.pointer none) := ⟨by kernel_rfl⟩
instance : OC Tryd.prog 68 := ⟨by kernel_rfl⟩
instance : PT Tryd.prog 68 38 := ⟨by kernel_rfl⟩
instance : ZV Tryd.prog 68 [.pointer none] := ⟨by kernel_rfl⟩
instance : ZO Tryd.prog 68 (.pointer none) := ⟨by kernel_rfl⟩
instance : FO Tryd.prog 69 0 0 := ⟨by kernel_rfl⟩
instance : FV Tryd.prog 69 0 0 67 := ⟨by kernel_rfl⟩
instance : FO Tryd.prog 69 1 1 := ⟨by kernel_rfl⟩
instance : FV Tryd.prog 69 1 1 68 := ⟨by kernel_rfl⟩
instance : BT Tryd.prog 69 := ⟨by kernel_rfl⟩
instance : AG Tryd.prog 69 2 := ⟨by kernel_rfl⟩
instance : ZV Tryd.prog 69 [.pointer none, .pointer none] := ⟨by kernel_rfl⟩
instance : ZO Tryd.prog 69 (.agg (List.toArray [.pointer none, .pointer none])) := ⟨by kernel_rfl⟩
instance : FO Tryd.prog 70 0 0 := ⟨by kernel_rfl⟩
instance : FV Tryd.prog 70 0 0 67 := ⟨by kernel_rfl⟩
instance : FO Tryd.prog 70 1 1 := ⟨by kernel_rfl⟩
instance : FV Tryd.prog 70 1 1 68 := ⟨by kernel_rfl⟩
instance : BT Tryd.prog 70 := ⟨by kernel_rfl⟩
instance : AG Tryd.prog 70 2 := ⟨by kernel_rfl⟩
instance : ZV Tryd.prog 70 [.pointer none, .pointer none] := ⟨by kernel_rfl⟩
instance : ZO Tryd.prog 70 (.agg (List.toArray [.pointer none, .pointer none])) := ⟨by kernel_rfl⟩
instance : OC Tryd.prog 71 := ⟨by kernel_rfl⟩
instance : ZV Tryd.prog 71 [.nilFunc] := ⟨by kernel_rfl⟩
instance : ZO Tryd.prog 71 (.nilFunc) := ⟨by kernel_rfl⟩
instance : ST Tryd.prog 72 3 1 8 := ⟨by kernel_rfl⟩
instance : OC Tryd.prog 72 := ⟨by kernel_rfl⟩
instance : ZV Tryd.prog 72 [.slice none 0 0] := ⟨by kernel_rfl⟩
instance : ZO Tryd.prog 72 (.slice none 0 0) := ⟨by kernel_rfl⟩
instance : ST Tryd.prog 73 38 1 8 := ⟨by kernel_rfl⟩
instance : OC Tryd.prog 73 := ⟨by kernel_rfl⟩
instance : ZV Tryd.prog 73 [.slice none 0 0] := ⟨by kernel_rfl⟩
instance : ZO Tryd.prog 73 (.slice none 0 0) := ⟨by kernel_rfl⟩
instance : OC Tryd.prog 75 := ⟨by kernel_rfl⟩
instance : ZV Tryd.prog 75 [.nilFunc] := ⟨by kernel_rfl⟩
instance : ZO Tryd.prog 75 (.nilFunc) := ⟨by kernel_rfl⟩
instance : OC Tryd.prog 76 := ⟨by kernel_rfl⟩
instance : ZV Tryd.prog 76 [.nilFunc] := ⟨by kernel_rfl⟩
instance : ZO Tryd.prog 76 (.nilFunc) := ⟨by kernel_rfl⟩
instance : OC Tryd.prog 77 := ⟨by kernel_rfl⟩
instance : ZV Tryd.prog 77 [.nilFunc] := ⟨by kernel_rfl⟩
instance : ZO Tryd.prog 77 (.nilFunc) := ⟨by kernel_rfl⟩
instance : OC Tryd.prog 78 := ⟨by kernel_rfl⟩
instance : ZV Tryd.prog 78 [.nilFunc] := ⟨by kernel_rfl⟩
instance : ZO Tryd.prog 78 (.nilFunc) := ⟨by kernel_rfl⟩
instance : OC Tryd.prog 79 := ⟨by kernel_rfl⟩
instance : ZV Tryd.prog 79 [.nilFunc] := ⟨by kernel_rfl⟩
instance : ZO Tryd.prog 79 (.nilFunc) := ⟨by kernel_rfl⟩
instance : OC Tryd.prog 81 := ⟨by kernel_rfl⟩
instance : ZV Tryd.prog 81 [.nilFunc] := ⟨by kernel_rfl⟩
instance : ZO Tryd.prog 81 (.nilFunc) := ⟨by kernel_rfl⟩
instance : OC Tryd.prog 83 := ⟨by kernel_rfl⟩
instance : ZV Tryd.prog 83 [.nilFunc] := ⟨by kernel_rfl⟩
instance : ZO Tryd.prog 83 (.nilFunc) := ⟨by kernel_rfl⟩
instance : OC Tryd.prog 85 := ⟨by kernel_rfl⟩
instance : ZV Tryd.prog 85 [.nilFunc] := ⟨by kernel_rfl⟩
instance : ZO Tryd.prog 85 (.nilFunc) := ⟨by kernel_rfl⟩
instance : OC Tryd.prog 86 := ⟨by kernel_rfl⟩
instance : PT Tryd.prog 86 5 := ⟨by kernel_rfl⟩
instance : ZV Tryd.prog 86 [.pointer none] := ⟨by kernel_rfl⟩
instance : ZO Tryd.prog 86 (.pointer none) := ⟨by kernel_rfl⟩
instance : OC Tryd.prog 87 := ⟨by kernel_rfl⟩
instance : ZV Tryd.prog 87 [.nilFunc] := ⟨by kernel_rfl⟩
instance : ZO Tryd.prog 87 (.nilFunc) := ⟨by kernel_rfl⟩
instance : OC Tryd.prog 88 := ⟨by kernel_rfl⟩
instance : ZV Tryd.prog 88 [.nilFunc] := ⟨by kernel_rfl⟩
instance : ZO Tryd.prog 88 (.nilFunc) := ⟨by kernel_rfl⟩
instance : OC Tryd.prog 90 := ⟨by kernel_rfl⟩
instance : ZV Tryd.prog 90 [.nilFunc] := ⟨by kernel_rfl⟩
instance : ZO Tryd.prog 90 (.nilFunc) := ⟨by kernel_rfl⟩
instance : OC Tryd.prog 92 := ⟨by kernel_rfl⟩
instance : ZV Tryd.prog 92 [.nilFunc] := ⟨by kernel_rfl⟩
instance : ZO Tryd.prog 92 (.nilFunc) := ⟨by kernel_rfl⟩
instance : OC Tryd.prog 93 := ⟨by kernel_rfl⟩
instance : ZV Tryd.prog 93 [.nilFunc] := ⟨by kernel_rfl⟩
instance : ZO Tryd.prog 93 (.nilFunc) := ⟨by kernel_rfl⟩
instance : OC Tryd.prog 94 := ⟨by kernel_rfl⟩
instance : ZV Tryd.prog 94 [.pointer none] := ⟨by kernel_rfl⟩
instance : ZO Tryd.prog 94 (.pointer none) := ⟨by kernel_rfl⟩
instance : OC Tryd.prog 95 := ⟨by kernel_rfl⟩
instance : ZV Tryd.prog 95 [.nilFunc] := ⟨by kernel_rfl⟩
instance : ZO Tryd.prog 95 (.nilFunc) := ⟨by kernel_rfl⟩
instance : OC Tryd.prog 96 := ⟨by kernel_rfl⟩
instance : ZV Tryd.prog 96 [.nilFunc] := ⟨by kernel_rfl⟩
instance : ZO Tryd.prog 96 (.nilFunc) := ⟨by kernel_rfl⟩
instance : AT Tryd.prog 97 24 5 1 := ⟨by kernel_rfl⟩
instance : BA Tryd.prog 97 := ⟨by kernel_rfl⟩
instance : AG Tryd.prog 97 24 := ⟨by kernel_rfl⟩
instance : ZV Tryd.prog 97 [.int .u8 0, .int .u8 0, .int .u8 0, .int .u8 0, .int .u8 0, .int .u8 0, .int .u8 0, .int .u8 0, .int .u8 0, .int .u8 0, .int .u8 0, .int .u8 0, .int .u8 0, .int .u8 0, .int .u8 0, .int .u8 0, .int .u8 0, .int .u8 0, .int .u8 0, .int .u8 0, .int .u8 0, .int .u8 0, .int .u8 0, .int .u8 0] := ⟨by kernel_rfl⟩
instance : ZO Tryd.prog 97 (.agg (List.toArray [.int .u8 0, .int .u8 0, .int .u8 0, .int .u8 0, .int .u8 0, .int .u8 0, .int .u8 0, .int .u8 0, .int .u8 0, .int .u8 0, .int .u8 0, .int .u8 0, .int .u8 0, .int .u8 0, .int .u8 0, .int .u8 0, .int .u8 0, .int .u8 0, .int .u8 0, .int .u8 0, .int .u8 0, .int .u8 0, .int .u8 0, .int .u8 0])) := ⟨by kernel_rfl⟩
instance : OC Tryd.prog 98 := ⟨by kernel_rfl⟩
instance : ZV Tryd.prog 98 [.nilFunc] := ⟨by kernel_rfl⟩
instance : ZO Tryd.prog 98 (.nilFunc) := ⟨by kernel_rfl⟩
instance : OC Tryd.prog 99 := ⟨by kernel_rfl⟩
instance : ZV Tryd.prog 99 [.nilFunc] := ⟨by kernel_rfl⟩
instance : ZO Tryd.prog 99 (.nilFunc) := ⟨by kernel_rfl⟩
instance : OC Tryd.prog 101 := ⟨by kernel_rfl⟩
instance : ZV Tryd.prog 101 [.nilFunc] := ⟨by kernel_rfl⟩
instance : ZO Tryd.prog 101 (.nilFunc) := ⟨by kernel_rfl⟩
instance : OC Tryd.prog 102 := ⟨by kernel_rfl⟩
instance : ZV Tryd.prog 102 [.nilFunc] := ⟨by kernel_rfl⟩
instance : ZO Tryd.prog 102 (.nilFunc) := ⟨by kernel_rfl⟩
instance : OC Tryd.prog 103 := ⟨by kernel_rfl⟩
instance : ZV Tryd.prog 103 [.nilFunc] := ⟨by kernel_rfl⟩
instance : ZO Tryd.prog 103 (.nilFunc) := ⟨by kernel_rfl⟩
instance : OC Tryd.prog 104 := ⟨by kernel_rfl⟩
instance : IT Tryd.prog 104 .u64 := ⟨by kernel_rfl⟩
instance : ZV Tryd.prog 104 [.int .u64 0] := ⟨by kernel_rfl⟩
instance : ZO Tryd.prog 104 (.int .u64 0) := ⟨by kernel_rfl⟩
instance : OC Tryd.prog 105 := ⟨by kernel_rfl⟩
instance : ZV Tryd.prog 105 [.nilFunc] := ⟨by kernel_rfl⟩
instance : ZO Tryd.prog 105 (.nilFunc) := ⟨by kernel_rfl⟩
instance : OC Tryd.prog 106 := ⟨by kernel_rfl⟩
instance : ZV Tryd.prog 106 [.nilFunc] := ⟨by kernel_rfl⟩
instance : ZO Tryd.prog 106 (.nilFunc) := ⟨by kernel_rfl⟩
instance : AT Tryd.prog 107 20 38 1 := ⟨by kernel_rfl⟩
instance : BA Tryd.prog 107 := ⟨by kernel_rfl⟩
instance : AG Tryd.prog 107 20 := ⟨by kernel_rfl⟩
instance : ZV Tryd.prog 107 [.int .u64 0, .int .u64 0, .int .u64 0, .int .u64 0, .int .u64 0, .int .u64 0, .int .u64 0, .int .u64 0, .int .u64 0, .int .u64 0, .int .u64 0, .int .u64 0, .int .u64 0, .int .u64 0, .int .u64 0, .int .u64 0, .int .u64 0, .int .u64 0, .int .u64 0, .int .u64 0] := ⟨by kernel_rfl⟩
instance : ZO Tryd.prog 107 (.agg (List.toArray [.int .u64 0, .int .u64 0, .int .u64 0, .int .u64 0, .int .u64 0, .int .u64 0, .int .u64 0, .int .u64 0, .int .u64 0, .int .u64 0, .int .u64 0, .int .u64 0, .int .u64 0, .int .u64 0, .int .u64 0, .int .u64 0, .int .u64 0, .int .u64 0, .int .u64 0, .int .u64 0])) := ⟨by kernel_rfl⟩
instance : OC Tryd.prog 108 := ⟨by kernel_rfl⟩
instance : IT Tryd.prog 108 .u32 := ⟨by kernel_rfl⟩
instance : ZV Tryd.prog 108 [.int .u32 0] := ⟨by kernel_rfl⟩
instance : ZO Tryd.prog 108 (.int .u32 0) := ⟨by kernel_rfl⟩
instance : AT Tryd.prog 109 65 5 1 := ⟨by kernel_rfl⟩
instance : BA Tryd.prog 109 := ⟨by kernel_rfl⟩
instance : AG Tryd.prog 109 65 := ⟨by kernel_rfl⟩
instance : ZV Tryd.prog 109 [.int .u8 0, .int .u8 0, .int .u8 0, .int .u8 0, .int .u8 0, .int .u8 0, .int .u8 0, .int .u8 0, .int .u8 0, .int .u8 0, .int .u8 0, .int .u8 0, .int .u8 0, .int .u8 0, .int .u8 0, .int .u8 0, .int .u8 0, .int .u8 0, .int .u8 0, .int .u8 0, .int .u8 0, .int .u8 0, .int .u8 0, .int .u8 0, .int .u8 0, .int .u8 0, .int .u8 0, .int .u8 0, .int .u8 0, .int .u8 0, .int .u8 0, .int .u8 0, .int .u8 0, .int .u8 0, .int .u8 0, .int .u8 0, .int .u8 0, .int .u8 0, .int .u8 0, .int .u8 0, .int .u8 0, .int .u8 0, .int .u8 0, .int .u8 0, .int .u8 0, .int .u8 0, .int .u8 0, .int .u8 0, .int .u8 0, .int .u8 0, .int .u8 0, .int .u8 0, .int .u8 0, .int .u8 0, .int .u8 0, .int .u8 0, .int .u8 0, .int .u8 0, .int .u8 0, .int .u8 0, .int .u8 0, .int .u8 0, .int .u8 0, .int .u8 0, .int .u8 0] := ⟨by kernel_rfl⟩
instance : ZO Tryd.prog 109 (.agg (List.toArray [.int .u8 0, .int .u8 0, .int .u8 0, .int .u8 0, .int .u8 0, .int .u8 0, .int .u8 0, .int .u8 0, .int .u8 0, .int .u8 0, .int .u8 0, .int .u8 0, .int .u8 0, .int .u8 0, .int .u8 0, .int .u8 0, .int .u8 0, .int .u8 0, .int .u8 0, .int .u8 0, .int .u8 0, .int .u8 0, .int .u8 0, .int .u8 0, .int .u8 0, .int .u8 0, .int .u8 0, .int .u8 0, .int .u8 0, .int .u8 0, .int .u8 0, .int .u8 0, .int .u8 0, .int .u8 0, .int .u8 0, .int .u8 0, .int .u8 0, .int .u8 0, .int .u8 0, .int .u8 0, .int .u8 0, .int .u8 0, .int .u8 0, .int .u8 0, .int .u8 0, .int .u8 0, .int .u8 0, .int .u8 0, .int .u8 0, .int .u8 0, .int .u8 0, .int .u8 0, .int .u8 0, .int .u8 0, .int .u8 0, .int .u8 0, .int .u8 0, .int .u8 0, .int .u8 0, .int .u8 0, .int .u8 0, .int .u8 0, .int .u8 0, .int .u8 0, .int .u8 0])) := ⟨by kernel_rfl⟩
instance : OC Tryd.prog 110 := ⟨by kernel_rfl⟩
instance : ZV Tryd.prog 110 [.nilFunc] := ⟨by kernel_rfl⟩
instance : ZO Tryd.prog 110 (.nilFunc) := ⟨by kernel_rfl⟩
instance : OC Tryd.prog 111 := ⟨by kernel_rfl⟩
instance : ZV Tryd.prog 111 [.nilFunc] := ⟨by kernel_rfl⟩
instance : ZO Tryd.prog 111 (.nilFunc) := ⟨by kernel_rfl⟩
instance : OC Tryd.prog 113 := ⟨by kernel_rfl⟩
instance : ZV Tryd.prog 113 [.nilFunc] := ⟨by kernel_rfl⟩
instance : ZO Tryd.prog 113 (.nilFunc) := ⟨by kernel_rfl⟩
instance : OC Tryd.prog 114 := ⟨by kernel_rfl⟩
instance : IT Tryd.prog 114 .i64 := ⟨by kernel_rfl⟩
instance : ZV Tryd.prog 114 [.int .i64 0] := ⟨by kernel_rfl⟩
instance : ZO Tryd.prog 114 (.int .i64 0) := ⟨by kernel_rfl⟩
instance : OC Tryd.prog 115 := ⟨by kernel_rfl⟩
instance : ZV Tryd.prog 115 [.nilFunc] := ⟨by kernel_rfl⟩
instance : ZO Tryd.prog 115 (.nilFunc) := ⟨by kernel_rfl⟩
instance : OC Tryd.prog 116 := ⟨by kernel_rfl⟩
instance : PT Tryd.prog 116 122 := ⟨by kernel_rfl⟩
instance : ZV Tryd.prog 116 [.pointer none] := ⟨by kernel_rfl⟩
instance : ZO Tryd.prog 116 (.pointer none) := ⟨by kernel_rfl⟩
instance : OC Tryd.prog 117 := ⟨by kernel_rfl⟩
instance : ZV Tryd.prog 117 [.nilFunc] := ⟨by kernel_rfl⟩
instance : ZO Tryd.prog 117 (.nilFunc) := ⟨by kernel_rfl⟩
instance : OC Tryd.prog 118 := ⟨by kernel_rfl⟩
instance : ZV Tryd.prog 118 [.nilFunc] := ⟨by kernel_rfl⟩
instance : ZO Tryd.prog 118 (.nilFunc) := ⟨by kernel_rfl⟩
instance : OC Tryd.prog 119 := ⟨by kernel_rfl⟩
instance : ZV Tryd.prog 119 [.nilFunc] := ⟨by kernel_rfl⟩
instance : ZO Tryd.prog 119 (.nilFunc) := ⟨by kernel_rfl⟩
instance : OC Tryd.prog 120 := ⟨by kernel_rfl⟩
instance : ZV Tryd.prog 120 [.nilFunc] := ⟨by kernel_rfl⟩
instance : ZO Tryd.prog 120 (.nilFunc) := ⟨by kernel_rfl⟩
instance : FO Tryd.prog 121 0 0 := ⟨by kernel_rfl⟩
instance : FV Tryd.prog 121 0 0 9 := ⟨by kernel_rfl⟩
instance : FO Tryd.prog 121 1 1 := ⟨by kernel_rfl⟩
instance : FV Tryd.prog 121 1 1 9 := ⟨by kernel_rfl⟩
instance : FO Tryd.prog 121 2 2 := ⟨by kernel_rfl⟩
instance : FV Tryd.prog 121 2 2 59 := ⟨by kernel_rfl⟩
instance : BT Tryd.prog 121 := ⟨by kernel_rfl⟩
instance : AG Tryd.prog 121 3 := ⟨by kernel_rfl⟩
instance : ZV Tryd.prog 121 [.string ⟨#[]⟩, .string ⟨#[]⟩, .nilIface] := ⟨by kernel_rfl⟩
instance : ZO Tryd.prog 121 (.agg (List.toArray [.string ⟨#[]⟩, .string ⟨#[]⟩, .nilIface])) := ⟨by kernel_rfl⟩
instance : FO Tryd.prog 122 0 0 := ⟨by kernel_rfl⟩
instance : FV Tryd.prog 122 0 0 9 := ⟨by kernel_rfl⟩
instance : FO Tryd.prog 122 1 1 := ⟨by kernel_rfl⟩
instance : FV Tryd.prog 122 1 1 9 := ⟨by kernel_rfl⟩
instance : FO Tryd.prog 122 2 2 := ⟨by kernel_rfl⟩
instance : FV Tryd.prog 122 2 2 59 := ⟨by kernel_rfl⟩
instance : BT Tryd.prog 122 := ⟨by kernel_rfl⟩
instance : AG Tryd.prog 122 3 := ⟨by kernel_rfl⟩
instance : ZV Tryd.prog 122 [.string ⟨#[]⟩, .string ⟨#[]⟩, .nilIface] := ⟨by kernel_rfl⟩
instance : ZO Tryd.prog 122 (.agg (List.toArray [.string ⟨#[]⟩, .string ⟨#[]⟩, .nilIface])) := ⟨by kernel_rfl⟩
instance : OC Tryd.prog 123 := ⟨by kernel_rfl⟩
instance : ZV Tryd.prog 123 [.nilFunc] := ⟨by kernel_rfl⟩
instance : ZO Tryd.prog 123 (.nilFunc) := ⟨by kernel_rfl⟩
instance : AT Tryd.prog 124 32 5 1 := ⟨by kernel_rfl⟩
instance : BA Tryd.prog 124 := ⟨by kernel_rfl⟩
instance : AG Tryd.prog 124 32 := ⟨by kernel_rfl⟩
instance : ZV Tryd.prog 124 [.int .u8 0, .int .u8 0, .int .u8 0, .int .u8 0, .int .u8 0, .int .u8 0, .int .u8 0, .int .u8 0, .int .u8 0, .int .u8 0, .int .u8 0, .int .u8 0, .int .u8 0, .int .u8 0, .int .u8 0, .int .u8 0, .int .u8 0, .int .u8 0, .int .u8 0, .int .u8 0, .int .u8 0, .int .u8 0, .int .u8 0, .int .u8 0, .int .u8 0, .int .u8 0, .int .u8 0, .int .u8 0, .int .u8 0, .int .u8 0, .int .u8 0, .int .u8 0] := ⟨by kernel_rfl⟩
instance : ZO Tryd.prog 124 (.agg (List.toArray [.int .u8 0, .int .u8 0, .int .u8 0, .int .u8 0, .int .u8 0, .int .u8 0, .int .u8 0, .int .u8 0, .int .u8 0, .int .u8 0, .int .u8 0, .int .u8 0, .int .u8 0, .int .u8 0, .int .u8 0, .int .u8 0, .int .u8 0, .int .u8 0, .int .u8 0, .int .u8 0, .int .u8 0, .int .u8 0, .int .u8 0, .int .u8 0, .int .u8 0, .int .u8 0, .int .u8 0, .int .u8 0, .int .u8 0, .int .u8 0, .int .u8 0, .int .u8 0])) := ⟨by kernel_rfl⟩
instance : AT Tryd.prog 125 64 5 1 := ⟨by kernel_rfl⟩
instance : BA Tryd.prog 125 := ⟨by kernel_rfl⟩
instance : AG Tryd.prog 125 64 := ⟨by kernel_rfl⟩
instance : ZV Tryd.prog 125 [.int .u8 0, .int .u8 0, .int .u8 0, .int .u8 0, .int .u8 0, .int .u8 0, .int .u8 0, .int .u8 0, .int .u8 0, .int .u8 0, .int .u8 0, .int .u8 0, .int .u8 0, .int .u8 0, .int .u8 0, .int .u8 0, .int .u8 0, .int .u8 0, .int .u8 0, .int .u8 0, .int .u8 0, .int .u8 0, .int .u8 0, .int .u8 0, .int .u8 0, .int .u8 0, .int .u8 0, .int .u8 0, .int .u8 0, .int .u8 0, .int .u8 0, .int .u8 0, .int .u8 0, .int .u8 0, .int .u8 0, .int .u8 0, .int .u8 0, .int .u8 0, .int .u8 0, .int .u8 0, .int .u8 0, .int .u8 0, .int .u8 0, .int .u8 0, .int .u8 0, .int .u8 0, .int .u8 0, .int .u8 0, .int .u8 0, .int .u8 0, .int .u8 0, .int .u8 0, .int .u8 0, .int .u8 0, .int .u8 0, .int .u8 0, .int .u8 0, .int .u8 0, .int .u8 0, .int .u8 0, .int .u8 0, .int .u8 0, .int .u8 0, .int .u8 0] := ⟨by kernel_rfl⟩
instance : ZO Tryd.prog 125 (.agg (List.toArray [.int .u8 0, .int .u8 0, .int .u8 0, .int .u8 0, .int .u8 0, .int .u8 0, .int .u8 0, .int .u8 0, .int .u8 0, .int .u8 0, .int .u8 0, .int .u8 0, .int .u8 0, .int .u8 0, .int .u8 0, .int .u8 0, .int .u8 0, .int .u8 0, .int .u8 0, .int .u8 0, .int .u8 0, .int .u8 0, .int .u8 0, .int .u8 0, .int .u8 0, .int .u8 0, .int .u8 0, .int .u8 0, .int .u8 0, .int .u8 0, .int .u8 0, .int .u8 0, .int .u8 0, .int .u8 0, .int .u8 0, .int .u8 0, .int .u8 0, .int .u8 0, .int .u8 0, .int .u8 0, .int .u8 0, .int .u8 0, .int .u8 0, .int .u8 0, .int .u8 0, .int .u8 0, .int .u8 0, .int .u8 0, .int .u8 0, .int .u8 0, .int .u8 0, .int .u8 0, .int .u8 0, .int .u8 0, .int .u8 0, .int .u8 0, .int .u8 0, .int .u8 0, .int .u8 0, .int .u8 0, .int .u8 0, .int .u8 0, .int .u8 0, .int .u8 0])) := ⟨by kernel_rfl⟩
instance : OC Tryd.prog 126 := ⟨by kernel_rfl⟩
instance : PT Tryd.prog 126 128 := ⟨by kernel_rfl⟩
instance : ZV Tryd.prog 126 [.pointer none] := ⟨by kernel_rfl⟩
instance : ZO Tryd.prog 126 (.pointer none) := ⟨by kernel_rfl⟩
instance : FO Tryd.prog 127 0 0 := ⟨by kernel_rfl⟩
instance : FV Tryd.prog 127 0 0 9 := ⟨by kernel_rfl⟩
instance : BT Tryd.prog 127 := ⟨by kernel_rfl⟩
instance : AG Tryd.prog 127 1 := ⟨by kernel_rfl⟩
instance : ZV Tryd.prog 127 [.string ⟨#[]⟩] := ⟨by kernel_rfl⟩
instance : ZO Tryd.prog 127 (.agg (List.toArray [.string ⟨#[]⟩])) := ⟨by kernel_rfl⟩
instance : FO Tryd.prog 128 0 0 := ⟨by kernel_rfl⟩
instance : FV Tryd.prog 128 0 0 9 := ⟨by kernel_rfl⟩
instance : BT Tryd.prog 128 := ⟨by kernel_rfl⟩
instance : AG Tryd.prog 128 1 := ⟨by kernel_rfl⟩
instance : ZV Tryd.prog 128 [.string ⟨#[]⟩] := ⟨by kernel_rfl⟩
instance : ZO Tryd.prog 128 (.agg (List.toArray [.string ⟨#[]⟩])) := ⟨by kernel_rfl⟩
instance : OC Tryd.prog 129 := ⟨by kernel_rfl⟩
instance : ZV Tryd.prog 129 [.nilFunc] := ⟨by kernel_rfl⟩
instance : ZO Tryd.prog 129 (.nilFunc) := ⟨by kernel_rfl⟩
instance : OC Tryd.prog 137 := ⟨by kernel_rfl⟩
instance : ZV Tryd.prog 137 [.nilFunc] := ⟨by kernel_rfl⟩
instance : ZO Tryd.prog 137 (.nilFunc) := ⟨by kernel_rfl⟩
instance : EN Tryd.prog 3 := ⟨Tryd.call3⟩
instance : EN Tryd.prog 4 := ⟨Tryd.call4⟩
instance : EN Tryd.prog 5 := ⟨Tryd.call5⟩
instance : EN Tryd.prog 6 := ⟨Tryd.call6⟩
instance : EN Tryd.prog 7 := ⟨Tryd.call7⟩
instance : EN Tryd.prog 8 := ⟨Tryd.call8⟩
instance : EN Tryd.prog 9 := ⟨Tryd.call9⟩
instance : EN Tryd.prog 10 := ⟨Tryd.call10⟩
instance : EN Tryd.prog 11 := ⟨Tryd.call11⟩
instance : EN Tryd.prog 12 := ⟨Tryd.call12⟩
instance : EN Tryd.prog 13 := ⟨Tryd.call13⟩
instance : EN Tryd.prog 14 := ⟨Tryd.call14⟩
instance : EN Tryd.prog 15 := ⟨Tryd.call15⟩
instance : EN Tryd.prog 16 := ⟨Tryd.call16⟩
instance : EN Tryd.prog 17 := ⟨Tryd.call17⟩
instance : EN Tryd.prog 18 := ⟨Tryd.call18⟩
instance : EN Tryd.prog 19 := ⟨Tryd.call19⟩
instance : EN Tryd.prog 20 := ⟨Tryd.call20⟩
instance : EN Tryd.prog 21 := ⟨Tryd.call21⟩
instance : EN Tryd.prog 22 := ⟨Tryd.call22⟩
instance : EN Tryd.prog 23 := ⟨Tryd.call23⟩
instance : EN Tryd.prog 24 := ⟨Tryd.call24⟩
instance : EN Tryd.prog 25 := ⟨Tryd.call25⟩
instance : EN Tryd.prog 26 := ⟨Tryd.call26⟩
instance : EN Tryd.prog 27 := ⟨Tryd.call27⟩
instance : EN Tryd.prog 28 := ⟨Tryd.call28⟩
instance : EN Tryd.prog 29 := ⟨Tryd.call29⟩
instance : EN Tryd.prog 30 := ⟨Tryd.call30⟩
instance : EN Tryd.prog 31 := ⟨Tryd.call31⟩
instance : EN Tryd.prog 32 := ⟨Tryd.call32⟩
instance : EN Tryd.prog 33 := ⟨Tryd.call33⟩
instance : EN Tryd.prog 34 := ⟨Tryd.call34⟩
instance : EN Tryd.prog 35 := ⟨Tryd.call35⟩
instance : EN Tryd.prog 36 := ⟨Tryd.call36⟩
instance : EN Tryd.prog 37 := ⟨Tryd.call37⟩
instance : EN Tryd.prog 38 := ⟨Tryd.call38⟩
instance : EN Tryd.prog 39 := ⟨Tryd.call39⟩
instance : EN Tryd.prog 40 := ⟨Tryd.call40⟩
instance : EN Tryd.prog 42 := ⟨Tryd.call42⟩
instance : EN Tryd.prog 43 := ⟨Tryd.call43⟩
instance : EN Tryd.prog 44 := ⟨Tryd.call44⟩
instance : EN Tryd.prog 45 := ⟨Tryd.call45⟩
instance : EN Tryd.prog 46 := ⟨Tryd.call46⟩
instance : EN Tryd.prog 48 := ⟨Tryd.call48⟩
instance : EN Tryd.prog 49 := ⟨Tryd.call49⟩
instance : EN Tryd.prog 50 := ⟨Tryd.call50⟩
instance : EN Tryd.prog 51 := ⟨Tryd.call51⟩
instance : EN Tryd.prog 52 := ⟨Tryd.call52⟩
instance : EN Tryd.prog 53 := ⟨Tryd.call53⟩
instance : EN Tryd.prog 54 := ⟨Tryd.call54⟩
instance : EN Tryd.prog 55 := ⟨Tryd.call55⟩
instance : EN Tryd.prog 56 := ⟨Tryd.call56⟩
instance : EN Tryd.prog 58 := ⟨Tryd.call58⟩
instance : EN Tryd.prog 59 := ⟨Tryd.call59⟩
instance : EN Tryd.prog 60 := ⟨Tryd.call60⟩
instance : EN Tryd.prog 61 := ⟨Tryd.call61⟩
instance : EN Tryd.prog 62 := ⟨Tryd.call62⟩
instance : EN Tryd.prog 63 := ⟨Tryd.call63⟩
instance : EN Tryd.prog 64 := ⟨Tryd.call64⟩
instance : EN Tryd.prog 65 := ⟨Tryd.call65⟩
instance : EN Tryd.prog 66 := ⟨Tryd.call66⟩
instance : EN Tryd.prog 67 := ⟨Tryd.call67⟩
instance : EN Tryd.prog 68 := ⟨Tryd.call68⟩
instance : EN Tryd.prog 69 := ⟨Tryd.call69⟩
instance : EN Tryd.prog 70 := ⟨Tryd.call70⟩
instance : EN Tryd.prog 71 := ⟨Tryd.call71⟩
instance : EN Tryd.prog 99 := ⟨Tryd.call99⟩
end Go.Proofs.YtffmibmefmbdjaaDoor

/- The steps' laws with their usual proofs as default arguments. Laws of my own, no program's. -/
set_option linter.unusedVariables false
set_option linter.unusedSimpArgs false
namespace Go.Proofs.YtffmibmefmbdjaaDoor
open Go.RowKit

section
variable {P : Program} {ro : Option Nat} {N : Nat} {E : World} {ops : Array Oper} {Q : Exit → Act → World → Prop} {rest : List Oper} {o : Oper} {fr fr' : Fr} {ds : List Deferred} {l l' : List Chunk} {K : Value → List Chunk → Prop} {v : Value} {d : Nat}
theorem ozq (hk : OpsS P ro N E ops Q rest ((d, v) :: fr) ds l) (h : OpQ P ro N fr l o v := by first | (show OpQ _ _ _ _ _ ⟨_, .move _, _, _, _, _⟩ _; exact q_move rfl) | (show OpQ _ _ _ _ _ ⟨_, .load _ _, _, _, _, _⟩ _; first | exact q_load rfl (by ((repeat (first | with_reducible apply List.mem_cons_self | with_reducible apply List.mem_cons_of_mem)); try with_reducible assumption)) (by (first | with_reducible assumption | ((with_reducible apply cell_get); (repeat (first | with_reducible apply LGet.zero | with_reducible apply LGet.succ))))) | exact q_loadL rfl (by ((repeat (first | with_reducible apply List.mem_cons_self | with_reducible apply List.mem_cons_of_mem)); try with_reducible assumption)) (by (repeat (first | with_reducible apply LSub.done | with_reducible apply LSub.take | with_reducible apply LSub.drop)))) | (show OpQ _ _ _ _ _ ⟨_, .fieldAddr _ _ _, _, _, _, _⟩ _; exact q_fieldAddr rfl (by (first | with_reducible exact Nat.zero_add _ | with_reducible exact Nat.add_zero _ | exact rfl))) | (show OpQ _ _ _ _ _ ⟨_, .nilCheck _, _, _, _, _⟩ _; first | exact q_nilCheck rfl | exact q_nilCheck_f rfl | exact q_nilCheck_y rfl) | (show OpQ _ _ _ _ _ ⟨_, .assign _, _, _, _, _⟩ _; exact q_assign rfl) | (show OpQ _ _ _ _ _ ⟨_, .indexAddr _ _ _, _, _, _, _⟩ _; first | exact q_indexArrN rfl rfl (by omega) (by (first | with_reducible exact Nat.zero_add _ | with_reducible exact Nat.add_zero _ | exact rfl)) | exact q_indexSlN rfl rfl (by omega) (by (first | with_reducible exact Nat.zero_add _ | with_reducible exact Nat.add_zero _ | exact rfl)) | exact q_indexArr rfl rfl (by omega) | exact q_indexSl rfl rfl (by omega)) | (show OpQ _ _ _ _ _ ⟨_, .binOp .eql _ _ _ _, _, _, _, _⟩ _; first | exact q_eql rfl rfl | exact q_eqnil rfl rfl | exact q_eqb rfl rfl Tryd.underlying4 | exact q_eqnilsl rfl rfl | exact q_eqS rfl rfl) | (show OpQ _ _ _ _ _ ⟨_, .binOp .add _ _ _ _, _, _, _, _⟩ _; first | exact q_add rfl rfl (rng_i64 (by omega) (by omega)) | exact q_addS rfl rfl (by first | omega | (simp only [List.length_append, List.length_cons, List.length_nil]; omega))) | (show OpQ _ _ _ _ _ ⟨_, .binOp .lss _ _ _ _, _, _, _, _⟩ _; exact q_lss rfl rfl) | (show OpQ _ _ _ _ _ ⟨_, .pick _ _ _, _, _, _, _⟩ _; first | exact q_pick_t rfl rfl | exact q_pick_f rfl rfl) | (show OpQ _ _ _ _ _ ⟨_, .extract _ _, _, _, _, _⟩ _; exact q_extract rfl rfl) | (show OpQ _ _ _ _ _ ⟨_, .binOp .neq _ _ _ _, _, _, _, _⟩ _; first | exact q_neq rfl rfl | exact q_nenil rfl rfl | exact q_neb rfl rfl Tryd.underlying4 | exact q_nenilsl rfl rfl | exact q_neS rfl rfl) | (show OpQ _ _ _ _ _ ⟨_, .binOp .geq _ _ _ _, _, _, _, _⟩ _; exact q_geq rfl rfl) | (show OpQ _ _ _ _ _ ⟨_, .binOp .gtr _ _ _ _, _, _, _, _⟩ _; exact q_gtr rfl rfl) | (show OpQ _ _ _ _ _ ⟨_, .binOp .leq _ _ _ _, _, _, _, _⟩ _; exact q_leq rfl rfl) | (show OpQ _ _ _ _ _ ⟨_, .unOp .not _ _, _, _, _, _⟩ _; exact q_not rfl) | (show OpQ _ _ _ _ _ ⟨_, .binOp .sub _ _ _ _, _, _, _, _⟩ _; exact q_sub rfl rfl (rng_i64 (by omega) (by omega))) | (show OpQ _ _ _ _ _ ⟨_, .call { callee := .builtin .len, args := _, argTypes := _ }, _, _, _, _⟩ _; first | exact q_len_sl rfl | exact q_len_map rfl (by ((repeat (first | with_reducible apply List.mem_cons_self | with_reducible apply List.mem_cons_of_mem)); try with_reducible assumption)) | exact q_lenS rfl) | (show OpQ _ _ _ _ _ ⟨_, .field _ _ _, _, _, _, _⟩ _; first | exact q_field rfl (by (first | with_reducible assumption | ((with_reducible apply cell_get); (repeat (first | with_reducible apply LGet.zero | with_reducible apply LGet.succ))))) | exact q_fieldL rfl (by (repeat (first | with_reducible apply LSub.done | with_reducible apply LSub.take | with_reducible apply LSub.drop)))) | (show OpQ _ _ _ _ _ ⟨_, .build _ _, _, _, _, _⟩ _; exact q_build rfl (by (repeat (first | apply BuildS.nil | (apply BuildS.one; (· infer_instance); (· infer_instance); (· rfl); (· (repeat (first | with_reducible apply LSet.zero | with_reducible apply LSet.succ)))) | (apply BuildS.agg; (· infer_instance); (· infer_instance); (· rfl); (· (repeat (first | with_reducible apply LSetA.done | with_reducible apply LSetA.put | with_reducible apply LSetA.skip)))))))) | (show OpQ _ _ _ _ _ ⟨_, .makeFunc _ _ _, _, _, _, _⟩ _; first | exact q_makeFunc rfl | exact q_makeFunc0) | (show OpQ _ _ _ _ _ ⟨_, .convert _ _ _, _, _, _, _⟩ _; exact q_conv rfl (by exact ⟨by omega, by omega⟩)) | (show OpQ _ _ _ _ _ ⟨_, .binOp .mul _ _ _ _, _, _, _, _⟩ _; exact q_mul rfl rfl (rng_i64 (by omega) (by omega))) | (show OpQ _ _ _ _ _ ⟨_, .binOp .quo _ _ _ _, _, _, _, _⟩ _; exact q_quo rfl rfl (by omega) (by omega) (rng_i64 (by omega) (by omega))) | (show OpQ _ _ _ _ _ ⟨_, .binOp .rem _ _ _ _, _, _, _, _⟩ _; exact q_rem rfl rfl (by omega) (by omega)) | (show OpQ _ _ _ _ _ ⟨_, .lookup _ _ _ _, _, _, _, _⟩ _; first | exact q_lookup rfl rfl (by ((repeat (first | with_reducible apply List.mem_cons_self | with_reducible apply List.mem_cons_of_mem)); try with_reducible assumption)) | exact q_lookup2 rfl rfl (by ((repeat (first | with_reducible apply List.mem_cons_self | with_reducible apply List.mem_cons_of_mem)); try with_reducible assumption))) | (show OpQ _ _ _ _ _ ⟨_, .index _ _ _, _, _, _, _⟩ _; exact q_idxS rfl rfl (by omega)) | fail) (hw : gst ops fr o.guard = some true := by rfl) (hd : o.dst = some d := by rfl) (hb : Nat.blt d N = true := by rfl) : OpsS P ro N E ops Q (o :: rest) fr ds l := t_h h hw hd hb hk
theorem ozs (hk : OpsS P ro N E ops Q rest ((d, undef) :: fr) ds l) (hw : gst ops fr o.guard = some false := by rfl) (hd : o.dst = some d := by rfl) (hb : Nat.blt d N = true := by rfl) : OpsS P ro N E ops Q (o :: rest) fr ds l := t_hs hw hd hb hk
theorem ozs0 (hk : OpsS P ro N E ops Q rest fr ds l) (hw : gst ops fr o.guard = some false := by rfl) (hd : o.dst = none := by rfl) : OpsS P ro N E ops Q (o :: rest) fr ds l := t_hs0 hw hd hk
theorem ozt {j t : Nat} {w : Bool} {oj : Oper} {p : Prop} {ip : Decidable p} (h : OpsS P ro N E ops Q (o :: rest) ((t, .bool true) :: fr) ds l) (hw : o.guard = some (j, w) := by rfl) (hj : ops[j]? = some oj := by rfl) (hjd : oj.dst = some t := by rfl) (hc : flook fr t = some (.bool (@decide p ip)) := by rfl) (hp : p := by omega) : OpsS P ro N E ops Q (o :: rest) fr ds l := s_gif_t hw hj hjd hc hp h
theorem ozf {j t : Nat} {w : Bool} {oj : Oper} {p : Prop} {ip : Decidable p} (h : OpsS P ro N E ops Q (o :: rest) ((t, .bool false) :: fr) ds l) (hw : o.guard = some (j, w) := by rfl) (hj : ops[j]? = some oj := by rfl) (hjd : oj.dst = some t := by rfl) (hc : flook fr t = some (.bool (@decide p ip)) := by rfl) (hp : ¬ p := by omega) : OpsS P ro N E ops Q (o :: rest) fr ds l := s_gif_f hw hj hjd hc hp h
theorem ozn {l2 : List Chunk} (hk : OpsS P ro N E ops Q rest fr ds l2) (h : OpE P ro N fr l o (fun v' l' => v' = undef ∧ l' = l2) := by first | (apply e_storeL; (· rfl); (· rfl); (· first | rfl | assumption); (· ((repeat (first | with_reducible apply List.mem_cons_self | with_reducible apply List.mem_cons_of_mem)); try with_reducible assumption)); (· (repeat (first | with_reducible apply LSet.zero | with_reducible apply LSet.succ))); (· (repeat (first | apply Upd.here | apply Upd.there)))) | (apply e_storeLA; (· rfl); (· rfl); (· rfl); (· simp [Value.oneCell']); (· ((repeat (first | with_reducible apply List.mem_cons_self | with_reducible apply List.mem_cons_of_mem)); try with_reducible assumption)); (· (repeat (first | with_reducible apply LSetA.done | with_reducible apply LSetA.put | with_reducible apply LSetA.skip))); (· (repeat (first | apply Upd.here | apply Upd.there)))) | fail) (hw : o.guard = none := by rfl) (hd : o.dst = none := by rfl) : OpsS P ro N E ops Q (o :: rest) fr ds l := t_n h hw hd fun v l' h => by rw [h.2]; exact hk
variable {R : List Chunk} {tbl : List (List Nat)} {sw : Sw} {sp : Spec} {pl : List PlanOp} {i : Nat} {k : Bool}
theorem pzq (hk : PlanS P ro N E ops Q R tbl sw sp pl ((d, v) :: fr) ds l) (h : OpQ P ro N fr R o v := by first | (show OpQ _ _ _ _ _ ⟨_, .move _, _, _, _, _⟩ _; exact q_move rfl) | (show OpQ _ _ _ _ _ ⟨_, .load _ _, _, _, _, _⟩ _; first | exact q_load rfl (by ((repeat (first | with_reducible apply List.mem_cons_self | with_reducible apply List.mem_cons_of_mem)); try with_reducible assumption)) (by (first | with_reducible assumption | ((with_reducible apply cell_get); (repeat (first | with_reducible apply LGet.zero | with_reducible apply LGet.succ))))) | exact q_loadL rfl (by ((repeat (first | with_reducible apply List.mem_cons_self | with_reducible apply List.mem_cons_of_mem)); try with_reducible assumption)) (by (repeat (first | with_reducible apply LSub.done | with_reducible apply LSub.take | with_reducible apply LSub.drop)))) | (show OpQ _ _ _ _ _ ⟨_, .fieldAddr _ _ _, _, _, _, _⟩ _; exact q_fieldAddr rfl (by (first | with_reducible exact Nat.zero_add _ | with_reducible exact Nat.add_zero _ | exact rfl))) | (show OpQ _ _ _ _ _ ⟨_, .nilCheck _, _, _, _, _⟩ _; first | exact q_nilCheck rfl | exact q_nilCheck_f rfl | exact q_nilCheck_y rfl) | (show OpQ _ _ _ _ _ ⟨_, .assign _, _, _, _, _⟩ _; exact q_assign rfl) | (show OpQ _ _ _ _ _ ⟨_, .indexAddr _ _ _, _, _, _, _⟩ _; first | exact q_indexArrN rfl rfl (by omega) (by (first | with_reducible exact Nat.zero_add _ | with_reducible exact Nat.add_zero _ | exact rfl)) | exact q_indexSlN rfl rfl (by omega) (by (first | with_reducible exact Nat.zero_add _ | with_reducible exact Nat.add_zero _ | exact rfl)) | exact q_indexArr rfl rfl (by omega) | exact q_indexSl rfl rfl (by omega)) | (show OpQ _ _ _ _ _ ⟨_, .binOp .eql _ _ _ _, _, _, _, _⟩ _; first | exact q_eql rfl rfl | exact q_eqnil rfl rfl | exact q_eqb rfl rfl Tryd.underlying4 | exact q_eqnilsl rfl rfl | exact q_eqS rfl rfl) | (show OpQ _ _ _ _ _ ⟨_, .binOp .add _ _ _ _, _, _, _, _⟩ _; first | exact q_add rfl rfl (rng_i64 (by omega) (by omega)) | exact q_addS rfl rfl (by first | omega | (simp only [List.length_append, List.length_cons, List.length_nil]; omega))) | (show OpQ _ _ _ _ _ ⟨_, .binOp .lss _ _ _ _, _, _, _, _⟩ _; exact q_lss rfl rfl) | (show OpQ _ _ _ _ _ ⟨_, .pick _ _ _, _, _, _, _⟩ _; first | exact q_pick_t rfl rfl | exact q_pick_f rfl rfl) | (show OpQ _ _ _ _ _ ⟨_, .extract _ _, _, _, _, _⟩ _; exact q_extract rfl rfl) | (show OpQ _ _ _ _ _ ⟨_, .binOp .neq _ _ _ _, _, _, _, _⟩ _; first | exact q_neq rfl rfl | exact q_nenil rfl rfl | exact q_neb rfl rfl Tryd.underlying4 | exact q_nenilsl rfl rfl | exact q_neS rfl rfl) | (show OpQ _ _ _ _ _ ⟨_, .binOp .geq _ _ _ _, _, _, _, _⟩ _; exact q_geq rfl rfl) | (show OpQ _ _ _ _ _ ⟨_, .binOp .gtr _ _ _ _, _, _, _, _⟩ _; exact q_gtr rfl rfl) | (show OpQ _ _ _ _ _ ⟨_, .binOp .leq _ _ _ _, _, _, _, _⟩ _; exact q_leq rfl rfl) | (show OpQ _ _ _ _ _ ⟨_, .unOp .not _ _, _, _, _, _⟩ _; exact q_not rfl) | (show OpQ _ _ _ _ _ ⟨_, .binOp .sub _ _ _ _, _, _, _, _⟩ _; exact q_sub rfl rfl (rng_i64 (by omega) (by omega))) | (show OpQ _ _ _ _ _ ⟨_, .call { callee := .builtin .len, args := _, argTypes := _ }, _, _, _, _⟩ _; first | exact q_len_sl rfl | exact q_len_map rfl (by ((repeat (first | with_reducible apply List.mem_cons_self | with_reducible apply List.mem_cons_of_mem)); try with_reducible assumption)) | exact q_lenS rfl) | (show OpQ _ _ _ _ _ ⟨_, .field _ _ _, _, _, _, _⟩ _; first | exact q_field rfl (by (first | with_reducible assumption | ((with_reducible apply cell_get); (repeat (first | with_reducible apply LGet.zero | with_reducible apply LGet.succ))))) | exact q_fieldL rfl (by (repeat (first | with_reducible apply LSub.done | with_reducible apply LSub.take | with_reducible apply LSub.drop)))) | (show OpQ _ _ _ _ _ ⟨_, .build _ _, _, _, _, _⟩ _; exact q_build rfl (by (repeat (first | apply BuildS.nil | (apply BuildS.one; (· infer_instance); (· infer_instance); (· rfl); (· (repeat (first | with_reducible apply LSet.zero | with_reducible apply LSet.succ)))) | (apply BuildS.agg; (· infer_instance); (· infer_instance); (· rfl); (· (repeat (first | with_reducible apply LSetA.done | with_reducible apply LSetA.put | with_reducible apply LSetA.skip)))))))) | (show OpQ _ _ _ _ _ ⟨_, .makeFunc _ _ _, _, _, _, _⟩ _; first | exact q_makeFunc rfl | exact q_makeFunc0) | (show OpQ _ _ _ _ _ ⟨_, .convert _ _ _, _, _, _, _⟩ _; exact q_conv rfl (by exact ⟨by omega, by omega⟩)) | (show OpQ _ _ _ _ _ ⟨_, .binOp .mul _ _ _ _, _, _, _, _⟩ _; exact q_mul rfl rfl (rng_i64 (by omega) (by omega))) | (show OpQ _ _ _ _ _ ⟨_, .binOp .quo _ _ _ _, _, _, _, _⟩ _; exact q_quo rfl rfl (by omega) (by omega) (rng_i64 (by omega) (by omega))) | (show OpQ _ _ _ _ _ ⟨_, .binOp .rem _ _ _ _, _, _, _, _⟩ _; exact q_rem rfl rfl (by omega) (by omega)) | (show OpQ _ _ _ _ _ ⟨_, .lookup _ _ _ _, _, _, _, _⟩ _; first | exact q_lookup rfl rfl (by ((repeat (first | with_reducible apply List.mem_cons_self | with_reducible apply List.mem_cons_of_mem)); try with_reducible assumption)) | exact q_lookup2 rfl rfl (by ((repeat (first | with_reducible apply List.mem_cons_self | with_reducible apply List.mem_cons_of_mem)); try with_reducible assumption))) | (show OpQ _ _ _ _ _ ⟨_, .index _ _ _, _, _, _, _⟩ _; exact q_idxS rfl rfl (by omega)) | fail) (hw : gst ops fr o.guard = some true := by rfl) (hd : o.dst = some d := by rfl) (hb : Nat.blt d N = true := by rfl) : PlanS P ro N E ops Q R tbl sw sp ((i, true, o) :: pl) fr ds l := pl_h h hw hd hb hk
theorem pzs (hk : PlanS P ro N E ops Q R tbl none [] pl ((d, undef) :: fr) ds l) (hR : ∀ c, c ∈ R → c ∈ l := by exact (List.Sublist.subset (by (repeat (first | with_reducible apply List.Sublist.refl | with_reducible apply List.nil_sublist | with_reducible apply List.Sublist.cons_cons | with_reducible apply List.Sublist.cons))))) (hw : gst ops fr o.guard = some false := by rfl) (hd : o.dst = some d := by rfl) (hb : Nat.blt d N = true := by rfl) : PlanS P ro N E ops Q R tbl none [] ((i, k, o) :: pl) fr ds l := pl_hs hR hw hd hb hk
theorem pzs0 (hk : PlanS P ro N E ops Q R tbl none [] pl fr ds l) (hR : ∀ c, c ∈ R → c ∈ l := by exact (List.Sublist.subset (by (repeat (first | with_reducible apply List.Sublist.refl | with_reducible apply List.nil_sublist | with_reducible apply List.Sublist.cons_cons | with_reducible apply List.Sublist.cons))))) (hw : gst ops fr o.guard = some false := by rfl) (hd : o.dst = none := by rfl) : PlanS P ro N E ops Q R tbl none [] ((i, k, o) :: pl) fr ds l := pl_hs0 hR hw hd hk
theorem pzt {j t : Nat} {w : Bool} {oj : Oper} {p : Prop} {ip : Decidable p} (h : PlanS P ro N E ops Q R tbl sw sp ((i, k, o) :: pl) ((t, .bool true) :: fr) ds l) (hw : o.guard = some (j, w) := by rfl) (hj : ops[j]? = some oj := by rfl) (hjd : oj.dst = some t := by rfl) (hc : flook fr t = some (.bool (@decide p ip)) := by rfl) (hp : p := by omega) : PlanS P ro N E ops Q R tbl sw sp ((i, k, o) :: pl) fr ds l := pl_gif_t hw hj hjd hc hp h
theorem pzf {j t : Nat} {w : Bool} {oj : Oper} {p : Prop} {ip : Decidable p} (h : PlanS P ro N E ops Q R tbl sw sp ((i, k, o) :: pl) ((t, .bool false) :: fr) ds l) (hw : o.guard = some (j, w) := by rfl) (hj : ops[j]? = some oj := by rfl) (hjd : oj.dst = some t := by rfl) (hc : flook fr t = some (.bool (@decide p ip)) := by rfl) (hp : ¬ p := by omega) : PlanS P ro N E ops Q R tbl sw sp ((i, k, o) :: pl) fr ds l := pl_gif_f hw hj hjd hc hp h
theorem pzn {l2 : List Chunk} (hk : PlanS P ro N E ops Q R tbl none [] pl fr ds l2) (h : OpE P ro N fr l o (fun v' l' => v' = undef ∧ l' = l2) := by first | (apply e_storeL; (· rfl); (· rfl); (· first | rfl | assumption); (· ((repeat (first | with_reducible apply List.mem_cons_self | with_reducible apply List.mem_cons_of_mem)); try with_reducible assumption)); (· (repeat (first | with_reducible apply LSet.zero | with_reducible apply LSet.succ))); (· (repeat (first | apply Upd.here | apply Upd.there)))) | (apply e_storeLA; (· rfl); (· rfl); (· rfl); (· simp [Value.oneCell']); (· ((repeat (first | with_reducible apply List.mem_cons_self | with_reducible apply List.mem_cons_of_mem)); try with_reducible assumption)); (· (repeat (first | with_reducible apply LSetA.done | with_reducible apply LSetA.put | with_reducible apply LSetA.skip))); (· (repeat (first | apply Upd.here | apply Upd.there)))) | fail) (hw : o.guard = none := by rfl) (hd : o.dst = none := by rfl) (hR : ∀ c, c ∈ R → c ∈ l2 := by exact (List.Sublist.subset (by (repeat (first | with_reducible apply List.Sublist.refl | with_reducible apply List.nil_sublist | with_reducible apply List.Sublist.cons_cons | with_reducible apply List.Sublist.cons))))) : PlanS P ro N E ops Q R tbl none [] ((i, false, o) :: pl) fr ds l := pl_n h hw hd (fun v l' h => by rw [h.2]; exact hR) fun v l' h => by rw [h.2]; exact hk
theorem pze (hk : PlanS P ro N E ops Q R tbl none [] pl ((d, v) :: fr) ds l) (h : OpQ P ro N fr l o v := by first | (show OpQ _ _ _ _ _ ⟨_, .load _ _, _, _, _, _⟩ _; first | exact q_load rfl (by ((repeat (first | with_reducible apply List.mem_cons_self | with_reducible apply List.mem_cons_of_mem)); try with_reducible assumption)) (by (first | with_reducible assumption | ((with_reducible apply cell_get); (repeat (first | with_reducible apply LGet.zero | with_reducible apply LGet.succ))))) | exact q_loadL rfl (by ((repeat (first | with_reducible apply List.mem_cons_self | with_reducible apply List.mem_cons_of_mem)); try with_reducible assumption)) (by (repeat (first | with_reducible apply LSub.done | with_reducible apply LSub.take | with_reducible apply LSub.drop)))) | fail) (hw : o.guard = none := by rfl) (hd : o.dst = some d := by rfl) (hb : Nat.blt d N = true := by rfl) (hR : ∀ c, c ∈ R → c ∈ l := by exact (List.Sublist.subset (by (repeat (first | with_reducible apply List.Sublist.refl | with_reducible apply List.nil_sublist | with_reducible apply List.Sublist.cons_cons | with_reducible apply List.Sublist.cons))))) : PlanS P ro N E ops Q R tbl none [] ((i, false, o) :: pl) fr ds l := pl_qe h hw hd hb hR hk
end
end Go.Proofs.YtffmibmefmbdjaaDoor

/- The long tactics as default arguments of short laws: what is left of a goal is handed on. Laws of my own, no program's. -/
set_option linter.unusedVariables false
set_option linter.unusedSimpArgs false
namespace Go.Proofs.YtffmibmefmbdjaaDoor
open Go.RowKit

/-- what is left, kept from the sight of 'assumption' -/
structure Bx (H : Prop) : Prop where
  h : H
theorem gz {H G : Prop} (k : H) (h : Bx H → G := by (intro k; (repeat (first | (show OpsS _ _ _ _ _ _ (_ :: _) _ _ _; first | refine ozq ?_ | refine ozs ?_ | refine ozs0 ?_ | refine ozt ?_ | refine ozf ?_ | refine ozn ?_) | refine c_seq ?_ | refine p_then ?_ | refine c_region ?_ | refine s_nil ?_ | refine c_cond_t rfl ?_ | refine c_cond_f rfl ?_ | refine c_block ?_ | refine c_skip ?_ | refine c_exit ?_ | refine p_block ?_ | refine p_then_exit ?_ | refine p_block_here ?_ | refine p_block_on rfl ?_ | refine c_ret ?_ | refine p_then_ret ?_ | refine p_block_ret ?_ | refine c_scope ?_ | refine c_label ?_ | refine p_scope ?_ | refine p_scope_ret ?_ | refine p_scope_exit ?_ | refine p_end ?_ | refine c_if_t rfl (by omega) ?_ | refine c_if_f rfl (by omega) ?_)); exact k.h)) : G := h ⟨k⟩
theorem gzU {H G : Prop} (k : H) (h : Bx H → G := by (intro k; (repeat (first | (show OpsS _ _ _ _ _ _ (_ :: _) _ _ _; first | refine ozq ?_ | refine ozs ?_ | refine ozs0 ?_ | refine ozt ?_ | refine ozf ?_ | refine t_hu rfl rfl rfl rfl rfl rfl ?_ | refine ozn ?_) | refine c_seq ?_ | refine p_then ?_ | refine c_region ?_ | refine s_nil ?_ | refine c_cond_t rfl ?_ | refine c_cond_f rfl ?_ | refine c_block ?_ | refine c_skip ?_ | refine c_exit ?_ | refine p_block ?_ | refine p_then_exit ?_ | refine p_block_here ?_ | refine p_block_on rfl ?_ | refine c_ret ?_ | refine p_then_ret ?_ | refine p_block_ret ?_ | refine c_scope ?_ | refine c_label ?_ | refine p_scope ?_ | refine p_scope_ret ?_ | refine p_scope_exit ?_ | refine p_end ?_ | refine c_if_t rfl (by omega) ?_ | refine c_if_f rfl (by omega) ?_)); exact k.h)) : G := h ⟨k⟩
theorem gzB {H G : Prop} (k : H) (h : Bx H → G := by (intro k; (repeat (fail_if_success (with_reducible show CodeS _ _ _ _ (Code.seq (Code.seq (Code.region _ _ _) (Code.block _ _)) _) _ _ _ _); first | (show OpsS _ _ _ _ _ _ (_ :: _) _ _ _; first | refine ozq ?_ | refine ozs ?_ | refine ozs0 ?_ | refine ozt ?_ | refine ozf ?_ | refine ozn ?_) | refine c_seq ?_ | refine p_then ?_ | refine c_region ?_ | refine s_nil ?_ | refine c_cond_t rfl ?_ | refine c_cond_f rfl ?_ | refine c_block ?_ | refine c_skip ?_ | refine c_exit ?_ | refine p_block ?_ | refine p_then_exit ?_ | refine p_block_here ?_ | refine p_block_on rfl ?_ | refine c_ret ?_ | refine p_then_ret ?_ | refine p_block_ret ?_ | refine c_scope ?_ | refine c_label ?_ | refine p_scope ?_ | refine p_scope_ret ?_ | refine p_scope_exit ?_ | refine p_end ?_ | refine c_if_t rfl (by omega) ?_ | refine c_if_f rfl (by omega) ?_)); exact k.h)) : G := h ⟨k⟩
theorem gzBU {H G : Prop} (k : H) (h : Bx H → G := by (intro k; (repeat (fail_if_success (with_reducible show CodeS _ _ _ _ (Code.seq (Code.seq (Code.region _ _ _) (Code.block _ _)) _) _ _ _ _); first | (show OpsS _ _ _ _ _ _ (_ :: _) _ _ _; first | refine ozq ?_ | refine ozs ?_ | refine ozs0 ?_ | refine ozt ?_ | refine ozf ?_ | refine t_hu rfl rfl rfl rfl rfl rfl ?_ | refine ozn ?_) | refine c_seq ?_ | refine p_then ?_ | refine c_region ?_ | refine s_nil ?_ | refine c_cond_t rfl ?_ | refine c_cond_f rfl ?_ | refine c_block ?_ | refine c_skip ?_ | refine c_exit ?_ | refine p_block ?_ | refine p_then_exit ?_ | refine p_block_here ?_ | refine p_block_on rfl ?_ | refine c_ret ?_ | refine p_then_ret ?_ | refine p_block_ret ?_ | refine c_scope ?_ | refine c_label ?_ | refine p_scope ?_ | refine p_scope_ret ?_ | refine p_scope_exit ?_ | refine p_end ?_ | refine c_if_t rfl (by omega) ?_ | refine c_if_f rfl (by omega) ?_)); exact k.h)) : G := h ⟨k⟩
theorem gzS {H G : Prop} (k : H) (h : Bx H → G := by (intro k; ((first | (show OpsS _ _ _ _ _ _ (_ :: _) _ _ _; first | refine ozq ?_ | refine ozs ?_ | refine ozs0 ?_ | refine ozt ?_ | refine ozf ?_ | refine ozn ?_) | refine c_seq ?_ | refine p_then ?_ | refine c_region ?_ | refine s_nil ?_ | refine c_cond_t rfl ?_ | refine c_cond_f rfl ?_ | refine c_block ?_ | refine c_skip ?_ | refine c_exit ?_ | refine p_block ?_ | refine p_then_exit ?_ | refine p_block_here ?_ | refine p_block_on rfl ?_ | refine c_ret ?_ | refine p_then_ret ?_ | refine p_block_ret ?_ | refine c_scope ?_ | refine c_label ?_ | refine p_scope ?_ | refine p_scope_ret ?_ | refine p_scope_exit ?_ | refine p_end ?_ | refine c_if_t rfl (by omega) ?_ | refine c_if_f rfl (by omega) ?_)); exact k.h)) : G := h ⟨k⟩
theorem gzSU {H G : Prop} (k : H) (h : Bx H → G := by (intro k; ((first | (show OpsS _ _ _ _ _ _ (_ :: _) _ _ _; first | refine ozq ?_ | refine ozs ?_ | refine ozs0 ?_ | refine ozt ?_ | refine ozf ?_ | refine t_hu rfl rfl rfl rfl rfl rfl ?_ | refine ozn ?_) | refine c_seq ?_ | refine p_then ?_ | refine c_region ?_ | refine s_nil ?_ | refine c_cond_t rfl ?_ | refine c_cond_f rfl ?_ | refine c_block ?_ | refine c_skip ?_ | refine c_exit ?_ | refine p_block ?_ | refine p_then_exit ?_ | refine p_block_here ?_ | refine p_block_on rfl ?_ | refine c_ret ?_ | refine p_then_ret ?_ | refine p_block_ret ?_ | refine c_scope ?_ | refine c_label ?_ | refine p_scope ?_ | refine p_scope_ret ?_ | refine p_scope_exit ?_ | refine p_end ?_ | refine c_if_t rfl (by omega) ?_ | refine c_if_f rfl (by omega) ?_)); exact k.h)) : G := h ⟨k⟩
theorem gzQ {H G : Prop} (k : H) (h : Bx H → G := by (intro k; (repeat (first | (show OpsS _ _ _ _ _ _ (_ :: _) _ _ _; first | refine ozq ?_ | refine ozs ?_ | refine ozs0 ?_ | refine ozt ?_ | refine ozf ?_) | refine c_seq ?_ | refine p_then ?_ | refine c_region ?_ | refine s_nil ?_ | refine c_cond_t rfl ?_ | refine c_cond_f rfl ?_ | refine c_block ?_ | refine c_skip ?_ | refine c_exit ?_ | refine p_block ?_ | refine p_then_exit ?_ | refine p_block_here ?_ | refine p_block_on rfl ?_ | refine c_ret ?_ | refine p_then_ret ?_ | refine p_block_ret ?_ | refine c_scope ?_ | refine c_label ?_ | refine p_scope ?_ | refine p_scope_ret ?_ | refine p_scope_exit ?_ | refine p_end ?_ | refine c_if_t rfl (by omega) ?_ | refine c_if_f rfl (by omega) ?_)); exact k.h)) : G := h ⟨k⟩
theorem gzQU {H G : Prop} (k : H) (h : Bx H → G := by (intro k; (repeat (first | (show OpsS _ _ _ _ _ _ (_ :: _) _ _ _; first | refine ozq ?_ | refine ozs ?_ | refine ozs0 ?_ | refine ozt ?_ | refine ozf ?_ | refine t_hu rfl rfl rfl rfl rfl rfl ?_) | refine c_seq ?_ | refine p_then ?_ | refine c_region ?_ | refine s_nil ?_ | refine c_cond_t rfl ?_ | refine c_cond_f rfl ?_ | refine c_block ?_ | refine c_skip ?_ | refine c_exit ?_ | refine p_block ?_ | refine p_then_exit ?_ | refine p_block_here ?_ | refine p_block_on rfl ?_ | refine c_ret ?_ | refine p_then_ret ?_ | refine p_block_ret ?_ | refine c_scope ?_ | refine c_label ?_ | refine p_scope ?_ | refine p_scope_ret ?_ | refine p_scope_exit ?_ | refine p_end ?_ | refine c_if_t rfl (by omega) ?_ | refine c_if_f rfl (by omega) ?_)); exact k.h)) : G := h ⟨k⟩
theorem pz {H G : Prop} (k : H) (h : Bx H → G := by (intro k; (repeat (first | refine pl_nil ?_ | (show PlanS _ _ _ _ _ _ _ _ _ _ ((_, true, _) :: _) _ _ _; first | refine pzq ?_ | refine pzt ?_ | refine pzf ?_) | (show PlanS _ _ _ _ _ _ _ _ none [] ((_, _, _) :: _) _ _ _; first | refine pzs ?_ | refine pzs0 ?_) | (show PlanS _ _ _ _ _ _ _ _ _ _ ((_, _, _) :: _) _ _ _; first | refine pzt ?_ | refine pzf ?_) | (show PlanS _ _ _ _ _ _ _ _ none [] ((_, false, _) :: _) _ _ _; first | refine pzn ?_ | refine pze ?_))); exact k.h)) : G := h ⟨k⟩
theorem pzU {H G : Prop} (k : H) (h : Bx H → G := by (intro k; (repeat (first | refine pl_nil ?_ | (show PlanS _ _ _ _ _ _ _ _ _ _ ((_, true, _) :: _) _ _ _; first | refine pzq ?_ | refine pzt ?_ | refine pzf ?_) | (show PlanS _ _ _ _ _ _ _ _ none [] ((_, _, _) :: _) _ _ _; first | refine pzs ?_ | refine pzs0 ?_ | refine pl_hu (List.Sublist.subset (by (repeat (first | with_reducible apply List.Sublist.refl | with_reducible apply List.nil_sublist | with_reducible apply List.Sublist.cons_cons | with_reducible apply List.Sublist.cons)))) rfl rfl rfl rfl rfl rfl ?_) | (show PlanS _ _ _ _ _ _ _ _ _ _ ((_, _, _) :: _) _ _ _; first | refine pzt ?_ | refine pzf ?_) | (show PlanS _ _ _ _ _ _ _ _ none [] ((_, false, _) :: _) _ _ _; first | refine pzn ?_ | refine pze ?_))); exact k.h)) : G := h ⟨k⟩
theorem pzS {H G : Prop} (k : H) (h : Bx H → G := by (intro k; ((first | refine pl_nil ?_ | (show PlanS _ _ _ _ _ _ _ _ _ _ ((_, true, _) :: _) _ _ _; first | refine pzq ?_ | refine pzt ?_ | refine pzf ?_) | (show PlanS _ _ _ _ _ _ _ _ none [] ((_, _, _) :: _) _ _ _; first | refine pzs ?_ | refine pzs0 ?_) | (show PlanS _ _ _ _ _ _ _ _ _ _ ((_, _, _) :: _) _ _ _; first | refine pzt ?_ | refine pzf ?_) | (show PlanS _ _ _ _ _ _ _ _ none [] ((_, false, _) :: _) _ _ _; first | refine pzn ?_ | refine pze ?_))); exact k.h)) : G := h ⟨k⟩
theorem pzSU {H G : Prop} (k : H) (h : Bx H → G := by (intro k; ((first | refine pl_nil ?_ | (show PlanS _ _ _ _ _ _ _ _ _ _ ((_, true, _) :: _) _ _ _; first | refine pzq ?_ | refine pzt ?_ | refine pzf ?_) | (show PlanS _ _ _ _ _ _ _ _ none [] ((_, _, _) :: _) _ _ _; first | refine pzs ?_ | refine pzs0 ?_ | refine pl_hu (List.Sublist.subset (by (repeat (first | with_reducible apply List.Sublist.refl | with_reducible apply List.nil_sublist | with_reducible apply List.Sublist.cons_cons | with_reducible apply List.Sublist.cons)))) rfl rfl rfl rfl rfl rfl ?_) | (show PlanS _ _ _ _ _ _ _ _ _ _ ((_, _, _) :: _) _ _ _; first | refine pzt ?_ | refine pzf ?_) | (show PlanS _ _ _ _ _ _ _ _ none [] ((_, false, _) :: _) _ _ _; first | refine pzn ?_ | refine pze ?_))); exact k.h)) : G := h ⟨k⟩
theorem zMem {p : Prop} (h : p := by (((repeat (first | with_reducible apply List.mem_cons_self | with_reducible apply List.mem_cons_of_mem)); try with_reducible assumption))) : p := h
theorem zUpd {p : Prop} (h : p := by ((repeat (first | apply Upd.here | apply Upd.there)))) : p := h
theorem zSubl {p : Prop} (h : p := by ((repeat (first | with_reducible apply List.Sublist.refl | with_reducible apply List.nil_sublist | with_reducible apply List.Sublist.cons_cons | with_reducible apply List.Sublist.cons)))) : p := h
theorem zRes {p : Prop} (h : p := by ((repeat (first | apply ResS.nil | (apply rs_tmp; (· rfl)) | (apply rs_cell1; (· rfl); (· ((repeat (first | with_reducible apply List.mem_cons_self | with_reducible apply List.mem_cons_of_mem)); try with_reducible assumption)); (· rfl)) | (apply rs_cellA; (· rfl); (· ((repeat (first | with_reducible apply List.mem_cons_self | with_reducible apply List.mem_cons_of_mem)); try with_reducible assumption)); (· (repeat (first | with_reducible apply LSub.done | with_reducible apply LSub.take | with_reducible apply LSub.drop)))))))) : p := h
theorem zPick {p : Prop} (h : p := by ((repeat (first | apply Pick.here | apply Pick.there)))) : p := h
theorem zKeep {p : Prop} (h : p := by (((try simp only [List.cons_append, List.nil_append, List.map_cons, List.map_nil]); repeat (first | with_reducible apply Keep.refl | (apply Keep.pick; · (repeat (first | apply Pick.here | apply Pick.there))) | apply Keep.drop)))) : p := h
theorem zLd {p : Prop} (h : p := by (first | exact q_load rfl (.head _) (by (first | with_reducible assumption | ((with_reducible apply cell_get); (repeat (first | with_reducible apply LGet.zero | with_reducible apply LGet.succ))))) | exact q_loadL rfl (.head _) (by (repeat (first | with_reducible apply LSub.done | with_reducible apply LSub.take | with_reducible apply LSub.drop))))) : p := h
theorem zAtt {p : Prop} (h : p := by ((repeat (first | apply Attach.nil | (apply Attach.cons; · rfl))))) : p := h
theorem zHR {l l' : List Chunk} (h : l.Sublist l' := by ((repeat (first | with_reducible apply List.Sublist.refl | with_reducible apply List.nil_sublist | with_reducible apply List.Sublist.cons_cons | with_reducible apply List.Sublist.cons)))) : ∀ c, c ∈ l → c ∈ l' := fun _ hc => h.subset hc
end Go.Proofs.YtffmibmefmbdjaaDoor

/-
  DERIVED: THE SHELF's CONTRACTS AT THIS DUMP, IN PLAIN WORDS (tools/lay-plain.mjs out of 'YtffmibmefmbdjaaDoorSH.lean', which tools/lay-shelf.mjs wrote): THE SAME DECLARATIONS UNDER THE SAME NAMES: 'import', 'namespace', 'open', 'def', 'theorem' AND NOTHING ELSE: no command of the shelf's: FOR A HAND-IN. Each laying: the table of numbers ('.._ren') and one theorem, a field a fact of the dump's own or the kernel's comparison; each contract: ONE APPLICATION.
-/
namespace Go.Proofs
open Go.Shelf
def Tryd.lays170_ren : Go.Shelf.Ren := ⟨fun | 170 => 22 | n => n, fun | 70 => 53 | 3 => 3 | 0 => 0 | 72 => 56 | 37 => 54 | 5 => 5 | n => n, fun | n => n⟩
theorem Tryd.lays170 : Go.Proofs.Lays.n170 Tryd.prog Tryd.lays170_ren := {
  mixed := by kernel_rfl
  f170 := Tryd.func22.trans (congrArg some (by kernel_rfl))
  t0 := Tryd.underlying0
  a0 := Tryd.isAgg0
  z0 := Tryd.sizeOf0
  v0 := Tryd.zeroValue0
  t3 := Tryd.underlying3
  a3 := Tryd.isAgg3
  z3 := Tryd.sizeOf3
  v3 := Tryd.zeroValue3
  t37 := Tryd.underlying54
  a37 := Tryd.isAgg54
  z37 := Tryd.sizeOf54
  v37 := Tryd.zeroValue54
  t70 := Tryd.underlying53
  a70 := Tryd.isAgg53
  z70 := Tryd.sizeOf53
  v70 := Tryd.zeroValue53
  t72 := Tryd.underlying56
  a72 := Tryd.isAgg56
  z72 := Tryd.sizeOf56
  v72 := Tryd.zeroValue56 }
open Go.RowKit in
/-- (*strings.Builder).Len: "Len returns the number of accumulated bytes; b.Len() == len(b.String()).": the world is as it was. (LAID: no walk: one application.) -/
theorem Tryd.Builder_Len (B b : Nat) (bs : List Value) (w : World) (h : Lib.IsBuilder 56 5 B b bs w) :
    Calls Tryd.prog 22 #[.pointer (some ⟨b, 0, none⟩)] w fun e w' => e = .returned (.int .i64 bs.length) ∧ w' = w := Any.Builder_Len Tryd.lays170 B b bs w h
def Tryd.lays169_ren : Go.Shelf.Ren := ⟨fun | 169 => 24 | n => n, fun | 70 => 53 | 9 => 9 | 0 => 0 | 72 => 56 | 37 => 54 | 127 => 86 | 3 => 3 | 5 => 5 | n => n, fun | n => n⟩
theorem Tryd.lays169 : Go.Proofs.Lays.n169 Tryd.prog Tryd.lays169_ren := {
  mixed := by kernel_rfl
  f169 := Tryd.func24.trans (congrArg some (by kernel_rfl))
  t0 := Tryd.underlying0
  a0 := Tryd.isAgg0
  z0 := Tryd.sizeOf0
  v0 := Tryd.zeroValue0
  t3 := Tryd.underlying3
  a3 := Tryd.isAgg3
  z3 := Tryd.sizeOf3
  v3 := Tryd.zeroValue3
  t9 := Tryd.underlying9
  a9 := Tryd.isAgg9
  z9 := Tryd.sizeOf9
  v9 := Tryd.zeroValue9
  t37 := Tryd.underlying54
  a37 := Tryd.isAgg54
  z37 := Tryd.sizeOf54
  v37 := Tryd.zeroValue54
  t70 := Tryd.underlying53
  a70 := Tryd.isAgg53
  z70 := Tryd.sizeOf53
  v70 := Tryd.zeroValue53
  t72 := Tryd.underlying56
  a72 := Tryd.isAgg56
  z72 := Tryd.sizeOf56
  v72 := Tryd.zeroValue56
  t127 := Tryd.underlying86
  a127 := Tryd.isAgg86
  z127 := Tryd.sizeOf86
  v127 := Tryd.zeroValue86 }
theorem Tryd.Builder_Extra_169 : Builder.Extra Tryd.prog Tryd.lays169_ren := {
  sizeBuilder := by kernel_rfl
  liesBuilder := by kernel_rfl
  t5 := Tryd.underlying5
  a5 := Tryd.isAgg5
  z5 := Tryd.sizeOf5
  v5 := Tryd.zeroValue5
  infoByte := by kernel_rfl
  cellsByte := by kernel_rfl
  sizeByte := by kernel_rfl
  neB5 := by decide }
open Go.RowKit in
/-- (*strings.Builder).String: "String returns the accumulated string.": WHATEVER THE BUILDER HOLDS. (LAID: no walk: one application.) -/
theorem Tryd.Builder_String_any (B b : Nat) (l : List UInt8) (w : World) (h : Lib.IsBuilder 56 5 B b (Lib.byteCells l) w) (hBw : B ≤ w.heap.size) :
    Calls Tryd.prog 24 #[.pointer (some ⟨b, 0, none⟩)] w fun e w' => e = .returned (.string ⟨l.toArray⟩) ∧ Below B w w' := Any.Builder_String_any Tryd.lays169 Tryd.Builder_Extra_169 B b l w h hBw
def Tryd.lays283_ren : Go.Shelf.Ren := ⟨fun | 283 => 42 | n => n, fun | 3 => 3 | 9 => 9 | 4 => 4 | n => n, fun | n => n⟩
theorem Tryd.lays283 : Go.Proofs.Lays.n283 Tryd.prog Tryd.lays283_ren := {
  mixed := by kernel_rfl
  f283 := Tryd.func42.trans (congrArg some (by kernel_rfl))
  t3 := Tryd.underlying3
  a3 := Tryd.isAgg3
  z3 := Tryd.sizeOf3
  v3 := Tryd.zeroValue3
  t4 := Tryd.underlying4
  a4 := Tryd.isAgg4
  z4 := Tryd.sizeOf4
  v4 := Tryd.zeroValue4
  t9 := Tryd.underlying9
  a9 := Tryd.isAgg9
  z9 := Tryd.sizeOf9
  v9 := Tryd.zeroValue9 }
open Go.Lib in
/-- internal/strconv.small: "small returns the string for an i with 0 <= i < nSmalls.": i's decimal numeral. The world is as it was. (LAID: no walk: one application.) -/
theorem Tryd.internal_strconv_small (i : Nat) (h : i < 100) (w : World) :
    Calls Tryd.prog 42 #[.int .i64 i] w fun e w' => e = .returned (.string ⟨(Lib.decDigits i).toArray⟩) ∧ w' = w := Any.internal_strconv_small Tryd.lays283 i h w
def Tryd.laysM284_ren : Go.Shelf.Ren := ⟨fun | 284 => 43 | 129 => 53 | 317 => 52 | 318 => 54 | n => n, fun | 53 => 38 | 3 => 3 | 212 => 107 | 0 => 0 | 4 => 4 | 46 => 104 | 5 => 5 | 9 => 9 | n => n, fun | 17 => 1 | n => n⟩
theorem Tryd.laysM284 : Go.Proofs.LaysM.n284 Tryd.prog Tryd.laysM284_ren := {
  mixed := by kernel_rfl
  f129 := Tryd.func53.trans (congrArg some (by kernel_rfl))
  f284 := Tryd.func43.trans (congrArg some (by kernel_rfl))
  f317 := Tryd.func52.trans (congrArg some (by kernel_rfl))
  f318 := Tryd.func54.trans (congrArg some (by kernel_rfl))
  t0 := Tryd.underlying0
  a0 := Tryd.isAgg0
  z0 := Tryd.sizeOf0
  v0 := Tryd.zeroValue0
  t3 := Tryd.underlying3
  a3 := Tryd.isAgg3
  z3 := Tryd.sizeOf3
  v3 := Tryd.zeroValue3
  t4 := Tryd.underlying4
  a4 := Tryd.isAgg4
  z4 := Tryd.sizeOf4
  v4 := Tryd.zeroValue4
  t5 := Tryd.underlying5
  a5 := Tryd.isAgg5
  z5 := Tryd.sizeOf5
  v5 := Tryd.zeroValue5
  t9 := Tryd.underlying9
  a9 := Tryd.isAgg9
  z9 := Tryd.sizeOf9
  v9 := Tryd.zeroValue9
  t46 := Tryd.underlying104
  a46 := Tryd.isAgg104
  z46 := Tryd.sizeOf104
  v46 := Tryd.zeroValue104
  t53 := Tryd.underlying38
  a53 := Tryd.isAgg38
  z53 := Tryd.sizeOf38
  v53 := Tryd.zeroValue38
  t212 := Tryd.underlying107
  a212 := Tryd.isAgg107
  z212 := Tryd.sizeOf107
  v212 := Tryd.zeroValue107
  g17 := by kernel_rfl
  i0 := by kernel_rfl
  i3 := by kernel_rfl
  i4 := by kernel_rfl
  i5 := by kernel_rfl
  i9 := by kernel_rfl
  i46 := by kernel_rfl
  i53 := by kernel_rfl
  i212 := by kernel_rfl
  m17 := by kernel_rfl }
open Go.Lib in
/-- internal/strconv.numDigits, at a d that is not 0: THE NUMBER OF d's DECIMAL DIGITS. The world is as it was. (LAID: no walk: one application.) -/
theorem Tryd.internal_strconv_numDigits (u : Nat) (h1 : 1 ≤ u) (h2 : u < 18446744073709551616) (w : World) (htab : Lib.TabIs Tryd.prog w "internal/strconv.uint64pow10" .u64 Lib.pow10Tab) :
    Calls Tryd.prog 43 #[.int .u64 u] w fun e w' => e = .returned (.int .i64 (Lib.nDigits u)) ∧ w' = w := Any.internal_strconv_numDigits Tryd.laysM284 u h1 h2 w htab
def Tryd.lays285_ren : Go.Shelf.Ren := ⟨fun | 285 => 44 | n => n, fun | 37 => 54 | 53 => 38 | 3 => 3 | 4 => 4 | 51 => 108 | 9 => 9 | 5 => 5 | 0 => 0 | n => n, fun | n => n⟩
theorem Tryd.lays285 : Go.Proofs.Lays.n285 Tryd.prog Tryd.lays285_ren := {
  mixed := by kernel_rfl
  f285 := Tryd.func44.trans (congrArg some (by kernel_rfl))
  t0 := Tryd.underlying0
  a0 := Tryd.isAgg0
  z0 := Tryd.sizeOf0
  v0 := Tryd.zeroValue0
  t3 := Tryd.underlying3
  a3 := Tryd.isAgg3
  z3 := Tryd.sizeOf3
  v3 := Tryd.zeroValue3
  t4 := Tryd.underlying4
  a4 := Tryd.isAgg4
  z4 := Tryd.sizeOf4
  v4 := Tryd.zeroValue4
  t5 := Tryd.underlying5
  a5 := Tryd.isAgg5
  z5 := Tryd.sizeOf5
  v5 := Tryd.zeroValue5
  t9 := Tryd.underlying9
  a9 := Tryd.isAgg9
  z9 := Tryd.sizeOf9
  v9 := Tryd.zeroValue9
  t37 := Tryd.underlying54
  a37 := Tryd.isAgg54
  z37 := Tryd.sizeOf54
  v37 := Tryd.zeroValue54
  t51 := Tryd.underlying108
  a51 := Tryd.isAgg108
  z51 := Tryd.sizeOf108
  v51 := Tryd.zeroValue108
  t53 := Tryd.underlying38
  a53 := Tryd.isAgg38
  z53 := Tryd.sizeOf38
  v53 := Tryd.zeroValue38 }
open Go.RowKit Go.Sort Go.Lib in
/-- internal/strconv.formatBase10: "formatBase10 formats the decimal representation of u into a. The caller is responsible for ensuring that a is big enough to hold u. If a is too big, leading zeros will be filled in as needed.": THE ROW HOLDS u's DIGITS ('FmtInv .. 0 ..': every place t holds 'dg u (len - 1 - t)'); all else is as it was but for the count of draws. (LAID: no walk: one application.) -/
theorem Tryd.internal_strconv_formatBase10 (blk off cap : Nat) (u : Nat) (d : Array UInt8) (w : World) (hH : Holds (fun (b : UInt8) => Value.int .u8 (b.toNat : Int)) w blk off d) (hu : u < 10 ^ d.size) (hu64 : u < 18446744073709551616) (hsz : d.size < 4611686018427387904) :
    Calls Tryd.prog 44 #[.slice (some ⟨blk, off, none⟩) d.size cap, .int .u64 u] w fun e w' =>
      e = .returned (.tuple #[]) ∧ ∃ (n v' : Nat) (dk : Array UInt8), w' = (putRow (fun (b : UInt8) => Value.int .u8 (b.toNat : Int)) w blk off dk).drewN n ∧ FmtInv d.size u 0 v' dk := Any.internal_strconv_formatBase10 Tryd.lays285 blk off cap u d w hH hu hu64 hsz
def Tryd.laysPu14_ren : Go.Shelf.Ren := ⟨fun | 14 => 38 | 16 => 50 | 17 => 51 | 19 => 59 | 20 => 60 | 21 => 61 | 22 => 62 | 23 => 63 | 24 => 64 | 25 => 67 | 27 => 69 | 26 => 68 | 28 => 70 | 29 => 71 | 30 => 42 | 31 => 43 | 32 => 44 | 33 => 45 | 35 => 53 | 34 => 52 | 36 => 54 | 37 => 55 | 38 => 56 | 39 => 65 | 40 => 66 | n => n, fun | 9 => 9 | 3 => 3 | 22 => 38 | 24 => 59 | 25 => 89 | 4 => 4 | 34 => 114 | 5 => 5 | 36 => 104 | 37 => 54 | 0 => 0 | 39 => 116 | 21 => 21 | 44 => 122 | 47 => 86 | 50 => 128 | 48 => 126 | 2 => 2 | 52 => 97 | 55 => 100 | 59 => 107 | 60 => 108 | 20 => 20 | 61 => 109 | 65 => 124 | 66 => 125 | 67 => 62 | n => n, fun | 0 => 2 | 1 => 3 | 2 => 1 | 3 => 4 | 4 => 5 | n => n⟩
theorem Tryd.laysPu14 : Go.Proofs.LaysPu.n14 Tryd.prog Tryd.laysPu14_ren := {
  mixed := by kernel_rfl
  f14 := Tryd.func38.trans (congrArg some (by kernel_rfl))
  f16 := Tryd.func50.trans (congrArg some (by kernel_rfl))
  f17 := Tryd.func51.trans (congrArg some (by kernel_rfl))
  f19 := Tryd.func59.trans (congrArg some (by kernel_rfl))
  f20 := Tryd.func60.trans (congrArg some (by kernel_rfl))
  f21 := Tryd.func61.trans (congrArg some (by kernel_rfl))
  f22 := Tryd.func62.trans (congrArg some (by kernel_rfl))
  f23 := Tryd.func63.trans (congrArg some (by kernel_rfl))
  f24 := Tryd.func64.trans (congrArg some (by kernel_rfl))
  f25 := Tryd.func67.trans (congrArg some (by kernel_rfl))
  f26 := Tryd.func68.trans (congrArg some (by kernel_rfl))
  f27 := Tryd.func69.trans (congrArg some (by kernel_rfl))
  f28 := Tryd.func70.trans (congrArg some (by kernel_rfl))
  f29 := Tryd.func71.trans (congrArg some (by kernel_rfl))
  f30 := Tryd.func42.trans (congrArg some (by kernel_rfl))
  f31 := Tryd.func43.trans (congrArg some (by kernel_rfl))
  f32 := Tryd.func44.trans (congrArg some (by kernel_rfl))
  f33 := Tryd.func45.trans (congrArg some (by kernel_rfl))
  f34 := Tryd.func52.trans (congrArg some (by kernel_rfl))
  f35 := Tryd.func53.trans (congrArg some (by kernel_rfl))
  f36 := Tryd.func54.trans (congrArg some (by kernel_rfl))
  f37 := Tryd.func55.trans (congrArg some (by kernel_rfl))
  f38 := Tryd.func56.trans (congrArg some (by kernel_rfl))
  f39 := Tryd.func65.trans (congrArg some (by kernel_rfl))
  f40 := Tryd.func66.trans (congrArg some (by kernel_rfl))
  t0 := Tryd.underlying0
  a0 := Tryd.isAgg0
  z0 := Tryd.sizeOf0
  v0 := Tryd.zeroValue0
  i0 := by kernel_rfl
  t2 := Tryd.underlying2
  a2 := Tryd.isAgg2
  z2 := Tryd.sizeOf2
  v2 := Tryd.zeroValue2
  i2 := by kernel_rfl
  t3 := Tryd.underlying3
  a3 := Tryd.isAgg3
  z3 := Tryd.sizeOf3
  v3 := Tryd.zeroValue3
  i3 := by kernel_rfl
  t4 := Tryd.underlying4
  a4 := Tryd.isAgg4
  z4 := Tryd.sizeOf4
  v4 := Tryd.zeroValue4
  i4 := by kernel_rfl
  t5 := Tryd.underlying5
  a5 := Tryd.isAgg5
  z5 := Tryd.sizeOf5
  v5 := Tryd.zeroValue5
  i5 := by kernel_rfl
  t9 := Tryd.underlying9
  a9 := Tryd.isAgg9
  z9 := Tryd.sizeOf9
  v9 := Tryd.zeroValue9
  i9 := by kernel_rfl
  t20 := Tryd.underlying20
  a20 := Tryd.isAgg20
  z20 := Tryd.sizeOf20
  v20 := Tryd.zeroValue20
  i20 := by kernel_rfl
  t21 := Tryd.underlying21
  a21 := Tryd.isAgg21
  z21 := Tryd.sizeOf21
  v21 := Tryd.zeroValue21
  i21 := by kernel_rfl
  t22 := Tryd.underlying38
  a22 := Tryd.isAgg38
  z22 := Tryd.sizeOf38
  v22 := Tryd.zeroValue38
  i22 := by kernel_rfl
  t24 := Tryd.underlying59
  a24 := Tryd.isAgg59
  z24 := Tryd.sizeOf59
  v24 := Tryd.zeroValue59
  i24 := by kernel_rfl
  t25 := Tryd.underlying89
  a25 := Tryd.isAgg89
  z25 := Tryd.sizeOf89
  v25 := Tryd.zeroValue89
  i25 := by kernel_rfl
  t34 := Tryd.underlying114
  a34 := Tryd.isAgg114
  z34 := Tryd.sizeOf114
  v34 := Tryd.zeroValue114
  i34 := by kernel_rfl
  c34 := by kernel_rfl
  t36 := Tryd.underlying104
  a36 := Tryd.isAgg104
  z36 := Tryd.sizeOf104
  v36 := Tryd.zeroValue104
  i36 := by kernel_rfl
  t37 := Tryd.underlying54
  a37 := Tryd.isAgg54
  z37 := Tryd.sizeOf54
  v37 := Tryd.zeroValue54
  i37 := by kernel_rfl
  t39 := Tryd.underlying116
  a39 := Tryd.isAgg116
  z39 := Tryd.sizeOf116
  v39 := Tryd.zeroValue116
  i39 := by kernel_rfl
  t44 := Tryd.underlying122
  a44 := Tryd.isAgg122
  z44 := Tryd.sizeOf122
  v44 := Tryd.zeroValue122
  i44 := by kernel_rfl
  t47 := Tryd.underlying86
  a47 := Tryd.isAgg86
  z47 := Tryd.sizeOf86
  v47 := Tryd.zeroValue86
  i47 := by kernel_rfl
  t48 := Tryd.underlying126
  a48 := Tryd.isAgg126
  z48 := Tryd.sizeOf126
  v48 := Tryd.zeroValue126
  i48 := by kernel_rfl
  t50 := Tryd.underlying128
  a50 := Tryd.isAgg128
  z50 := Tryd.sizeOf128
  v50 := Tryd.zeroValue128
  i50 := by kernel_rfl
  t52 := Tryd.underlying97
  a52 := Tryd.isAgg97
  z52 := Tryd.sizeOf97
  v52 := Tryd.zeroValue97
  i52 := by kernel_rfl
  t55 := Tryd.underlying100
  a55 := Tryd.isAgg100
  z55 := Tryd.sizeOf100
  v55 := Tryd.zeroValue100
  i55 := by kernel_rfl
  t59 := Tryd.underlying107
  a59 := Tryd.isAgg107
  z59 := Tryd.sizeOf107
  v59 := Tryd.zeroValue107
  i59 := by kernel_rfl
  t60 := Tryd.underlying108
  a60 := Tryd.isAgg108
  z60 := Tryd.sizeOf108
  v60 := Tryd.zeroValue108
  i60 := by kernel_rfl
  t61 := Tryd.underlying109
  a61 := Tryd.isAgg109
  z61 := Tryd.sizeOf109
  t65 := Tryd.underlying124
  a65 := Tryd.isAgg124
  z65 := Tryd.sizeOf124
  v65 := Tryd.zeroValue124
  i65 := by kernel_rfl
  t66 := Tryd.underlying125
  a66 := Tryd.isAgg125
  z66 := Tryd.sizeOf125
  v66 := Tryd.zeroValue125
  i66 := by kernel_rfl
  t67 := Tryd.underlying62
  a67 := Tryd.isAgg62
  z67 := Tryd.sizeOf62
  v67 := Tryd.zeroValue62
  i67 := by kernel_rfl
  g0 := by kernel_rfl
  m0 := by kernel_rfl
  g1 := by kernel_rfl
  m1 := by kernel_rfl
  g2 := by kernel_rfl
  m2 := by kernel_rfl
  g3 := by kernel_rfl
  m3 := by kernel_rfl
  g4 := by kernel_rfl
  m4 := by kernel_rfl }
open Go.RowKit in
/-- strconv.ParseUint(s, 10, 64), AT EVERY STRING THAT SPELLS A uint64 ('Lib.parseUintB 64 s.data.toList = .ok u'): u, AND NO ERROR. (LAID: no walk: one application.) -/
theorem Tryd.strconv_ParseUint_10_at64_ok (s : ByteArray) (hmax : s.size ≤ 9223372036854775806) (u : Nat) (h : Lib.parseUintB 64 s.data.toList = .ok u) (w : World) :
    Calls Tryd.prog 38 #[.string s, .int .i64 10, .int .i64 64] w fun e w' => e = .returned (.tuple #[.int .u64 u, .nilIface]) ∧ (w' = w ∨ w' = Lib.bytesWorld w 5 s) := Any.strconv_ParseUint_10_at64_ok Tryd.laysPu14 s hmax u h w
def Tryd.lays219_ren : Go.Shelf.Ren := ⟨fun | 219 => 36 | 217 => 46 | 225 => 47 | 224 => 48 | 267 => 49 | 266 => 57 | 314 => 58 | n => n, fun | 9 => 9 | 3 => 3 | 4 => 4 | 5 => 5 | 46 => 104 | 146 => 112 | 51 => 108 | n => n, fun | 1 => 0 | n => n⟩
theorem Tryd.lays219 : Go.Proofs.Lays.n219 Tryd.prog Tryd.lays219_ren := {
  mixed := by kernel_rfl
  f217 := Tryd.func46.trans (congrArg some (by kernel_rfl))
  f219 := Tryd.func36.trans (congrArg some (by kernel_rfl))
  f224 := Tryd.func48.trans (congrArg some (by kernel_rfl))
  f225 := Tryd.func47.trans (congrArg some (by kernel_rfl))
  f266 := Tryd.func57.trans (congrArg some (by kernel_rfl))
  f267 := Tryd.func49.trans (congrArg some (by kernel_rfl))
  f314 := Tryd.func58.trans (congrArg some (by kernel_rfl))
  t3 := Tryd.underlying3
  a3 := Tryd.isAgg3
  z3 := Tryd.sizeOf3
  v3 := Tryd.zeroValue3
  t4 := Tryd.underlying4
  a4 := Tryd.isAgg4
  z4 := Tryd.sizeOf4
  v4 := Tryd.zeroValue4
  t5 := Tryd.underlying5
  a5 := Tryd.isAgg5
  z5 := Tryd.sizeOf5
  v5 := Tryd.zeroValue5
  t9 := Tryd.underlying9
  a9 := Tryd.isAgg9
  z9 := Tryd.sizeOf9
  v9 := Tryd.zeroValue9
  t46 := Tryd.underlying104
  a46 := Tryd.isAgg104
  z46 := Tryd.sizeOf104
  v46 := Tryd.zeroValue104
  t51 := Tryd.underlying108
  a51 := Tryd.isAgg108
  z51 := Tryd.sizeOf108
  v51 := Tryd.zeroValue108
  t146 := Tryd.underlying112
  a146 := Tryd.isAgg112
  z146 := Tryd.sizeOf112
  v146 := Tryd.zeroValue112
  g1 := by kernel_rfl }
open Go.RowKit Go.Lib in
/-- internal/stringslite.Index (what strings.Index calls) AT A substr OF ONE BYTE c: IT RETURNS 'Lib.indexByte s c'; the world is as it was. (LAID: no walk: one application.) -/
theorem Tryd.stringslite_Index_one (s : ByteArray) (c : UInt8) (w : World) :
    Calls Tryd.prog 36 #[.string s, .string ⟨#[c]⟩] w fun e w' => e = .returned (.int .i64 (Lib.indexByte s.data.toList c)) ∧ w' = w := Any.stringslite_Index_one Tryd.lays219 s c w
end Go.Proofs
