/- Maps whose keys are flat structs: the operations. Laws of my own, no program's. -/
import Derived.Test.YtmmohklaiffkmaaS14
set_option linter.unusedVariables false
set_option linter.unusedSimpArgs false
set_option linter.unusedSectionVars false
namespace Go.Proofs.Ytmmohklaiffkmaa
open Go.RowKit

section
variable {P : Program} {ro : Option Nat} {N : Nat} {fr : Fr} {R l : List Chunk} {d : Option Nat} {ty : TypeId} {pos : String} {aft : Array Edge} {g : Option (Nat × Bool)} {x y z : Operand} {v u w : Value} {b m n : Nat} {t t2 T kt et : TypeId}
theorem sl_forU {β : Type} (body : β → PUnit → Sem (ForInStep PUnit)) {Q : PUnit → List Chunk → Prop} {l : List Chunk} : ∀ (xs : List β), (∀ x ∈ xs, ∀ (Q : ForInStep PUnit → List Chunk → Prop) l, sl P (body x ()) l Q ↔ Q (.yield ()) l) → (sl P (forIn xs PUnit.unit body) l Q ↔ Q () l)
  | [], _ => by simp only [List.forIn_nil, sl_pure]
  | x :: xs, h => by
    rw [List.forIn_cons, sl_bind, h x List.mem_cons_self]
    exact sl_forU body xs fun y hy => h y (List.mem_cons_of_mem _ hy)
theorem sl_checkIn {empty : Bool} : ∀ (n d : Nat) (t : TypeId) (ks : List (Option IntKind)), eqK P n t = some ks → n ≤ d → ∀ (xs : List Value), AllK ks xs → ∀ (Q : Unit → List Chunk → Prop) (l : List Chunk), (sl P (Instr.checkKey empty d t (valOf P t xs)) l Q ↔ Q () l) := by
  intro n
  induction n with
  | zero => intro d t ks h; cases h
  | succ n ih =>
    intro d t ks h hd xs hx Q l
    obtain ⟨d, rfl⟩ : ∃ e, d = e + 1 := ⟨d - 1, by omega⟩
    unfold eqK at h
    split at h
    · rename_i k hu
      cases h
      obtain ⟨_, _, rfl, ⟨a, rfl⟩, rfl⟩ := hx
      simp only [valOf, aggT, hu, Bool.false_eq_true, if_false, List.headD_cons]
      unfold Instr.checkKey
      rw [sl_under hu]
      exact Iff.rfl
    · rename_i hu
      cases h
      obtain ⟨_, _, rfl, ⟨a, rfl⟩, rfl⟩ := hx
      simp only [valOf, aggT, hu, Bool.false_eq_true, if_false, List.headD_cons]
      unfold Instr.checkKey
      rw [sl_under hu]
      exact Iff.rfl
    · rename_i fs hu
      by_cases hst : P.stoodInHeld t = true
      · rw [if_pos hst] at h; cases h
      rw [if_neg hst] at h
      obtain ⟨rest, hr, hrest⟩ := eqK_fields n xs xs fs.toList [] ks h
      obtain ⟨g1, g2⟩ := hrest hx hx
      have hag : aggT P t = true := by unfold aggT; rw [hu]
      simp only [valOf, hag, if_true]
      unfold Instr.checkKey
      rw [sl_under hu]
      simp only
      rw [← Array.forIn_toList]
      rw [sl_bind]
      refine (sl_forU _ fs.toList fun f hf Q l => ?_).trans Iff.rfl
      obtain ⟨kf, ok⟩ := g1 f hf
      rw [if_pos ok.named, sl_piece ok.kinds ok.size xs f.offset ok.x, sl_bind, ih d f.type kf ok.kinds (by omega) _ ok.x]
      exact Iff.rfl
    · rename_i len e hu
      obtain ⟨kf, hk, hk2⟩ := Option.bind_eq_some_iff.1 h
      by_cases hs : (P.info? e).map (·.size) = some kf.length
      · rw [if_pos hs] at hk2
        cases hk2
        obtain ⟨g1, g2⟩ := eqK_rows kf len xs xs hx hx
        have hag : aggT P t = true := by unfold aggT; rw [hu]
        have hi : ∃ inf, P.info? e = some inf ∧ inf.size = kf.length := by
          cases hh : P.info? e with
          | none => rw [hh] at hs; cases hs
          | some inf => rw [hh] at hs; exact ⟨inf, rfl, by simpa using hs⟩
        obtain ⟨inf, hi1, hi2⟩ := hi
        simp only [valOf, hag, if_true]
        unfold Instr.checkKey
        rw [sl_under hu]
        simp only
        rw [Std.Legacy.Range.forIn_eq_forIn_range']
        have hsz : Std.Legacy.Range.size [:len] = len := by simp [Std.Legacy.Range.size]
        rw [hsz]
        rw [sl_bind]
        refine (sl_forU _ _ fun i hf Q l => ?_).trans Iff.rfl
        have hf : i ∈ List.range' 0 len := hf
        have hil : i < len := by have := List.mem_range'_1.1 hf; omega
        obtain ⟨o1, _⟩ := g1 i hil
        rw [sl_sizeOf hi1, hi2, sl_piece hk hs xs _ o1, sl_bind, ih d e kf hk (by omega) _ o1]
        exact Iff.rfl
      · rw [if_neg hs] at hk2; cases hk2
    · cases h
/-- keys told by their cells -/
structure EncOk {κ : Type} (enc : κ → List Value) (ks : List (Option IntKind)) : Prop where
  kinds : ∀ a, AllK ks (enc a)
  inj : ∀ a b, enc a = enc b → a = b
variable {κ : Type} [DecidableEq κ] {enc : κ → List Value} {ks : List (Option IntKind)} {a : κ} {es : List (EntS κ)} {clock : Nat}
theorem sl_checkKeyS {Q : Unit → List Chunk → Prop} {empty : Bool} (h : eqV P kt = some ks) (he : EncOk enc ks) : sl P (Instr.checkKey empty 10000 kt (.agg (List.toArray (enc a)))) l Q ↔ Q () l := by
  obtain ⟨h1, _, h3⟩ := eqV_spec h
  have := sl_checkIn (empty := empty) 20 10000 kt ks h3 (by decide) (enc a) (he.kinds a) Q l
  unfold valOf at this
  rw [h1] at this
  exact this
theorem sl_equalS {Q : Bool → List Chunk → Prop} (h : eqV P kt = some ks) (he : EncOk enc ks) (a b : κ) : sl P (Op.equal kt (.agg (List.toArray (enc a))) (.agg (List.toArray (enc b)))) l Q ↔ Q (decide (a = b)) l := by
  obtain ⟨h1, _, h3⟩ := eqV_spec h
  have := sl_eqIn 20 Op.maxDepth kt ks h3 (by decide) (enc a) (enc b) (he.kinds a) (he.kinds b) Q l
  unfold valOf at this
  rw [h1] at this
  have e : eqCells (enc a) (enc b) = decide (a = b) := by
    by_cases hab : a = b
    · rw [decide_eq_true hab]; exact (eqCells_iff (he.kinds a) (he.kinds b)).2 (by rw [hab])
    · rw [decide_eq_false hab]
      cases hc : eqCells (enc a) (enc b) with
      | false => rfl
      | true => exact absurd (he.inj a b ((eqCells_iff (he.kinds a) (he.kinds b)).1 hc)) hab
  rw [e] at this
  exact this
theorem sl_findAsking {Q : Option (Nat × Value) → List Chunk → Prop} (h : eqV P kt = some ks) (he : EncOk enc ks) (a : κ) : ∀ (es : List (EntS κ)) (i : Nat), sl P (Instr.findAsking kt (.agg (List.toArray (enc a))) (es.map (mkS enc)) i) l Q ↔ Q (findS a es i) l
  | [], i => Iff.rfl
  | e :: es, i => by
    rw [List.map_cons]
    unfold Instr.findAsking
    simp only [mkS]
    rw [sl_bind, sl_equalS h he, findS]
    by_cases hc : a = e.1
    · rw [decide_eq_true hc, if_pos hc]; exact Iff.rfl
    · rw [decide_eq_false hc, if_neg hc]
      exact sl_findAsking h he a es (i + 1)
theorem sl_findKeyS {Q : Option (Nat × Value) → List Chunk → Prop} (h : eqV P kt = some ks) (he : EncOk enc ks) : sl P (Instr.findKey kt (.agg (List.toArray (enc a))) (es.map (mkS enc))) l Q ↔ Q (findS a es 0) l := by
  obtain ⟨h1, _, _⟩ := eqV_spec h
  unfold Instr.findKey
  unfold aggT at h1
  cases hu : P.underlying kt with
  | none => rw [hu] at h1; cases h1
  | some td =>
    rw [sl_under hu]
    cases es with
    | nil => exact Iff.rfl
    | cons e es =>
      have hn : Instr.findNow td (.agg (List.toArray (enc a))) ((e :: es).map (mkS enc)) 0 = none := by
        rw [List.map_cons]
        unfold Instr.findNow
        rw [hu] at h1
        cases td <;> first | rfl | cases h1
      rw [hn]
      exact sl_findAsking h he a (e :: es) 0
theorem q_lookupS {zv : Value} (hx : ev fr x = some (.map (some m))) (hy : ev fr y = some (.agg (List.toArray (enc a)))) [c : MT P T kt et] [ci : EQ P kt ks] [cz : ZO P et zv] (he : EncOk enc ks) (hm : (m, mapS enc es clock) ∈ R) : OpQ P ro N fr R ⟨d, .lookup T x y false, ty, pos, aft, g⟩ ((getS a es).getD zv) := opQ_of_sl rfl fun ρ l hρ hR => by
  simp only [execOp, hρ x _ hx, hρ y _ hy, sl_bind]
  unfold Instr.lookup
  rw [sl_under (mtV_spec c.out)]
  simp only [sl_bind]
  refine ⟨_, hR _ hm, rfl, ?_⟩
  simp only [sl_pure, sl_pure', sl_bind]
  rw [sl_checkKeyS ci.out he, sl_findKeyS ci.out he]
  unfold getS
  cases h : findS a es 0 with
  | none => simp only [sl_bind]; rw [sl_zero cz.out]; exact ⟨rfl, rfl⟩
  | some p => exact ⟨rfl, rfl⟩
theorem same_cells : ∀ {ks : List (Option IntKind)} {a : List Value} (n : Nat), AllK ks a → (a.zip a).all (fun p => Instr.sameBits (n + 1) p.1 p.2) = true
  | [], a, n, h => by cases h; rfl
  | none :: ks, a, n, h => by obtain ⟨c, r, rfl, ⟨p, rfl⟩, h2⟩ := h; rw [List.zip_cons_cons, List.all_cons, same_cells n h2]; simp [Instr.sameBits]
  | some k :: ks, a, n, h => by obtain ⟨c, r, rfl, ⟨p, rfl⟩, h2⟩ := h; rw [List.zip_cons_cons, List.all_cons, same_cells n h2]; simp [Instr.sameBits]
theorem sl_keyStaysS {Q : Value → List Chunk → Prop} (he : EncOk enc ks) : sl P (Instr.keyThatStays (.agg (List.toArray (enc a))) (.agg (List.toArray (enc a)))) l Q ↔ Q (.agg (List.toArray (enc a))) l := by
  unfold Instr.keyThatStays
  have h : Instr.sameBits 10000 (.agg (List.toArray (enc a))) (.agg (List.toArray (enc a))) = true := by
    unfold Instr.sameBits
    simp only [beq_self_eq_true, Bool.true_and]
    exact same_cells 9998 (he.kinds a)
  rw [if_pos h]
  exact Iff.rfl
theorem modify_keyS (A B : List (EntS κ)) (e : EntS κ) (v : Value) : (List.toArray ((A ++ e :: B).map (mkS enc))).modify A.length (fun x => { key := .agg (List.toArray (enc e.1)), val := v, born := x.born }) = List.toArray ((A ++ (e.1, v, e.2.2) :: B).map (mkS enc)) := by
  apply Array.toList_inj.1
  rw [Array.toList_modify]
  simp only [List.map_append, List.map_cons]
  have := modify_mid (fun x : MapEntry => { key := .agg (List.toArray (enc e.1)), val := v, born := x.born }) (mkS enc e) (B.map (mkS enc)) (A.map (mkS enc))
  rw [List.length_map] at this
  rw [this]; rfl
theorem e_mapUpdateS {l' : List Chunk} (hx : ev fr x = some (.map (some m))) (hy : ev fr y = some (.agg (List.toArray (enc a)))) (hz : ev fr z = some v) [c : MT P T kt et] [ci : EQ P kt ks] (he : EncOk enc ks) (hu : Upd l m (mapS enc es clock) (mapS enc (setS a v clock es).1 (setS a v clock es).2) l') :
    OpE P ro N fr l ⟨d, .mapUpdate T x y z, ty, pos, aft, g⟩ (fun v' l2 => v' = undef ∧ l2 = l') := opE_of_sl rfl fun ρ hρ => by
  simp only [execOp, hρ x _ hx, hρ y _ hy, hρ z _ hz]
  rw [sl_bind]
  unfold Instr.mapUpdate
  rw [sl_under (mtV_spec c.out)]
  simp only [sl_bind]
  refine ⟨_, hu.mem, rfl, ?_⟩
  simp only [sl_pure, sl_pure', sl_bind]
  rw [sl_checkKeyS ci.out he, sl_findKeyS ci.out he]
  unfold setS at hu
  cases h : findS a es 0 with
  | none =>
    rw [h] at hu
    simp only at hu ⊢
    refine ⟨mapS enc es clock, l', ?_, rfl, ⟨rfl, rfl⟩⟩
    have e : (List.toArray (es.map (mkS enc))).push { key := .agg (List.toArray (enc a)), val := v, born := clock } = List.toArray ((es ++ [(a, v, clock)]).map (mkS enc)) := by simp [mkS]
    rw [e]
    exact hu
  | some p =>
    obtain ⟨i, u⟩ := p
    rw [h] at hu
    simp only at hu ⊢
    obtain ⟨A, e, B, rfl, rfl, h1, h2, h3⟩ := findS_some h
    subst h1
    have hk : (((List.toArray ((A ++ e :: B).map (mkS enc)))[A.length]?).map (·.key)).getD (.agg (List.toArray (enc e.1))) = .agg (List.toArray (enc e.1)) := by simp [mkS]
    simp only [sl_bind]
    rw [hk, sl_keyStaysS he]
    refine ⟨mapS enc (A ++ e :: B) clock, l', ?_, rfl, ⟨rfl, rfl⟩⟩
    rw [modify_keyS, ← modify_mid (fun x => (x.1, v, x.2.2)) e B A]
    exact hu
theorem e_deleteS {l' : List Chunk} {T2 : TypeId} (hx : ev fr x = some (.map (some m))) (hy : ev fr y = some (.agg (List.toArray (enc a)))) [c : MT P T kt et] [ci : EQ P kt ks] (he : EncOk enc ks) (hu : Upd l m (mapS enc es clock) (mapS enc (delS a es) clock) l') :
    OpE P ro N fr l ⟨d, .call { callee := .builtin .delete, args := #[x, y], argTypes := #[T, T2] }, ty, pos, aft, g⟩ (fun v' l2 => v' = .tuple #[] ∧ l2 = l') := opE_of_sl rfl fun ρ hρ => by
  simp only [execOp, resolve, sl_bind, sl_pure, invoke, builtin, List.map_toArray, List.map_cons, List.map_nil, hρ x _ hx, hρ y _ hy]
  unfold Builtin.delete_
  simp only [List.getElem?_toArray, List.getElem?_cons_zero, List.getElem?_cons_succ, sl_bind]
  rw [sl_under' (mtV_spec c.out)]
  simp only [sl_bind]
  refine ⟨_, hu.mem, rfl, ?_⟩
  simp only [sl_pure, sl_pure', sl_bind]
  rw [sl_checkKeyS ci.out he, sl_findKeyS ci.out he]
  unfold delS at hu
  cases h : findS a es 0 with
  | none =>
    rw [h] at hu
    exact ⟨mapS enc es clock, l', hu, rfl, ⟨rfl, rfl⟩⟩
  | some p =>
    obtain ⟨i, u⟩ := p
    rw [h] at hu
    refine ⟨mapS enc es clock, l', ?_, rfl, ⟨rfl, rfl⟩⟩
    have e : (List.toArray (es.map (mkS enc))).eraseIdxIfInBounds i = List.toArray ((es.eraseIdx i).map (mkS enc)) := by
      apply Array.toList_inj.1
      simp only [List.eraseIdxIfInBounds_toArray]
      rw [List.eraseIdx_eq_take_drop_succ, List.eraseIdx_eq_take_drop_succ, List.map_append, List.map_take, List.map_drop]
    rw [e]
    exact hu
/-- an entry that is there, looked up to be written -/
theorem e_mapEntryS {A B : List (EntS κ)} {e : EntS κ} {l' : List Chunk} (hx : ev fr x = some (.map (some m))) (hy : ev fr y = some (.agg (List.toArray (enc a)))) [c : MT P T kt et] [ci : EQ P kt ks] (he : EncOk enc ks) (hes : es = A ++ e :: B) (h1 : e.1 = a) (h3 : ∀ x ∈ A, x.1 ≠ a) (hm : (m, mapS enc es clock) ∈ l) :
    OpE P ro N fr l ⟨d, .mapEntry T x y, ty, pos, aft, g⟩ (fun v' l2 => v' = .tuple #[e.2.1, .int .i64 e.2.2] ∧ l2 = l) := opE_of_sl rfl fun ρ hρ => by
  subst h1 hes
  simp only [execOp, hρ x _ hx, hρ y _ hy, sl_bind]
  unfold Instr.mapEntry
  rw [sl_under (mtV_spec c.out)]
  simp only [sl_bind]
  refine ⟨_, hm, rfl, ?_⟩
  simp only [sl_pure, sl_pure', sl_bind]
  have hf : findS e.1 (A ++ e :: B) 0 = some (A.length, e.2.1) := by
    have : ∀ (A : List (EntS κ)) (i : Nat), (∀ x ∈ A, x.1 ≠ e.1) → findS e.1 (A ++ e :: B) i = some (i + A.length, e.2.1) := by
      intro A
      induction A with
      | nil => intro i _; rw [List.nil_append, findS, if_pos rfl]; rfl
      | cons z A ih =>
        intro i hA
        rw [List.cons_append, findS, if_neg (fun h => hA z List.mem_cons_self h.symm), ih (i + 1) fun x hx => hA x (List.mem_cons_of_mem _ hx), List.length_cons]
        congr 2; omega
    rw [this A 0 h3, Nat.zero_add]
  rw [sl_checkKeyS ci.out he, sl_findKeyS ci.out he, hf]
  have hk : (((List.toArray ((A ++ e :: B).map (mkS enc)))[A.length]?).map (·.key)).getD (.agg (List.toArray (enc e.1))) = .agg (List.toArray (enc e.1)) := by simp [mkS]
  have hb : (((List.toArray ((A ++ e :: B).map (mkS enc)))[A.length]?).map (fun x => (x.born : Int))).getD 0 = (e.2.2 : Int) := by simp [mkS]
  simp only [sl_bind]
  rw [hk, sl_keyStaysS he]
  obtain ⟨l2, hl2⟩ : ∃ l2, Upd l m (mapS enc (A ++ e :: B) clock) (mapS enc (A ++ e :: B) clock) l2 := by
    clear hρ
    induction l with
    | nil => cases hm
    | cons c l ih =>
      by_cases hc : c = (m, mapS enc (A ++ e :: B) clock)
      · subst hc; exact ⟨_, .here⟩
      · rcases List.mem_cons.1 hm with h | h
        · exact absurd h.symm hc
        · obtain ⟨l2, h2⟩ := ih h; exact ⟨_, .there h2⟩
  refine ⟨mapS enc (A ++ e :: B) clock, l, ?_, rfl, ?_⟩
  · have e2 : (List.toArray ((A ++ e :: B).map (mkS enc))).modify A.length (fun x => { key := .agg (List.toArray (enc e.1)), val := x.val, born := x.born }) = List.toArray ((A ++ e :: B).map (mkS enc)) := by
      apply Array.toList_inj.1
      rw [Array.toList_modify]
      simp only [List.map_append, List.map_cons]
      have := modify_mid (fun x : MapEntry => { key := .agg (List.toArray (enc e.1)), val := x.val, born := x.born }) (mkS enc e) (B.map (mkS enc)) (A.map (mkS enc))
      rw [List.length_map] at this
      rw [this]; rfl
    rw [e2]
    have := hl2.same
    subst this
    exact hl2
  · simp only [sl_pure, sl_pure']
    refine ⟨?_, rfl⟩
    show Value.tuple _ = _
    congr 3
    first | exact congrArg goInt hb | (unfold goInt; rw [← hb])
theorem e_entryStoreS {A B : List (EntS κ)} {e : EntS κ} {l' : List Chunk} (hx : ev fr x = some (.map (some m))) (hy : ev fr y = some (.int .i64 (e.2.2 : Nat))) (hz : ev fr z = some v) (hes : es = A ++ e :: B) (h3 : ∀ x ∈ A, x.2.2 ≠ e.2.2) (hu : Upd l m (mapS enc es clock) (mapS enc (A ++ (e.1, v, e.2.2) :: B) clock) l') :
    OpE P ro N fr l ⟨d, .entryStore T x y z, ty, pos, aft, g⟩ (fun v' l2 => v' = undef ∧ l2 = l') := opE_of_sl rfl fun ρ hρ => by
  subst hes
  simp only [execOp, hρ x _ hx, hρ y _ hy, hρ z _ hz]
  rw [sl_bind]
  unfold Instr.entryStore
  simp only [sl_bind]
  refine ⟨_, hu.mem, rfl, ?_⟩
  simp only [sl_pure, sl_pure', sl_bind, asInt, asIntOf]
  have hf : (List.toArray ((A ++ e :: B).map (mkS enc))).findIdx? (fun x => (x.born : Int) == (e.2.2 : Int)) = some A.length := by
    rw [List.findIdx?_toArray]
    clear hu hρ
    induction A with
    | nil => simp [mkS, List.findIdx?_cons]
    | cons z A ih =>
      have hz : ¬ z.2.2 = e.2.2 := h3 z List.mem_cons_self
      rw [List.cons_append, List.map_cons, List.findIdx?_cons, ih fun x hx => h3 x (List.mem_cons_of_mem _ hx)]
      have : (((mkS enc z).born : Int) == (e.2.2 : Int)) = false := by simp [mkS]; omega
      rw [this]; rfl
  rw [hf]
  refine ⟨mapS enc (A ++ e :: B) clock, l', ?_, rfl, ⟨rfl, rfl⟩⟩
  have e2 : (List.toArray ((A ++ e :: B).map (mkS enc))).modify A.length (fun x => { key := x.key, val := v, born := x.born }) = List.toArray ((A ++ (e.1, v, e.2.2) :: B).map (mkS enc)) := by
    apply Array.toList_inj.1
    rw [Array.toList_modify]
    simp only [List.map_append, List.map_cons]
    have := modify_mid (fun x : MapEntry => { key := x.key, val := v, born := x.born }) (mkS enc e) (B.map (mkS enc)) (A.map (mkS enc))
    rw [List.length_map] at this
    rw [this]; rfl
  rw [e2]
  exact hu
end
end Go.Proofs.Ytmmohklaiffkmaa
