/- Pointers compared; maps whose keys are flat structs. Laws of my own, no program's. -/
import Derived.Test.YtmmohklaiffkmaaS12
import Derived.Test.YtmmohklaiffkmaaE0
import Derived.LaidEqlPtr
set_option linter.unusedVariables false
set_option linter.unusedSimpArgs false
namespace Go.Proofs.Ytmmohklaiffkmaa
open Go.RowKit

theorem eqCells_iff : ∀ {ks : List (Option IntKind)} {a b : List Value}, AllK ks a → AllK ks b → (eqCells a b = true ↔ a = b)
  | [], a, b, h, h' => by cases h; cases h'; simp [eqCells]
  | none :: ks, a, b, h, h' => by
    obtain ⟨_, r, rfl, ⟨p, rfl⟩, h2⟩ := h
    obtain ⟨_, r', rfl, ⟨p', rfl⟩, h2'⟩ := h'
    simp [eqCells, eqCell, eqCells_iff h2 h2']
  | some k :: ks, a, b, h, h' => by
    obtain ⟨_, r, rfl, ⟨p, rfl⟩, h2⟩ := h
    obtain ⟨_, r', rfl, ⟨p', rfl⟩, h2'⟩ := h'
    simp [eqCells, eqCell, eqCells_iff h2 h2']
/-- an entry: the key, the value, the stamp -/
abbrev EntS (κ : Type) := κ × Value × Nat
def mkS {κ : Type} (enc : κ → List Value) (x : EntS κ) : MapEntry := { key := .agg (List.toArray (enc x.1)), val := x.2.1, born := x.2.2 }
abbrev mapS {κ : Type} (enc : κ → List Value) (es : List (EntS κ)) (clock : Nat) : Obj := .map (List.toArray (es.map (mkS enc))) clock
theorem modify_mid {α : Type} (f : α → α) (e : α) (B : List α) : ∀ (A : List α), (A ++ e :: B).modify A.length f = A ++ f e :: B
  | [] => rfl
  | x :: A => by rw [List.cons_append, List.length_cons, List.modify_succ_cons, modify_mid f e B A]; rfl
section
variable {κ : Type} [DecidableEq κ]
def findS (a : κ) : List (EntS κ) → Nat → Option (Nat × Value)
  | [], _ => none
  | e :: es, i => if a = e.1 then some (i, e.2.1) else findS a es (i + 1)
def getS (a : κ) (es : List (EntS κ)) : Option Value := (findS a es 0).map Prod.snd
def setS (a : κ) (v : Value) (clock : Nat) (es : List (EntS κ)) : List (EntS κ) × Nat := match findS a es 0 with
  | some (i, _) => (es.modify i fun x => (x.1, v, x.2.2), clock)
  | none => (es ++ [(a, v, clock)], clock + 1)
def delS (a : κ) (es : List (EntS κ)) : List (EntS κ) := match findS a es 0 with
  | some (i, _) => es.eraseIdx i
  | none => es
theorem findS_add (a : κ) : ∀ (es : List (EntS κ)) (i : Nat), findS a es i = (findS a es 0).map fun p => (p.1 + i, p.2)
  | [], i => rfl
  | e :: es, i => by
    unfold findS
    split
    · simp
    · rw [findS_add a es (i + 1), findS_add a es (0 + 1)]
      cases findS a es 0 with
      | none => rfl
      | some p => simp; omega
theorem getS_cons (a : κ) (e : EntS κ) (es : List (EntS κ)) : getS a (e :: es) = if a = e.1 then some e.2.1 else getS a es := by
  unfold getS
  rw [findS]
  split
  · rfl
  · rw [findS_add, Option.map_map]; cases findS a es 0 <;> rfl
theorem findS_some {a : κ} : ∀ {es : List (EntS κ)} {k : Nat} {v : Value}, findS a es 0 = some (k, v) → ∃ A e B, es = A ++ e :: B ∧ A.length = k ∧ e.1 = a ∧ e.2.1 = v ∧ ∀ x ∈ A, x.1 ≠ a
  | [], k, v, h => by cases h
  | e :: es, k, v, h => by
    rw [findS] at h
    split at h
    · rename_i ha
      cases h
      exact ⟨[], e, es, rfl, rfl, ha.symm, rfl, by simp⟩
    · rename_i ha
      rw [findS_add] at h
      cases h2 : findS a es 0 with
      | none => rw [h2] at h; cases h
      | some p =>
        obtain ⟨k', v'⟩ := p
        rw [h2] at h
        cases h
        obtain ⟨A, e', B, h3, h4, h5, h6, h7⟩ := findS_some h2
        refine ⟨e :: A, e', B, by rw [h3]; rfl, by simp [h4], h5, h6, fun x hx => ?_⟩
        rcases List.mem_cons.1 hx with rfl | hx
        · exact fun e' => ha e'.symm
        · exact h7 x hx
theorem findS_none {a : κ} : ∀ {es : List (EntS κ)}, findS a es 0 = none ↔ ∀ e ∈ es, e.1 ≠ a
  | [] => by simp [findS]
  | e :: es => by
    rw [findS]
    split
    · rename_i h; simp [h]
    · rename_i h
      rw [findS_add, Option.map_eq_none_iff, findS_none]
      simp only [List.mem_cons, forall_eq_or_imp]
      exact ⟨fun h2 => ⟨fun e' => h e'.symm, h2⟩, fun h2 => h2.2⟩
theorem getS_append (a : κ) (A B : List (EntS κ)) : getS a (A ++ B) = (getS a A).or (getS a B) := by
  induction A with
  | nil => rfl
  | cons e A ih => rw [List.cons_append, getS_cons, getS_cons, ih]; split <;> rfl
theorem getS_set (a b : κ) (v : Value) (clock : Nat) (es : List (EntS κ)) : getS b (setS a v clock es).1 = if b = a then some v else getS b es := by
  unfold setS
  cases h : findS a es 0 with
  | none =>
    simp only
    rw [getS_append, getS_cons]
    split
    · rename_i e; subst e
      unfold getS; rw [h]; rfl
    · simp [getS, findS]
  | some p =>
    obtain ⟨k, u⟩ := p
    obtain ⟨A, e, B, rfl, rfl, h1, h2, h3⟩ := findS_some h
    simp only
    have hm : (A ++ e :: B).modify A.length (fun x => (x.1, v, x.2.2)) = A ++ (e.1, v, e.2.2) :: B := modify_mid _ e B A
    rw [hm, getS_append, getS_append, getS_cons, getS_cons, h1]
    by_cases e' : b = a
    · have : getS b A = none := by unfold getS; rw [e', findS_none.2 h3]; rfl
      rw [this, if_pos e', if_pos e']; rfl
    · rw [if_neg e', if_neg e', if_neg e']
structure KeysOk (es : List (EntS κ)) (clock : Nat) : Prop where
  keys : (es.map (·.1)).Nodup
  stamps : (es.map (·.2.2)).Nodup
  below : ∀ e ∈ es, e.2.2 < clock
theorem KeysOk.set {es : List (EntS κ)} {clock : Nat} (h : KeysOk es clock) (a : κ) (v : Value) : KeysOk (setS a v clock es).1 (setS a v clock es).2 := by
  unfold setS
  cases hf : findS a es 0 with
  | none =>
    have hn := findS_none.1 hf
    simp only
    refine ⟨?_, ?_, fun e he => ?_⟩
    · rw [List.map_append, List.nodup_append]
      exact ⟨h.keys, by simp, fun x hx y hy e => by
        obtain ⟨z, hz, rfl⟩ := List.mem_map.1 hx
        have : y = a := by simpa using hy
        exact hn z hz (by rw [e, this])⟩
    · rw [List.map_append, List.nodup_append]
      exact ⟨h.stamps, by simp, fun x hx y hy e => by
        obtain ⟨z, hz, rfl⟩ := List.mem_map.1 hx
        have h1 : y = clock := by simpa using hy
        have h2 := h.below z hz
        omega⟩
    · rcases List.mem_append.1 he with he | he
      · exact Nat.lt_succ_of_lt (h.below e he)
      · rw [List.mem_singleton.1 he]; exact Nat.lt_succ_self _
  | some p =>
    obtain ⟨k, u⟩ := p
    obtain ⟨A, e, B, rfl, rfl, h1, h2, h3⟩ := findS_some hf
    have hm : (A ++ e :: B).modify A.length (fun x => (x.1, v, x.2.2)) = A ++ (e.1, v, e.2.2) :: B := modify_mid _ e B A
    simp only
    rw [hm]
    refine ⟨by simpa using h.keys, by simpa using h.stamps, fun x hx => ?_⟩
    rcases List.mem_append.1 hx with hx | hx
    · exact h.below x (List.mem_append_left _ hx)
    · rcases List.mem_cons.1 hx with rfl | hx
      · exact h.below e (List.mem_append_right _ List.mem_cons_self)
      · exact h.below x (List.mem_append_right _ (List.mem_cons_of_mem _ hx))
theorem KeysOk.del {es : List (EntS κ)} {clock : Nat} (h : KeysOk es clock) (a : κ) : KeysOk (delS a es) clock := by
  unfold delS
  split
  · have hs : (es.eraseIdx ‹_›).Sublist es := List.eraseIdx_sublist ..
    exact ⟨h.keys.sublist (hs.map _), h.stamps.sublist (hs.map _), fun e he => h.below e (hs.subset he)⟩
  · exact h
theorem getS_del {es : List (EntS κ)} {clock : Nat} (h : KeysOk es clock) (a b : κ) : getS b (delS a es) = if b = a then none else getS b es := by
  unfold delS
  cases hf : findS a es 0 with
  | none =>
    simp only
    split
    · rename_i e; subst e; unfold getS; rw [hf]; rfl
    · rfl
  | some p =>
    obtain ⟨k, u⟩ := p
    obtain ⟨A, e, B, rfl, rfl, h1, h2, h3⟩ := findS_some hf
    have hk := h.keys
    rw [List.map_append, List.map_cons, List.nodup_append] at hk
    obtain ⟨_, hk2, _⟩ := hk
    rw [List.nodup_cons] at hk2
    have he : (A ++ e :: B).eraseIdx A.length = A ++ B := by
      rw [List.eraseIdx_append_of_length_le (Nat.le_refl _), Nat.sub_self]; rfl
    simp only
    rw [he, getS_append, getS_append, getS_cons, h1]
    by_cases e' : b = a
    · rw [if_pos e']
      have n1 : getS b A = none := by unfold getS; rw [e', findS_none.2 h3]; rfl
      have n2 : getS b B = none := by
        unfold getS
        rw [e', findS_none.2 fun x hx hxe => hk2.1 (List.mem_map.2 ⟨x, hx, by rw [hxe, h1]⟩)]; rfl
      rw [n1, n2]; rfl
    · rw [if_neg e', if_neg e']
end
section
variable {P : Program} {ro : Option Nat} {N : Nat} {fr : Fr} {R l : List Chunk} {d : Option Nat} {ty : TypeId} {pos : String} {aft : Array Edge} {g : Option (Nat × Bool)} {x y z : Operand} {v u w : Value} {b m n : Nat} {t t2 T kt et : TypeId}
/-- pointers to blocks -/
theorem run_eqp {tp te : TypeId} {j : TypeInfo} {p q : Addr} {ca cb : Array Value} {ta tb : TypeId} {W : World} (hp : P.underlying tp = some (.pointer te)) (hte : P.info? te = some j) (hsz : j.size ≠ 0) (ha : W.heap[p.block]? = some (.cells ca ta (0, 0))) (hb : W.heap[q.block]? = some (.cells cb tb (0, 0))) :
    (binOp .eql tp (.pointer (some p)) (.pointer (some q))).run P W = .ok (.bool (decide (p = q))) W := by
  by_cases h : p = q
  · subst h; rw [run_eql_ptr_same W p hp hte, decide_eq_true rfl]
  · rw [run_eql_ptr_other W hp hte hsz h ha hb, decide_eq_false h]
theorem run_nep {tp te : TypeId} {j : TypeInfo} {p q : Addr} {ca cb : Array Value} {ta tb : TypeId} {W : World} (hp : P.underlying tp = some (.pointer te)) (hte : P.info? te = some j) (hsz : j.size ≠ 0) (ha : W.heap[p.block]? = some (.cells ca ta (0, 0))) (hb : W.heap[q.block]? = some (.cells cb tb (0, 0))) :
    (binOp .neq tp (.pointer (some p)) (.pointer (some q))).run P W = .ok (.bool (!decide (p = q))) W := by
  have h : ∀ d : Nat, (Op.equalIn (d + 1) tp (.pointer (some p)) (.pointer (some q))).run P W = .ok (decide (p = q)) W := fun d => by
    by_cases h : p = q
    · subst h; simp [Op.equalIn, run_underlying hp, sizeOf, typeInfo, hte, run_sameAddr_same]
    · simp [Op.equalIn, run_underlying hp, sizeOf, typeInfo, hte, hsz, run_sameAddr_other W h ha hb, h]
  simp only [binOp]
  simp [Op.equal, Op.maxDepth, h 9999]
theorem q_eqptr {e : Nat} {p q : Addr} {ca cb : Array Value} {ta tb : TypeId} (hx : ev fr x = some (.pointer (some p))) (hy : ev fr y = some (.pointer (some q))) [c : PT P t e] [oc : AG P e n] (hsz : n ≠ 0) (ha : (p.block, Obj.cells ca ta (0, 0)) ∈ R) (hb : (q.block, Obj.cells cb tb (0, 0)) ∈ R) :
    OpQ P ro N fr R ⟨d, .binOp .eql t x y t2, ty, pos, aft, g⟩ (.bool (decide (p = q))) := ⟨fun l hR => ⟨rfl, fun E a W hf hs => by
  have hρ := hf.agrees
  obtain ⟨uu, inf, _, _, hi, hz⟩ := agV_spec oc.out
  have hex : execOp a.eval ⟨d, .binOp .eql t x y t2, ty, pos, aft, g⟩ = (do pure (.value (← binOp .eql t (.pointer (some p)) (.pointer (some q)))) : Sem Next) := by
    simp only [execOp, hρ x _ hx, hρ y _ hy, eqGuard_ptr, pure_bind]
  unfold OpVal
  rw [hex, Sem.run_bind, run_eqp (ptV_spec c.out) hi (by rw [hz]; exact hsz) (hs.has _ (hR _ ha)) (hs.has _ (hR _ hb))]
  exact ⟨l, ⟨rfl, rfl⟩, hs⟩⟩⟩
theorem q_neptr {e : Nat} {p q : Addr} {ca cb : Array Value} {ta tb : TypeId} (hx : ev fr x = some (.pointer (some p))) (hy : ev fr y = some (.pointer (some q))) [c : PT P t e] [oc : AG P e n] (hsz : n ≠ 0) (ha : (p.block, Obj.cells ca ta (0, 0)) ∈ R) (hb : (q.block, Obj.cells cb tb (0, 0)) ∈ R) :
    OpQ P ro N fr R ⟨d, .binOp .neq t x y t2, ty, pos, aft, g⟩ (.bool (!decide (p = q))) := ⟨fun l hR => ⟨rfl, fun E a W hf hs => by
  have hρ := hf.agrees
  obtain ⟨uu, inf, _, _, hi, hz⟩ := agV_spec oc.out
  have hex : execOp a.eval ⟨d, .binOp .neq t x y t2, ty, pos, aft, g⟩ = (do pure (.value (← binOp .neq t (.pointer (some p)) (.pointer (some q)))) : Sem Next) := by
    simp only [execOp, hρ x _ hx, hρ y _ hy, eqGuard_ptr, pure_bind]
  unfold OpVal
  rw [hex, Sem.run_bind, run_nep (ptV_spec c.out) hi (by rw [hz]; exact hsz) (hs.has _ (hR _ ha)) (hs.has _ (hR _ hb))]
  exact ⟨l, ⟨rfl, rfl⟩, hs⟩⟩⟩
end
end Go.Proofs.Ytmmohklaiffkmaa
