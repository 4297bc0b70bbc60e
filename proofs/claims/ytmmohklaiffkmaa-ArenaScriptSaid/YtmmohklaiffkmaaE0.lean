/- == of structs and arrays of numbers and bools. Laws of my own, no program's. -/
import Derived.Test.YtmmohklaiffkmaaS9
import Derived.Test.YtmmohklaiffkmaaG0
set_option linter.unusedVariables false
set_option linter.unusedSimpArgs false
namespace Go.Proofs.Ytmmohklaiffkmaa
open Go.RowKit

def CellK : Option IntKind → Value → Prop
  | some k, v => ∃ a : Int, v = .int k a
  | none, v => ∃ b : Bool, v = .bool b
def AllK : List (Option IntKind) → List Value → Prop
  | [], cs => cs = []
  | k :: ks, cs => ∃ c r, cs = c :: r ∧ CellK k c ∧ AllK ks r
theorem AllK.len {a : List (Option IntKind)} {x : List Value} (h : AllK a x) : x.length = a.length := by
  induction a generalizing x with
  | nil => cases h; rfl
  | cons q a ih => obtain ⟨c, r, rfl, h1, h2⟩ := h; simp [ih h2]
def aggT (P : Program) (t : TypeId) : Bool := match P.underlying t with
  | some (.struct _) | some (.array _ _) => true
  | _ => false
/-- the kinds of the cells of a type that == compares cell by cell -/
def eqK (P : Program) : Nat → TypeId → Option (List (Option IntKind))
  | 0, _ => none
  | n + 1, t => match P.underlying t with
    | some (.int k) => some [some k]
    | some .bool => some [none]
    | some (.struct fs) => if P.stoodInHeld t then none else
      fs.toList.foldl (fun acc f => acc.bind fun l => (eqK P n f.type).bind fun ks => if f.offset = l.length ∧ f.name ≠ "_" ∧ (P.info? f.type).map (·.size) = some ks.length then some (l ++ ks) else none) (some [])
    | some (.array len e) => (eqK P n e).bind fun ks => if (P.info? e).map (·.size) = some ks.length then some (List.replicate len ks).flatten else none
    | _ => none
def valOf (P : Program) (t : TypeId) (xs : List Value) : Value := if aggT P t then .agg xs.toArray else xs.headD undef

section
variable {P : Program}
variable {t : TypeId} {α : Type} {f : Value → Sem α} {l : List Chunk} {Q : α → List Chunk → Prop}
theorem sl_pieceA {d : TypeDesc} {inf : TypeInfo} (hu : P.underlying t = some d) (ha : isAggD d = true) (hi : P.info? t = some inf) (cs : List Value) (off : Nat) :
    sl P (part t cs.toArray off >>= f) l Q ↔ sl P (f (.agg ((cs.drop off).take inf.size).toArray)) l Q := by
  unfold part
  rw [sl_bind, sl_isAgg hu, ha]
  simp only [if_true]
  rw [sl_sizeOf hi]
  have e : cs.toArray.extract off (off + inf.size) = ((cs.drop off).take inf.size).toArray := by
    apply Array.toList_inj.1
    rw [Array.toList_extract, List.extract_eq_take_drop]
    simp
  rw [e]
  exact Iff.rfl
theorem sl_pieceS {d : TypeDesc} {v : Value} (hu : P.underlying t = some d) (ha : isAggD d = false) (cs : List Value) (off : Nat) (hv : cs[off]? = some v) :
    sl P (part t cs.toArray off >>= f) l Q ↔ sl P (f v) l Q := by
  unfold part
  rw [sl_bind, sl_isAgg hu, ha]
  simp only [Bool.false_eq_true, if_false, List.getElem?_toArray, hv]
  exact Iff.rfl
def eqCell : Value → Value → Bool
  | .int _ a, .int _ b => a == b
  | .bool a, .bool b => a == b
  | _, _ => false
def eqCells : List Value → List Value → Bool
  | x :: xs, y :: ys => eqCell x y && eqCells xs ys
  | _, _ => true
theorem eqCells_append : ∀ (a b c d : List Value), a.length = b.length → eqCells (a ++ c) (b ++ d) = (eqCells a b && eqCells c d)
  | [], [], c, d, _ => by simp [eqCells]
  | x :: a, y :: b, c, d, h => by simp only [List.cons_append, eqCells, eqCells_append a b c d (by simpa using h), Bool.and_assoc]
theorem eqCells_self : ∀ {ks : List (Option IntKind)} {a : List Value}, AllK ks a → eqCells a a = true
  | [], a, h => by cases h; rfl
  | none :: ks, a, h => by obtain ⟨c, r, rfl, ⟨b, rfl⟩, h2⟩ := h; simp [eqCells, eqCell, eqCells_self h2]
  | some k :: ks, a, h => by obtain ⟨c, r, rfl, ⟨b, rfl⟩, h2⟩ := h; simp [eqCells, eqCell, eqCells_self h2]
theorem sl_for {β : Type} (r : β → Bool) (body : β → Option Bool × Unit → Sem (ForInStep (Option Bool × Unit))) (k : Option Bool × Unit → Sem Bool) (k1 : k (none, ()) = pure true) (k2 : k (some false, ()) = pure false) {Q : Bool → List Chunk → Prop} {l : List Chunk} : ∀ (xs : List β), (∀ x ∈ xs, ∀ (Q : ForInStep (Option Bool × Unit) → List Chunk → Prop) l, sl P (body x (none, ())) l Q ↔ Q (if r x then .yield (none, ()) else .done (some false, ())) l) →
    (sl P (forIn xs ((none : Option Bool), ()) body >>= k) l Q ↔ Q (xs.all r) l)
  | [], _ => by simp only [List.forIn_nil, sl_bind, sl_pure, List.all_nil, k1]
  | x :: xs, h => by
    rw [sl_bind, List.forIn_cons, sl_bind, h x List.mem_cons_self, List.all_cons]
    cases hr : r x with
    | true =>
      simp only [if_true, Bool.true_and]
      rw [← sl_bind]
      exact sl_for r body k k1 k2 xs fun y hy => h y (List.mem_cons_of_mem _ hy)
    | false =>
      simp only [Bool.false_eq_true, if_false, Bool.false_and, sl_pure, k2]
theorem AllK.take_left {a b : List (Option IntKind)} {x : List Value} (h : AllK (a ++ b) x) : AllK a (x.take a.length) := by
  induction a generalizing x with
  | nil => simp [AllK]
  | cons k a ih => obtain ⟨c, r, rfl, h1, h2⟩ := h; exact ⟨c, r.take a.length, by simp, h1, ih h2⟩
theorem AllK.drop_left {a b : List (Option IntKind)} {x : List Value} (h : AllK (a ++ b) x) : AllK b (x.drop a.length) := by
  induction a generalizing x with
  | nil => simpa using h
  | cons k a ih => obtain ⟨c, r, rfl, h1, h2⟩ := h; simpa using ih h2
theorem eqCells_split (xs ys : List Value) (m : Nat) (h : xs.length = ys.length) : eqCells xs ys = (eqCells (xs.take m) (ys.take m) && eqCells (xs.drop m) (ys.drop m)) := by
  rw [← eqCells_append _ _ _ _ (by simp [h]), List.take_append_drop, List.take_append_drop]
def sizeT (P : Program) (t : TypeId) : Nat := ((P.info? t).map (·.size)).getD 0
def pieceEq (P : Program) (xs ys : List Value) (f : Field) : Bool := eqCells ((xs.drop f.offset).take (sizeT P f.type)) ((ys.drop f.offset).take (sizeT P f.type))
structure PieceOk (P : Program) (n : Nat) (xs ys : List Value) (f : Field) (kf : List (Option IntKind)) : Prop where
  kinds : eqK P n f.type = some kf
  named : f.name ≠ "_"
  size : (P.info? f.type).map (·.size) = some kf.length
  x : AllK kf ((xs.drop f.offset).take kf.length)
  y : AllK kf ((ys.drop f.offset).take kf.length)
theorem eqK_fields (n : Nat) (xs ys : List Value) : ∀ (fs : List Field) (l ks : List (Option IntKind)),
    fs.foldl (fun acc f => acc.bind fun l => (eqK P n f.type).bind fun ks => if f.offset = l.length ∧ f.name ≠ "_" ∧ (P.info? f.type).map (·.size) = some ks.length then some (l ++ ks) else none) (some l) = some ks →
    ∃ rest, ks = l ++ rest ∧ (AllK ks xs → AllK ks ys → (∀ f ∈ fs, ∃ kf, PieceOk P n xs ys f kf) ∧ eqCells (xs.drop l.length) (ys.drop l.length) = fs.all (pieceEq P xs ys)) := by
  intro fs
  induction fs with
  | nil =>
    intro l ks h
    simp only [List.foldl_nil, Option.some.injEq] at h
    subst h
    refine ⟨[], by simp, fun hx hy => ⟨by simp, ?_⟩⟩
    rw [List.drop_of_length_le (by rw [hx.len]; exact Nat.le_refl _), List.drop_of_length_le (by rw [hy.len]; exact Nat.le_refl _)]
    rfl
  | cons f fs ih =>
    intro l ks h
    simp only [List.foldl_cons, Option.bind_some] at h
    cases hk : eqK P n f.type with
    | none => rw [hk] at h; simp only [Option.bind_none] at h; rw [foldl_none] at h; cases h
    | some kf =>
      rw [hk] at h
      simp only [Option.bind_some] at h
      by_cases hc : f.offset = l.length ∧ f.name ≠ "_" ∧ (P.info? f.type).map (·.size) = some kf.length
      · rw [if_pos hc] at h
        obtain ⟨rest, hr, hrest⟩ := ih _ _ h
        refine ⟨kf ++ rest, by rw [hr, List.append_assoc], fun hx hy => ?_⟩
        obtain ⟨g1, g2⟩ := hrest hx hy
        have hx1 : AllK kf ((xs.drop f.offset).take kf.length) := by rw [hc.1]; rw [hr, List.append_assoc] at hx; exact hx.drop_left.take_left
        have hy1 : AllK kf ((ys.drop f.offset).take kf.length) := by rw [hc.1]; rw [hr, List.append_assoc] at hy; exact hy.drop_left.take_left
        refine ⟨fun g hg => ?_, ?_⟩
        · rcases List.mem_cons.1 hg with rfl | hg
          · exact ⟨kf, hk, hc.2.1, hc.2.2, hx1, hy1⟩
          · exact g1 g hg
        · rw [List.all_cons, ← g2, eqCells_split _ _ kf.length (by simp [hx.len, hy.len])]
          simp only [pieceEq, sizeT, hc.2.2, Option.getD_some, hc.1, List.drop_drop, List.length_append]
      · rw [if_neg hc, foldl_none] at h; cases h
theorem sl_piece {n : Nat} {t : TypeId} {α : Type} {f : Value → Sem α} {l : List Chunk} {Q : α → List Chunk → Prop} {kf : List (Option IntKind)} (h : eqK P n t = some kf) (hs : (P.info? t).map (·.size) = some kf.length) (cs : List Value) (off : Nat) (hx : AllK kf ((cs.drop off).take kf.length)) :
    sl P (part t cs.toArray off >>= f) l Q ↔ sl P (f (valOf P t ((cs.drop off).take kf.length))) l Q := by
  have hi : ∃ inf, P.info? t = some inf ∧ inf.size = kf.length := by
    cases hh : P.info? t with
    | none => rw [hh] at hs; cases hs
    | some inf => rw [hh] at hs; exact ⟨inf, rfl, by simpa using hs⟩
  obtain ⟨inf, hi1, hi2⟩ := hi
  have scal : ∀ {d : TypeDesc} {k : Option IntKind}, P.underlying t = some d → isAggD d = false → aggT P t = false → kf = [k] → (sl P (part t cs.toArray off >>= f) l Q ↔ sl P (f (valOf P t ((cs.drop off).take kf.length))) l Q) := by
    intro d k hu ha hb hkf
    subst hkf
    obtain ⟨c, r, e1, _, e2⟩ := hx
    have hg : cs[off]? = some c := by
      have := congrArg (fun z => z[0]?) e1
      simpa using this
    rw [sl_pieceS hu ha cs off hg]
    unfold valOf
    rw [hb, e1]
    exact Iff.rfl
  have agg : ∀ {d : TypeDesc}, P.underlying t = some d → isAggD d = true → aggT P t = true → (sl P (part t cs.toArray off >>= f) l Q ↔ sl P (f (valOf P t ((cs.drop off).take kf.length))) l Q) := by
    intro d hu ha hb
    rw [sl_pieceA hu ha hi1 cs off, hi2]
    unfold valOf
    rw [hb]
    exact Iff.rfl
  cases n with
  | zero => cases h
  | succ n =>
    unfold eqK at h
    split at h
    · rename_i k hu; cases h; exact scal hu rfl (by unfold aggT; rw [hu]) rfl
    · rename_i hu; cases h; exact scal hu rfl (by unfold aggT; rw [hu]) rfl
    · rename_i fs hu; exact agg hu rfl (by unfold aggT; rw [hu])
    · rename_i len e hu; exact agg hu rfl (by unfold aggT; rw [hu])
    · cases h
theorem eqK_rows (kf : List (Option IntKind)) : ∀ (len : Nat) (xs ys : List Value), AllK (List.replicate len kf).flatten xs → AllK (List.replicate len kf).flatten ys →
    (∀ i, i < len → AllK kf ((xs.drop (i * kf.length)).take kf.length) ∧ AllK kf ((ys.drop (i * kf.length)).take kf.length)) ∧
      eqCells xs ys = (List.range' 0 len).all fun i => eqCells ((xs.drop (i * kf.length)).take kf.length) ((ys.drop (i * kf.length)).take kf.length) := by
  intro len
  induction len with
  | zero => intro xs ys hx hy; cases hx; cases hy; exact ⟨fun i hi => by omega, rfl⟩
  | succ len ih =>
    intro xs ys hx hy
    rw [List.replicate_succ, List.flatten_cons] at hx hy
    obtain ⟨h1, h2⟩ := ih _ _ hx.drop_left hy.drop_left
    have sh : ∀ i (z : List Value), (z.drop kf.length).drop (i * kf.length) = z.drop ((i + 1) * kf.length) := fun i z => by rw [List.drop_drop]; congr 1; rw [Nat.succ_mul]; omega
    refine ⟨fun i hi => ?_, ?_⟩
    · cases i with
      | zero => simpa using And.intro hx.take_left hy.take_left
      | succ i => have := h1 i (by omega); rw [sh, sh] at this; exact this
    · rw [eqCells_split _ _ kf.length (by rw [hx.len, hy.len]), h2, List.range'_succ, List.all_cons]
      congr 1
      · simp
      · have e : List.range' (0 + 1) len = (List.range' 0 len).map (· + 1) := by simp [List.range'_eq_map_range, Function.comp_def, Nat.add_comm]
        rw [e, List.all_map]
        congr 1
        funext i
        simp only [Function.comp, sh]
theorem sl_eqIn : ∀ (n d : Nat) (t : TypeId) (ks : List (Option IntKind)), eqK P n t = some ks → n ≤ d → ∀ (xs ys : List Value), AllK ks xs → AllK ks ys → ∀ (Q : Bool → List Chunk → Prop) (l : List Chunk),
    (sl P (Op.equalIn d t (valOf P t xs) (valOf P t ys)) l Q ↔ Q (eqCells xs ys) l) := by
  intro n
  induction n with
  | zero => intro d t ks h; cases h
  | succ n ih =>
    intro d t ks h hd xs ys hx hy Q l
    obtain ⟨d, rfl⟩ : ∃ e, d = e + 1 := ⟨d - 1, by omega⟩
    unfold eqK at h
    split at h
    · rename_i k hu
      cases h
      obtain ⟨_, _, rfl, ⟨a, rfl⟩, rfl⟩ := hx
      obtain ⟨_, _, rfl, ⟨b, rfl⟩, rfl⟩ := hy
      simp only [valOf, aggT, hu, Bool.false_eq_true, if_false, List.headD_cons]
      unfold Op.equalIn
      rw [sl_under hu]
      simp [eqCells, eqCell, sl_pure]
    · rename_i hu
      cases h
      obtain ⟨_, _, rfl, ⟨a, rfl⟩, rfl⟩ := hx
      obtain ⟨_, _, rfl, ⟨b, rfl⟩, rfl⟩ := hy
      simp only [valOf, aggT, hu, Bool.false_eq_true, if_false, List.headD_cons]
      unfold Op.equalIn
      rw [sl_under hu]
      simp [eqCells, eqCell, sl_pure]
    · rename_i fs hu
      by_cases hst : P.stoodInHeld t = true
      · rw [if_pos hst] at h; cases h
      rw [if_neg hst] at h
      obtain ⟨rest, hr, hrest⟩ := eqK_fields n xs ys fs.toList [] ks h
      obtain ⟨g1, g2⟩ := hrest hx hy
      simp only [List.length_nil, List.drop_zero] at g2
      have hag : aggT P t = true := by unfold aggT; rw [hu]
      simp only [valOf, hag, if_true]
      unfold Op.equalIn
      rw [sl_under hu]
      simp only
      rw [sl_program, Bool.eq_false_iff.2 hst]
      simp only [Bool.false_eq_true, if_false]
      rw [g2, ← Array.forIn_toList]
      refine sl_for (pieceEq P xs ys) _ _ rfl rfl fs.toList fun f hf Q l => ?_
      obtain ⟨kf, ok⟩ := g1 f hf
      rw [if_pos ok.named, sl_piece ok.kinds ok.size xs f.offset ok.x, sl_piece ok.kinds ok.size ys f.offset ok.y, sl_bind, ih d f.type kf ok.kinds (by omega) _ _ ok.x ok.y]
      simp only [pieceEq, sizeT, ok.size, Option.getD_some]
      cases eqCells (List.take kf.length (List.drop f.offset xs)) (List.take kf.length (List.drop f.offset ys)) <;> simp [sl_pure]
    · rename_i len e hu
      obtain ⟨kf, hk, hk2⟩ := Option.bind_eq_some_iff.1 h
      by_cases hs : (P.info? e).map (·.size) = some kf.length
      · rw [if_pos hs] at hk2
        cases hk2
        obtain ⟨g1, g2⟩ := eqK_rows kf len xs ys hx hy
        have hag : aggT P t = true := by unfold aggT; rw [hu]
        have hi : ∃ inf, P.info? e = some inf ∧ inf.size = kf.length := by
          cases hh : P.info? e with
          | none => rw [hh] at hs; cases hs
          | some inf => rw [hh] at hs; exact ⟨inf, rfl, by simpa using hs⟩
        obtain ⟨inf, hi1, hi2⟩ := hi
        simp only [valOf, hag, if_true]
        unfold Op.equalIn
        rw [sl_under hu]
        simp only
        rw [sl_sizeOf hi1, hi2, g2]
        rw [Std.Legacy.Range.forIn_eq_forIn_range']
        have hsz : Std.Legacy.Range.size [:len] = len := by simp [Std.Legacy.Range.size]
        rw [hsz]
        refine sl_for (fun i => eqCells ((xs.drop (i * kf.length)).take kf.length) ((ys.drop (i * kf.length)).take kf.length)) _ _ rfl rfl (List.range' 0 len) fun i hf Q l => ?_
        have hil : i < len := by have := List.mem_range'_1.1 hf; omega
        obtain ⟨o1, o2⟩ := g1 i hil
        rw [sl_piece hk hs xs _ o1, sl_piece hk hs ys _ o2, sl_bind, ih d e kf hk (by omega) _ _ o1 o2]
        cases eqCells (List.take kf.length (List.drop (i * kf.length) xs)) (List.take kf.length (List.drop (i * kf.length) ys)) <;> simp [sl_pure]
      · rw [if_neg hs] at hk2; cases hk2
    · cases h
def eqV (P : Program) (t : TypeId) : Option (List (Option IntKind)) := if aggT P t = true ∧ P.eqGuardType P.depth t = false then eqK P 20 t else none
class EQ (P : Program) (t : Nat) (ks : outParam (List (Option IntKind))) : Prop where out : eqV P t = some ks
theorem eqV_spec {t : TypeId} {ks : List (Option IntKind)} (h : eqV P t = some ks) : aggT P t = true ∧ P.eqGuardType P.depth t = false ∧ eqK P 20 t = some ks := by
  unfold eqV at h
  split at h
  · rename_i hc; exact ⟨hc.1, hc.2, h⟩
  · cases h
variable {ro : Option Nat} {N : Nat} {fr : Fr} {R : List Chunk} {d : Option Nat} {ty : TypeId} {pos : String} {aft : Array Edge} {g : Option (Nat × Bool)} {x y : Operand} {t t2 : TypeId} {xs ys : List Value} {ks : List (Option IntKind)}
theorem sl_eqGuard {op : BinOp} {xa ya : Array Value} {α : Type} {f : Unit → Sem α} {l : List Chunk} {Q : α → List Chunk → Prop} (hg : P.eqGuardType P.depth t = false) : sl P (eqGuard op t x y (.agg xa) (.agg ya) >>= f) l Q ↔ sl P (f ()) l Q := by
  have key : ∀ bb : Bool, sl P ((if (!bb) = true then (pure () : Sem Unit) else do
      let p ← program
      let q ← program
      if (!p.eqGuardType q.depth t) = true then pure () else do
        let r ← Op.eqGuardIn Op.maxDepth t (.agg xa) (.agg ya)
        if r = true then unsupported (Unsupported.noEntry "binop/eql: two nil values of an interface type with methods, in a part of a struct or an array") else pure ()) >>= f) l Q ↔ sl P (f ()) l Q := by
    intro bb
    cases bb with
    | false => exact Iff.rfl
    | true =>
      rw [sl_bind]
      simp only [Bool.not_true, Bool.false_eq_true, if_false]
      rw [sl_program, sl_program, hg]
      exact Iff.rfl
  unfold eqGuard
  split
  · exact key true
  · exact key true
  · exact key false
theorem q_eqagg [c : EQ P t ks] (hx : ev fr x = some (.agg (List.toArray xs))) (hy : ev fr y = some (.agg (List.toArray ys))) (kx : AllK ks xs) (ky : AllK ks ys) : OpQ P ro N fr R ⟨d, .binOp .eql t x y t2, ty, pos, aft, g⟩ (.bool (eqCells xs ys)) := opQ_of_sl rfl fun ρ l hρ _ => by
  obtain ⟨e1, e2, e3⟩ := eqV_spec c.out
  simp only [execOp, hρ x _ hx, hρ y _ hy]
  rw [sl_bind, sl_eqGuard e2]
  have h := sl_eqIn 20 Op.maxDepth t ks e3 (by decide) xs ys kx ky
  unfold valOf at h
  rw [e1] at h
  simp only [if_true] at h
  simp only [binOp, Op.equal, sl_bind, h, sl_pure]
  exact ⟨trivial, trivial⟩
theorem q_neagg [c : EQ P t ks] (hx : ev fr x = some (.agg (List.toArray xs))) (hy : ev fr y = some (.agg (List.toArray ys))) (kx : AllK ks xs) (ky : AllK ks ys) : OpQ P ro N fr R ⟨d, .binOp .neq t x y t2, ty, pos, aft, g⟩ (.bool (!eqCells xs ys)) := opQ_of_sl rfl fun ρ l hρ _ => by
  obtain ⟨e1, e2, e3⟩ := eqV_spec c.out
  simp only [execOp, hρ x _ hx, hρ y _ hy]
  rw [sl_bind, sl_eqGuard e2]
  have h := sl_eqIn 20 Op.maxDepth t ks e3 (by decide) xs ys kx ky
  unfold valOf at h
  rw [e1] at h
  simp only [if_true] at h
  simp only [binOp, Op.equal, sl_bind, h, sl_pure]
  exact ⟨trivial, trivial⟩
theorem q_eqself [c : EQ P t ks] (hx : ev fr x = some (.agg (List.toArray xs))) (hy : ev fr y = some (.agg (List.toArray xs))) (kx : AllK ks xs) : OpQ P ro N fr R ⟨d, .binOp .eql t x y t2, ty, pos, aft, g⟩ (.bool true) := by
  have := q_eqagg (P := P) (ro := ro) (N := N) (R := R) (d := d) (ty := ty) (pos := pos) (aft := aft) (g := g) (t2 := t2) (c := c) hx hy kx kx
  rwa [eqCells_self kx] at this
theorem q_neself [c : EQ P t ks] (hx : ev fr x = some (.agg (List.toArray xs))) (hy : ev fr y = some (.agg (List.toArray xs))) (kx : AllK ks xs) : OpQ P ro N fr R ⟨d, .binOp .neq t x y t2, ty, pos, aft, g⟩ (.bool false) := by
  have := q_neagg (P := P) (ro := ro) (N := N) (R := R) (d := d) (ty := ty) (pos := pos) (aft := aft) (g := g) (t2 := t2) (c := c) hx hy kx kx
  rwa [eqCells_self kx] at this
end
def allKb : List (Option IntKind) → List Value → Bool
  | [], [] => true
  | some k :: ks, .int k' _ :: cs => decide (k = k') && allKb ks cs
  | none :: ks, .bool _ :: cs => allKb ks cs
  | _, _ => false
theorem allK_of : ∀ {ks : List (Option IntKind)} {cs : List Value}, allKb ks cs = true → AllK ks cs
  | [], [], _ => rfl
  | some k :: ks, .int k' a :: cs, h => by
    simp only [allKb, Bool.and_eq_true, decide_eq_true_eq] at h
    exact ⟨_, _, rfl, ⟨a, by rw [h.1]⟩, allK_of h.2⟩
  | none :: ks, .bool b :: cs, h => ⟨_, _, rfl, ⟨b, rfl⟩, allK_of h⟩
end Go.Proofs.Ytmmohklaiffkmaa
