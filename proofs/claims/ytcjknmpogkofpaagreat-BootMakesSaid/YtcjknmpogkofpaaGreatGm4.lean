/- Laws that the statement's proof leans on (joined out of several texts). -/
import Derived.Test.YtcjknmpogkofpaaGreatGm3
import Derived.Test.YtcjknmpogkofpaaGreatGm1
import Derived.LaidEqlPtr
import Derived.Test.YtcjknmpogkofpaaGreatGm2
set_option linter.unusedVariables false
set_option linter.unusedSimpArgs false
set_option linter.unusedSectionVars false
namespace Go.Proofs.YtcjknmpogkofpaaGreat
open Go.RowKit
def CellK : Option IntKind → Value → Prop
  | some k, v => ∃ a : Int, v = .int k a
  | none, v => ∃ b : Bool, v = .bool b
def AllK : List (Option IntKind) → List Value → Prop
  | [], cs => cs = []
  | k :: ks, cs => ∃ c r, cs = c :: r ∧ CellK k c ∧ AllK ks r
theorem AllK.len {a : List (Option IntKind)} {x : List Value} (h : AllK a x) : x.length = a.length := by
  induction a generalizing x with
  | nil => cases h; rfl
  | cons q a ih => obtain ⟨c, r, rfl, h1, h2⟩ := h; simp [ih h2]
def aggT (P : Program) (t : TypeId) : Bool := match P.underlying t with
  | some (.struct _) | some (.array _ _) => true
  | _ => false
def eqK (P : Program) : Nat → TypeId → Option (List (Option IntKind))
  | 0, _ => none
  | n + 1, t => match P.underlying t with
    | some (.int k) => some [some k]
    | some .bool => some [none]
    | some (.struct fs) => if P.stoodInHeld t then none else
      fs.toList.foldl (fun acc f => acc.bind fun l => (eqK P n f.type).bind fun ks => if f.offset = l.length ∧ f.name ≠ "_" ∧ (P.info? f.type).map (·.size) = some ks.length then some (l ++ ks) else none) (some [])
    | some (.array len e) => (eqK P n e).bind fun ks => if (P.info? e).map (·.size) = some ks.length then some (List.replicate len ks).flatten else none
    | _ => none
def valOf (P : Program) (t : TypeId) (xs : List Value) : Value := if aggT P t then .agg xs.toArray else xs.headD undef
section
variable {P : Program}
variable {t : TypeId} {α : Type} {f : Value → Sem α} {l : List Chunk} {Q : α → List Chunk → Prop}
theorem sl_pieceA {d : TypeDesc} {inf : TypeInfo} (hu : P.underlying t = some d) (ha : isAggD d = true) (hi : P.info? t = some inf) (cs : List Value) (off : Nat) :
    sl P (part t cs.toArray off >>= f) l Q ↔ sl P (f (.agg ((cs.drop off).take inf.size).toArray)) l Q := by
  unfold part
  rw [sl_bind, sl_isAgg hu, ha]
  simp only [if_true]
  rw [sl_sizeOf hi]
  have e : cs.toArray.extract off (off + inf.size) = ((cs.drop off).take inf.size).toArray := by
    apply Array.toList_inj.1
    rw [Array.toList_extract, List.extract_eq_take_drop]
    simp
  rw [e]
  exact Iff.rfl
theorem sl_pieceS {d : TypeDesc} {v : Value} (hu : P.underlying t = some d) (ha : isAggD d = false) (cs : List Value) (off : Nat) (hv : cs[off]? = some v) :
    sl P (part t cs.toArray off >>= f) l Q ↔ sl P (f v) l Q := by
  unfold part
  rw [sl_bind, sl_isAgg hu, ha]
  simp only [Bool.false_eq_true, if_false, List.getElem?_toArray, hv]
  exact Iff.rfl
def eqCell : Value → Value → Bool
  | .int _ a, .int _ b => a == b
  | .bool a, .bool b => a == b
  | _, _ => false
def eqCells : List Value → List Value → Bool
  | x :: xs, y :: ys => eqCell x y && eqCells xs ys
  | _, _ => true
theorem eqCells_append : ∀ (a b c d : List Value), a.length = b.length → eqCells (a ++ c) (b ++ d) = (eqCells a b && eqCells c d)
  | [], [], c, d, _ => by simp [eqCells]
  | x :: a, y :: b, c, d, h => by simp only [List.cons_append, eqCells, eqCells_append a b c d (by simpa using h), Bool.and_assoc]
theorem eqCells_self : ∀ {ks : List (Option IntKind)} {a : List Value}, AllK ks a → eqCells a a = true
  | [], a, h => by cases h; rfl
  | none :: ks, a, h => by obtain ⟨c, r, rfl, ⟨b, rfl⟩, h2⟩ := h; simp [eqCells, eqCell, eqCells_self h2]
  | some k :: ks, a, h => by obtain ⟨c, r, rfl, ⟨b, rfl⟩, h2⟩ := h; simp [eqCells, eqCell, eqCells_self h2]
theorem sl_for {β : Type} (r : β → Bool) (body : β → Option Bool × Unit → Sem (ForInStep (Option Bool × Unit))) (k : Option Bool × Unit → Sem Bool) (k1 : k (none, ()) = pure true) (k2 : k (some false, ()) = pure false) {Q : Bool → List Chunk → Prop} {l : List Chunk} : ∀ (xs : List β), (∀ x ∈ xs, ∀ (Q : ForInStep (Option Bool × Unit) → List Chunk → Prop) l, sl P (body x (none, ())) l Q ↔ Q (if r x then .yield (none, ()) else .done (some false, ())) l) →
    (sl P (forIn xs ((none : Option Bool), ()) body >>= k) l Q ↔ Q (xs.all r) l)
  | [], _ => by simp only [List.forIn_nil, sl_bind, sl_pure, List.all_nil, k1]
  | x :: xs, h => by
    rw [sl_bind, List.forIn_cons, sl_bind, h x List.mem_cons_self, List.all_cons]
    cases hr : r x with
    | true =>
      simp only [if_true, Bool.true_and]
      rw [← sl_bind]
      exact sl_for r body k k1 k2 xs fun y hy => h y (List.mem_cons_of_mem _ hy)
    | false =>
      simp only [Bool.false_eq_true, if_false, Bool.false_and, sl_pure, k2]
theorem AllK.take_left {a b : List (Option IntKind)} {x : List Value} (h : AllK (a ++ b) x) : AllK a (x.take a.length) := by
  induction a generalizing x with
  | nil => simp [AllK]
  | cons k a ih => obtain ⟨c, r, rfl, h1, h2⟩ := h; exact ⟨c, r.take a.length, by simp, h1, ih h2⟩
theorem AllK.drop_left {a b : List (Option IntKind)} {x : List Value} (h : AllK (a ++ b) x) : AllK b (x.drop a.length) := by
  induction a generalizing x with
  | nil => simpa using h
  | cons k a ih => obtain ⟨c, r, rfl, h1, h2⟩ := h; simpa using ih h2
theorem eqCells_split (xs ys : List Value) (m : Nat) (h : xs.length = ys.length) : eqCells xs ys = (eqCells (xs.take m) (ys.take m) && eqCells (xs.drop m) (ys.drop m)) := by
  rw [← eqCells_append _ _ _ _ (by simp [h]), List.take_append_drop, List.take_append_drop]
def sizeT (P : Program) (t : TypeId) : Nat := ((P.info? t).map (·.size)).getD 0
def pieceEq (P : Program) (xs ys : List Value) (f : Field) : Bool := eqCells ((xs.drop f.offset).take (sizeT P f.type)) ((ys.drop f.offset).take (sizeT P f.type))
structure PieceOk (P : Program) (n : Nat) (xs ys : List Value) (f : Field) (kf : List (Option IntKind)) : Prop where
  kinds : eqK P n f.type = some kf
  named : f.name ≠ "_"
  size : (P.info? f.type).map (·.size) = some kf.length
  x : AllK kf ((xs.drop f.offset).take kf.length)
  y : AllK kf ((ys.drop f.offset).take kf.length)
theorem eqK_fields (n : Nat) (xs ys : List Value) : ∀ (fs : List Field) (l ks : List (Option IntKind)),
    fs.foldl (fun acc f => acc.bind fun l => (eqK P n f.type).bind fun ks => if f.offset = l.length ∧ f.name ≠ "_" ∧ (P.info? f.type).map (·.size) = some ks.length then some (l ++ ks) else none) (some l) = some ks →
    ∃ rest, ks = l ++ rest ∧ (AllK ks xs → AllK ks ys → (∀ f ∈ fs, ∃ kf, PieceOk P n xs ys f kf) ∧ eqCells (xs.drop l.length) (ys.drop l.length) = fs.all (pieceEq P xs ys)) := by
  intro fs
  induction fs with
  | nil =>
    intro l ks h
    simp only [List.foldl_nil, Option.some.injEq] at h
    subst h
    refine ⟨[], by simp, fun hx hy => ⟨by simp, ?_⟩⟩
    rw [List.drop_of_length_le (by rw [hx.len]; exact Nat.le_refl _), List.drop_of_length_le (by rw [hy.len]; exact Nat.le_refl _)]
    rfl
  | cons f fs ih =>
    intro l ks h
    simp only [List.foldl_cons, Option.bind_some] at h
    cases hk : eqK P n f.type with
    | none => rw [hk] at h; simp only [Option.bind_none] at h; rw [foldl_none] at h; cases h
    | some kf =>
      rw [hk] at h
      simp only [Option.bind_some] at h
      by_cases hc : f.offset = l.length ∧ f.name ≠ "_" ∧ (P.info? f.type).map (·.size) = some kf.length
      · rw [if_pos hc] at h
        obtain ⟨rest, hr, hrest⟩ := ih _ _ h
        refine ⟨kf ++ rest, by rw [hr, List.append_assoc], fun hx hy => ?_⟩
        obtain ⟨g1, g2⟩ := hrest hx hy
        have hx1 : AllK kf ((xs.drop f.offset).take kf.length) := by rw [hc.1]; rw [hr, List.append_assoc] at hx; exact hx.drop_left.take_left
        have hy1 : AllK kf ((ys.drop f.offset).take kf.length) := by rw [hc.1]; rw [hr, List.append_assoc] at hy; exact hy.drop_left.take_left
        refine ⟨fun g hg => ?_, ?_⟩
        · rcases List.mem_cons.1 hg with rfl | hg
          · exact ⟨kf, hk, hc.2.1, hc.2.2, hx1, hy1⟩
          · exact g1 g hg
        · rw [List.all_cons, ← g2, eqCells_split _ _ kf.length (by simp [hx.len, hy.len])]
          simp only [pieceEq, sizeT, hc.2.2, Option.getD_some, hc.1, List.drop_drop, List.length_append]
      · rw [if_neg hc, foldl_none] at h; cases h
theorem sl_piece {n : Nat} {t : TypeId} {α : Type} {f : Value → Sem α} {l : List Chunk} {Q : α → List Chunk → Prop} {kf : List (Option IntKind)} (h : eqK P n t = some kf) (hs : (P.info? t).map (·.size) = some kf.length) (cs : List Value) (off : Nat) (hx : AllK kf ((cs.drop off).take kf.length)) :
    sl P (part t cs.toArray off >>= f) l Q ↔ sl P (f (valOf P t ((cs.drop off).take kf.length))) l Q := by
  have hi : ∃ inf, P.info? t = some inf ∧ inf.size = kf.length := by
    cases hh : P.info? t with
    | none => rw [hh] at hs; cases hs
    | some inf => rw [hh] at hs; exact ⟨inf, rfl, by simpa using hs⟩
  obtain ⟨inf, hi1, hi2⟩ := hi
  have scal : ∀ {d : TypeDesc} {k : Option IntKind}, P.underlying t = some d → isAggD d = false → aggT P t = false → kf = [k] → (sl P (part t cs.toArray off >>= f) l Q ↔ sl P (f (valOf P t ((cs.drop off).take kf.length))) l Q) := by
    intro d k hu ha hb hkf
    subst hkf
    obtain ⟨c, r, e1, _, e2⟩ := hx
    have hg : cs[off]? = some c := by
      have := congrArg (fun z => z[0]?) e1
      simpa using this
    rw [sl_pieceS hu ha cs off hg]
    unfold valOf
    rw [hb, e1]
    exact Iff.rfl
  have agg : ∀ {d : TypeDesc}, P.underlying t = some d → isAggD d = true → aggT P t = true → (sl P (part t cs.toArray off >>= f) l Q ↔ sl P (f (valOf P t ((cs.drop off).take kf.length))) l Q) := by
    intro d hu ha hb
    rw [sl_pieceA hu ha hi1 cs off, hi2]
    unfold valOf
    rw [hb]
    exact Iff.rfl
  cases n with
  | zero => cases h
  | succ n =>
    unfold eqK at h
    split at h
    · rename_i k hu; cases h; exact scal hu rfl (by unfold aggT; rw [hu]) rfl
    · rename_i hu; cases h; exact scal hu rfl (by unfold aggT; rw [hu]) rfl
    · rename_i fs hu; exact agg hu rfl (by unfold aggT; rw [hu])
    · rename_i len e hu; exact agg hu rfl (by unfold aggT; rw [hu])
    · cases h
theorem eqK_rows (kf : List (Option IntKind)) : ∀ (len : Nat) (xs ys : List Value), AllK (List.replicate len kf).flatten xs → AllK (List.replicate len kf).flatten ys →
    (∀ i, i < len → AllK kf ((xs.drop (i * kf.length)).take kf.length) ∧ AllK kf ((ys.drop (i * kf.length)).take kf.length)) ∧
      eqCells xs ys = (List.range' 0 len).all fun i => eqCells ((xs.drop (i * kf.length)).take kf.length) ((ys.drop (i * kf.length)).take kf.length) := by
  intro len
  induction len with
  | zero => intro xs ys hx hy; cases hx; cases hy; exact ⟨fun i hi => by omega, rfl⟩
  | succ len ih =>
    intro xs ys hx hy
    rw [List.replicate_succ, List.flatten_cons] at hx hy
    obtain ⟨h1, h2⟩ := ih _ _ hx.drop_left hy.drop_left
    have sh : ∀ i (z : List Value), (z.drop kf.length).drop (i * kf.length) = z.drop ((i + 1) * kf.length) := fun i z => by rw [List.drop_drop]; congr 1; rw [Nat.succ_mul]; omega
    refine ⟨fun i hi => ?_, ?_⟩
    · cases i with
      | zero => simpa using And.intro hx.take_left hy.take_left
      | succ i => have := h1 i (by omega); rw [sh, sh] at this; exact this
    · rw [eqCells_split _ _ kf.length (by rw [hx.len, hy.len]), h2, List.range'_succ, List.all_cons]
      congr 1
      · simp
      · have e : List.range' (0 + 1) len = (List.range' 0 len).map (· + 1) := by simp [List.range'_eq_map_range, Function.comp_def, Nat.add_comm]
        rw [e, List.all_map]
        congr 1
        funext i
        simp only [Function.comp, sh]
theorem sl_eqIn : ∀ (n d : Nat) (t : TypeId) (ks : List (Option IntKind)), eqK P n t = some ks → n ≤ d → ∀ (xs ys : List Value), AllK ks xs → AllK ks ys → ∀ (Q : Bool → List Chunk → Prop) (l : List Chunk),
    (sl P (Op.equalIn d t (valOf P t xs) (valOf P t ys)) l Q ↔ Q (eqCells xs ys) l) := by
  intro n
  induction n with
  | zero => intro d t ks h; cases h
  | succ n ih =>
    intro d t ks h hd xs ys hx hy Q l
    obtain ⟨d, rfl⟩ : ∃ e, d = e + 1 := ⟨d - 1, by omega⟩
    unfold eqK at h
    split at h
    · rename_i k hu
      cases h
      obtain ⟨_, _, rfl, ⟨a, rfl⟩, rfl⟩ := hx
      obtain ⟨_, _, rfl, ⟨b, rfl⟩, rfl⟩ := hy
      simp only [valOf, aggT, hu, Bool.false_eq_true, if_false, List.headD_cons]
      unfold Op.equalIn
      rw [sl_under hu]
      simp [eqCells, eqCell, sl_pure]
    · rename_i hu
      cases h
      obtain ⟨_, _, rfl, ⟨a, rfl⟩, rfl⟩ := hx
      obtain ⟨_, _, rfl, ⟨b, rfl⟩, rfl⟩ := hy
      simp only [valOf, aggT, hu, Bool.false_eq_true, if_false, List.headD_cons]
      unfold Op.equalIn
      rw [sl_under hu]
      simp [eqCells, eqCell, sl_pure]
    · rename_i fs hu
      by_cases hst : P.stoodInHeld t = true
      · rw [if_pos hst] at h; cases h
      rw [if_neg hst] at h
      obtain ⟨rest, hr, hrest⟩ := eqK_fields n xs ys fs.toList [] ks h
      obtain ⟨g1, g2⟩ := hrest hx hy
      simp only [List.length_nil, List.drop_zero] at g2
      have hag : aggT P t = true := by unfold aggT; rw [hu]
      simp only [valOf, hag, if_true]
      unfold Op.equalIn
      rw [sl_under hu]
      simp only
      rw [sl_program, Bool.eq_false_iff.2 hst]
      simp only [Bool.false_eq_true, if_false]
      rw [g2, ← Array.forIn_toList]
      refine sl_for (pieceEq P xs ys) _ _ rfl rfl fs.toList fun f hf Q l => ?_
      obtain ⟨kf, ok⟩ := g1 f hf
      rw [if_pos ok.named, sl_piece ok.kinds ok.size xs f.offset ok.x, sl_piece ok.kinds ok.size ys f.offset ok.y, sl_bind, ih d f.type kf ok.kinds (by omega) _ _ ok.x ok.y]
      simp only [pieceEq, sizeT, ok.size, Option.getD_some]
      cases eqCells (List.take kf.length (List.drop f.offset xs)) (List.take kf.length (List.drop f.offset ys)) <;> simp [sl_pure]
    · rename_i len e hu
      obtain ⟨kf, hk, hk2⟩ := Option.bind_eq_some_iff.1 h
      by_cases hs : (P.info? e).map (·.size) = some kf.length
      · rw [if_pos hs] at hk2
        cases hk2
        obtain ⟨g1, g2⟩ := eqK_rows kf len xs ys hx hy
        have hag : aggT P t = true := by unfold aggT; rw [hu]
        have hi : ∃ inf, P.info? e = some inf ∧ inf.size = kf.length := by
          cases hh : P.info? e with
          | none => rw [hh] at hs; cases hs
          | some inf => rw [hh] at hs; exact ⟨inf, rfl, by simpa using hs⟩
        obtain ⟨inf, hi1, hi2⟩ := hi
        simp only [valOf, hag, if_true]
        unfold Op.equalIn
        rw [sl_under hu]
        simp only
        rw [sl_sizeOf hi1, hi2, g2]
        rw [Std.Legacy.Range.forIn_eq_forIn_range']
        have hsz : Std.Legacy.Range.size [:len] = len := by simp [Std.Legacy.Range.size]
        rw [hsz]
        refine sl_for (fun i => eqCells ((xs.drop (i * kf.length)).take kf.length) ((ys.drop (i * kf.length)).take kf.length)) _ _ rfl rfl (List.range' 0 len) fun i hf Q l => ?_
        have hil : i < len := by have := List.mem_range'_1.1 hf; omega
        obtain ⟨o1, o2⟩ := g1 i hil
        rw [sl_piece hk hs xs _ o1, sl_piece hk hs ys _ o2, sl_bind, ih d e kf hk (by omega) _ _ o1 o2]
        cases eqCells (List.take kf.length (List.drop (i * kf.length) xs)) (List.take kf.length (List.drop (i * kf.length) ys)) <;> simp [sl_pure]
      · rw [if_neg hs] at hk2; cases hk2
    · cases h
def eqV (P : Program) (t : TypeId) : Option (List (Option IntKind)) := if aggT P t = true ∧ P.eqGuardType P.depth t = false then eqK P 20 t else none
class EQ (P : Program) (t : Nat) (ks : outParam (List (Option IntKind))) : Prop where out : eqV P t = some ks
theorem eqV_spec {t : TypeId} {ks : List (Option IntKind)} (h : eqV P t = some ks) : aggT P t = true ∧ P.eqGuardType P.depth t = false ∧ eqK P 20 t = some ks := by
  unfold eqV at h
  split at h
  · rename_i hc; exact ⟨hc.1, hc.2, h⟩
  · cases h
variable {ro : Option Nat} {N : Nat} {fr : Fr} {R : List Chunk} {d : Option Nat} {ty : TypeId} {pos : String} {aft : Array Edge} {g : Option (Nat × Bool)} {x y : Operand} {t t2 : TypeId} {xs ys : List Value} {ks : List (Option IntKind)}
theorem sl_eqGuard {op : BinOp} {xa ya : Array Value} {α : Type} {f : Unit → Sem α} {l : List Chunk} {Q : α → List Chunk → Prop} (hg : P.eqGuardType P.depth t = false) : sl P (eqGuard op t x y (.agg xa) (.agg ya) >>= f) l Q ↔ sl P (f ()) l Q := by
  have key : ∀ bb : Bool, sl P ((if (!bb) = true then (pure () : Sem Unit) else do
      let p ← program
      let q ← program
      if (!p.eqGuardType q.depth t) = true then pure () else do
        let r ← Op.eqGuardIn Op.maxDepth t (.agg xa) (.agg ya)
        if r = true then unsupported (Unsupported.noEntry "binop/eql: two nil values of an interface type with methods, in a part of a struct or an array") else pure ()) >>= f) l Q ↔ sl P (f ()) l Q := by
    intro bb
    cases bb with
    | false => exact Iff.rfl
    | true =>
      rw [sl_bind]
      simp only [Bool.not_true, Bool.false_eq_true, if_false]
      rw [sl_program, sl_program, hg]
      exact Iff.rfl
  unfold eqGuard
  split
  · exact key true
  · exact key true
  · exact key false
theorem q_eqagg [c : EQ P t ks] (hx : ev fr x = some (.agg (List.toArray xs))) (hy : ev fr y = some (.agg (List.toArray ys))) (kx : AllK ks xs) (ky : AllK ks ys) : OpQ P ro N fr R ⟨d, .binOp .eql t x y t2, ty, pos, aft, g⟩ (.bool (eqCells xs ys)) := opQ_of_sl rfl fun ρ l hρ _ => by
  obtain ⟨e1, e2, e3⟩ := eqV_spec c.out
  simp only [execOp, hρ x _ hx, hρ y _ hy]
  rw [sl_bind, sl_eqGuard e2]
  have h := sl_eqIn 20 Op.maxDepth t ks e3 (by decide) xs ys kx ky
  unfold valOf at h
  rw [e1] at h
  simp only [if_true] at h
  simp only [binOp, Op.equal, sl_bind, h, sl_pure]
  exact ⟨trivial, trivial⟩
theorem q_neagg [c : EQ P t ks] (hx : ev fr x = some (.agg (List.toArray xs))) (hy : ev fr y = some (.agg (List.toArray ys))) (kx : AllK ks xs) (ky : AllK ks ys) : OpQ P ro N fr R ⟨d, .binOp .neq t x y t2, ty, pos, aft, g⟩ (.bool (!eqCells xs ys)) := opQ_of_sl rfl fun ρ l hρ _ => by
  obtain ⟨e1, e2, e3⟩ := eqV_spec c.out
  simp only [execOp, hρ x _ hx, hρ y _ hy]
  rw [sl_bind, sl_eqGuard e2]
  have h := sl_eqIn 20 Op.maxDepth t ks e3 (by decide) xs ys kx ky
  unfold valOf at h
  rw [e1] at h
  simp only [if_true] at h
  simp only [binOp, Op.equal, sl_bind, h, sl_pure]
  exact ⟨trivial, trivial⟩
theorem q_eqself [c : EQ P t ks] (hx : ev fr x = some (.agg (List.toArray xs))) (hy : ev fr y = some (.agg (List.toArray xs))) (kx : AllK ks xs) : OpQ P ro N fr R ⟨d, .binOp .eql t x y t2, ty, pos, aft, g⟩ (.bool true) := by
  have := q_eqagg (P := P) (ro := ro) (N := N) (R := R) (d := d) (ty := ty) (pos := pos) (aft := aft) (g := g) (t2 := t2) (c := c) hx hy kx kx
  rwa [eqCells_self kx] at this
end
def allKb : List (Option IntKind) → List Value → Bool
  | [], [] => true
  | some k :: ks, .int k' _ :: cs => decide (k = k') && allKb ks cs
  | none :: ks, .bool _ :: cs => allKb ks cs
  | _, _ => false
theorem allK_of : ∀ {ks : List (Option IntKind)} {cs : List Value}, allKb ks cs = true → AllK ks cs
  | [], [], _ => rfl
  | some k :: ks, .int k' a :: cs, h => by
    simp only [allKb, Bool.and_eq_true, decide_eq_true_eq] at h
    exact ⟨_, _, rfl, ⟨a, by rw [h.1]⟩, allK_of h.2⟩
  | none :: ks, .bool b :: cs, h => ⟨_, _, rfl, ⟨b, rfl⟩, allK_of h⟩
def RowSl {α : Type} (l : List Chunk) (v : Value) (k : Nat) (enc : α → List Value) (xs : List α) : Prop :=
  ∃ a cap, v = .slice a xs.length cap ∧ (0 < xs.length → ∃ b off cs t fz, a = some ⟨b, off, none⟩ ∧ (b, Obj.cells cs t fz) ∈ l ∧ ∀ i x, xs[i]? = some x → off + i * k + k ≤ cs.size ∧ cs.extract (off + i * k) (off + i * k + k) = List.toArray (enc x))
theorem flat_row {α : Type} {enc : α → List Value} {k : Nat} (hk : ∀ x, (enc x).length = k) (sp : List Value) : ∀ (xs : List α) (i : Nat) (x : α), xs[i]? = some x → ((xs.flatMap enc ++ sp).drop (i * k)).take k = enc x ∧ i * k + k ≤ (xs.flatMap enc ++ sp).length
  | [], i, x, h => by simp at h
  | y :: xs, 0, x, h => by
    cases h
    rw [List.flatMap_cons, Nat.zero_mul, List.drop_zero, List.append_assoc, List.take_left' (hk y)]
    refine ⟨rfl, ?_⟩
    rw [List.length_append, hk]; omega
  | y :: xs, i + 1, x, h => by
    obtain ⟨h1, h2⟩ := flat_row hk sp xs i x (by simpa using h)
    rw [List.flatMap_cons, List.append_assoc, Nat.succ_mul]
    refine ⟨?_, by rw [List.length_append, hk]; omega⟩
    rw [List.drop_append, List.drop_of_length_le (by rw [hk]; omega), hk, List.nil_append, show i * k + k - k = i * k by omega]
    exact h1
theorem OwnSl.rowSl {α : Type} {e k : Nat} {v : Value} {enc : α → List Value} {xs : List α} {cs l : List Chunk} (h : OwnSl e k v xs.length (xs.flatMap enc) cs) (hk : ∀ x, (enc x).length = k) (hs : ∀ c, c ∈ cs → c ∈ l) : RowSl l v k enc xs := by
  rcases h.2 with ⟨rfl, h0, rfl⟩ | ⟨b, cap, sp, rfl, rfl, _⟩
  · exact ⟨none, 0, by rw [h0], fun h => by omega⟩
  · refine ⟨_, cap, rfl, fun h0 => ⟨b, 0, _, e, (0, 0), rfl, hs _ List.mem_cons_self, fun i x hx => ?_⟩⟩
    obtain ⟨h1, h2⟩ := flat_row hk sp xs i x hx
    refine ⟨by rw [Nat.zero_add]; simpa using h2, ?_⟩
    rw [Nat.zero_add, List.extract_toArray, List.extract_eq_take_drop, Nat.add_sub_cancel_left, h1]
section
variable {P : Program} {ro : Option Nat} {N : Nat} {fr : Fr} {l : List Chunk} {d : Option Nat} {ty : TypeId} {pos : String} {aft : Array Edge} {g : Option (Nat × Bool)}
end
theorem eqCells_iff : ∀ {ks : List (Option IntKind)} {a b : List Value}, AllK ks a → AllK ks b → (eqCells a b = true ↔ a = b)
  | [], a, b, h, h' => by cases h; cases h'; simp [eqCells]
  | none :: ks, a, b, h, h' => by
    obtain ⟨_, r, rfl, ⟨p, rfl⟩, h2⟩ := h
    obtain ⟨_, r', rfl, ⟨p', rfl⟩, h2'⟩ := h'
    simp [eqCells, eqCell, eqCells_iff h2 h2']
  | some k :: ks, a, b, h, h' => by
    obtain ⟨_, r, rfl, ⟨p, rfl⟩, h2⟩ := h
    obtain ⟨_, r', rfl, ⟨p', rfl⟩, h2'⟩ := h'
    simp [eqCells, eqCell, eqCells_iff h2 h2']
abbrev EntS (κ : Type) := κ × Value × Nat
def mkS {κ : Type} (enc : κ → List Value) (x : EntS κ) : MapEntry := { key := .agg (List.toArray (enc x.1)), val := x.2.1, born := x.2.2 }
abbrev mapS {κ : Type} (enc : κ → List Value) (es : List (EntS κ)) (clock : Nat) : Obj := .map (List.toArray (es.map (mkS enc))) clock
theorem modify_mid {α : Type} (f : α → α) (e : α) (B : List α) : ∀ (A : List α), (A ++ e :: B).modify A.length f = A ++ f e :: B
  | [] => rfl
  | x :: A => by rw [List.cons_append, List.length_cons, List.modify_succ_cons, modify_mid f e B A]; rfl
section
variable {κ : Type} [DecidableEq κ]
def findS (a : κ) : List (EntS κ) → Nat → Option (Nat × Value)
  | [], _ => none
  | e :: es, i => if a = e.1 then some (i, e.2.1) else findS a es (i + 1)
def getS (a : κ) (es : List (EntS κ)) : Option Value := (findS a es 0).map Prod.snd
def setS (a : κ) (v : Value) (clock : Nat) (es : List (EntS κ)) : List (EntS κ) × Nat := match findS a es 0 with
  | some (i, _) => (es.modify i fun x => (x.1, v, x.2.2), clock)
  | none => (es ++ [(a, v, clock)], clock + 1)
theorem findS_add (a : κ) : ∀ (es : List (EntS κ)) (i : Nat), findS a es i = (findS a es 0).map fun p => (p.1 + i, p.2)
  | [], i => rfl
  | e :: es, i => by
    unfold findS
    split
    · simp
    · rw [findS_add a es (i + 1), findS_add a es (0 + 1)]
      cases findS a es 0 with
      | none => rfl
      | some p => simp; omega
theorem getS_cons (a : κ) (e : EntS κ) (es : List (EntS κ)) : getS a (e :: es) = if a = e.1 then some e.2.1 else getS a es := by
  unfold getS
  rw [findS]
  split
  · rfl
  · rw [findS_add, Option.map_map]; cases findS a es 0 <;> rfl
theorem findS_some {a : κ} : ∀ {es : List (EntS κ)} {k : Nat} {v : Value}, findS a es 0 = some (k, v) → ∃ A e B, es = A ++ e :: B ∧ A.length = k ∧ e.1 = a ∧ e.2.1 = v ∧ ∀ x ∈ A, x.1 ≠ a
  | [], k, v, h => by cases h
  | e :: es, k, v, h => by
    rw [findS] at h
    split at h
    · rename_i ha
      cases h
      exact ⟨[], e, es, rfl, rfl, ha.symm, rfl, by simp⟩
    · rename_i ha
      rw [findS_add] at h
      cases h2 : findS a es 0 with
      | none => rw [h2] at h; cases h
      | some p =>
        obtain ⟨k', v'⟩ := p
        rw [h2] at h
        cases h
        obtain ⟨A, e', B, h3, h4, h5, h6, h7⟩ := findS_some h2
        refine ⟨e :: A, e', B, by rw [h3]; rfl, by simp [h4], h5, h6, fun x hx => ?_⟩
        rcases List.mem_cons.1 hx with rfl | hx
        · exact fun e' => ha e'.symm
        · exact h7 x hx
theorem findS_none {a : κ} : ∀ {es : List (EntS κ)}, findS a es 0 = none ↔ ∀ e ∈ es, e.1 ≠ a
  | [] => by simp [findS]
  | e :: es => by
    rw [findS]
    split
    · rename_i h; simp [h]
    · rename_i h
      rw [findS_add, Option.map_eq_none_iff, findS_none]
      simp only [List.mem_cons, forall_eq_or_imp]
      exact ⟨fun h2 => ⟨fun e' => h e'.symm, h2⟩, fun h2 => h2.2⟩
theorem getS_append (a : κ) (A B : List (EntS κ)) : getS a (A ++ B) = (getS a A).or (getS a B) := by
  induction A with
  | nil => rfl
  | cons e A ih => rw [List.cons_append, getS_cons, getS_cons, ih]; split <;> rfl
theorem getS_set (a b : κ) (v : Value) (clock : Nat) (es : List (EntS κ)) : getS b (setS a v clock es).1 = if b = a then some v else getS b es := by
  unfold setS
  cases h : findS a es 0 with
  | none =>
    simp only
    rw [getS_append, getS_cons]
    split
    · rename_i e; subst e
      unfold getS; rw [h]; rfl
    · simp [getS, findS]
  | some p =>
    obtain ⟨k, u⟩ := p
    obtain ⟨A, e, B, rfl, rfl, h1, h2, h3⟩ := findS_some h
    simp only
    have hm : (A ++ e :: B).modify A.length (fun x => (x.1, v, x.2.2)) = A ++ (e.1, v, e.2.2) :: B := modify_mid _ e B A
    rw [hm, getS_append, getS_append, getS_cons, getS_cons, h1]
    by_cases e' : b = a
    · have : getS b A = none := by unfold getS; rw [e', findS_none.2 h3]; rfl
      rw [this, if_pos e', if_pos e']; rfl
    · rw [if_neg e', if_neg e', if_neg e']
structure KeysOk (es : List (EntS κ)) (clock : Nat) : Prop where
  keys : (es.map (·.1)).Nodup
  stamps : (es.map (·.2.2)).Nodup
  below : ∀ e ∈ es, e.2.2 < clock
theorem KeysOk.set {es : List (EntS κ)} {clock : Nat} (h : KeysOk es clock) (a : κ) (v : Value) : KeysOk (setS a v clock es).1 (setS a v clock es).2 := by
  unfold setS
  cases hf : findS a es 0 with
  | none =>
    have hn := findS_none.1 hf
    simp only
    refine ⟨?_, ?_, fun e he => ?_⟩
    · rw [List.map_append, List.nodup_append]
      exact ⟨h.keys, by simp, fun x hx y hy e => by
        obtain ⟨z, hz, rfl⟩ := List.mem_map.1 hx
        have : y = a := by simpa using hy
        exact hn z hz (by rw [e, this])⟩
    · rw [List.map_append, List.nodup_append]
      exact ⟨h.stamps, by simp, fun x hx y hy e => by
        obtain ⟨z, hz, rfl⟩ := List.mem_map.1 hx
        have h1 : y = clock := by simpa using hy
        have h2 := h.below z hz
        omega⟩
    · rcases List.mem_append.1 he with he | he
      · exact Nat.lt_succ_of_lt (h.below e he)
      · rw [List.mem_singleton.1 he]; exact Nat.lt_succ_self _
  | some p =>
    obtain ⟨k, u⟩ := p
    obtain ⟨A, e, B, rfl, rfl, h1, h2, h3⟩ := findS_some hf
    have hm : (A ++ e :: B).modify A.length (fun x => (x.1, v, x.2.2)) = A ++ (e.1, v, e.2.2) :: B := modify_mid _ e B A
    simp only
    rw [hm]
    refine ⟨by simpa using h.keys, by simpa using h.stamps, fun x hx => ?_⟩
    rcases List.mem_append.1 hx with hx | hx
    · exact h.below x (List.mem_append_left _ hx)
    · rcases List.mem_cons.1 hx with rfl | hx
      · exact h.below e (List.mem_append_right _ List.mem_cons_self)
      · exact h.below x (List.mem_append_right _ (List.mem_cons_of_mem _ hx))
end
section
variable {P : Program} {ro : Option Nat} {N : Nat} {fr : Fr} {R l : List Chunk} {d : Option Nat} {ty : TypeId} {pos : String} {aft : Array Edge} {g : Option (Nat × Bool)} {x y z : Operand} {v u w : Value} {b m n : Nat} {t t2 T kt et : TypeId}
theorem run_nep {tp te : TypeId} {j : TypeInfo} {p q : Addr} {ca cb : Array Value} {ta tb : TypeId} {W : World} (hp : P.underlying tp = some (.pointer te)) (hte : P.info? te = some j) (hsz : j.size ≠ 0) (ha : W.heap[p.block]? = some (.cells ca ta (0, 0))) (hb : W.heap[q.block]? = some (.cells cb tb (0, 0))) :
    (binOp .neq tp (.pointer (some p)) (.pointer (some q))).run P W = .ok (.bool (!decide (p = q))) W := by
  have h : ∀ d : Nat, (Op.equalIn (d + 1) tp (.pointer (some p)) (.pointer (some q))).run P W = .ok (decide (p = q)) W := fun d => by
    by_cases h : p = q
    · subst h; simp [Op.equalIn, run_underlying hp, sizeOf, typeInfo, hte, run_sameAddr_same]
    · simp [Op.equalIn, run_underlying hp, sizeOf, typeInfo, hte, hsz, run_sameAddr_other W h ha hb, h]
  simp only [binOp]
  simp [Op.equal, Op.maxDepth, h 9999]
theorem q_neptr {e : Nat} {p q : Addr} {ca cb : Array Value} {ta tb : TypeId} (hx : ev fr x = some (.pointer (some p))) (hy : ev fr y = some (.pointer (some q))) [c : PT P t e] [oc : AG P e n] (hsz : n ≠ 0) (ha : (p.block, Obj.cells ca ta (0, 0)) ∈ R) (hb : (q.block, Obj.cells cb tb (0, 0)) ∈ R) :
    OpQ P ro N fr R ⟨d, .binOp .neq t x y t2, ty, pos, aft, g⟩ (.bool (!decide (p = q))) := ⟨fun l hR => ⟨rfl, fun E a W hf hs => by
  have hρ := hf.agrees
  obtain ⟨uu, inf, _, _, hi, hz⟩ := agV_spec oc.out
  have hex : execOp a.eval ⟨d, .binOp .neq t x y t2, ty, pos, aft, g⟩ = (do pure (.value (← binOp .neq t (.pointer (some p)) (.pointer (some q)))) : Sem Next) := by
    simp only [execOp, hρ x _ hx, hρ y _ hy, eqGuard_ptr, pure_bind]
  unfold OpVal
  rw [hex, Sem.run_bind, run_nep (ptV_spec c.out) hi (by rw [hz]; exact hsz) (hs.has _ (hR _ ha)) (hs.has _ (hR _ hb))]
  exact ⟨l, ⟨rfl, rfl⟩, hs⟩⟩⟩
end
section
variable {P : Program} {ro : Option Nat} {N : Nat} {fr : Fr} {R l : List Chunk} {d : Option Nat} {ty : TypeId} {pos : String} {aft : Array Edge} {g : Option (Nat × Bool)} {x y z : Operand} {v u w : Value} {b m n : Nat} {t t2 T kt et : TypeId}
theorem sl_forU {β : Type} (body : β → PUnit → Sem (ForInStep PUnit)) {Q : PUnit → List Chunk → Prop} {l : List Chunk} : ∀ (xs : List β), (∀ x ∈ xs, ∀ (Q : ForInStep PUnit → List Chunk → Prop) l, sl P (body x ()) l Q ↔ Q (.yield ()) l) → (sl P (forIn xs PUnit.unit body) l Q ↔ Q () l)
  | [], _ => by simp only [List.forIn_nil, sl_pure]
  | x :: xs, h => by
    rw [List.forIn_cons, sl_bind, h x List.mem_cons_self]
    exact sl_forU body xs fun y hy => h y (List.mem_cons_of_mem _ hy)
theorem sl_checkIn {empty : Bool} : ∀ (n d : Nat) (t : TypeId) (ks : List (Option IntKind)), eqK P n t = some ks → n ≤ d → ∀ (xs : List Value), AllK ks xs → ∀ (Q : Unit → List Chunk → Prop) (l : List Chunk), (sl P (Instr.checkKey empty d t (valOf P t xs)) l Q ↔ Q () l) := by
  intro n
  induction n with
  | zero => intro d t ks h; cases h
  | succ n ih =>
    intro d t ks h hd xs hx Q l
    obtain ⟨d, rfl⟩ : ∃ e, d = e + 1 := ⟨d - 1, by omega⟩
    unfold eqK at h
    split at h
    · rename_i k hu
      cases h
      obtain ⟨_, _, rfl, ⟨a, rfl⟩, rfl⟩ := hx
      simp only [valOf, aggT, hu, Bool.false_eq_true, if_false, List.headD_cons]
      unfold Instr.checkKey
      rw [sl_under hu]
      exact Iff.rfl
    · rename_i hu
      cases h
      obtain ⟨_, _, rfl, ⟨a, rfl⟩, rfl⟩ := hx
      simp only [valOf, aggT, hu, Bool.false_eq_true, if_false, List.headD_cons]
      unfold Instr.checkKey
      rw [sl_under hu]
      exact Iff.rfl
    · rename_i fs hu
      by_cases hst : P.stoodInHeld t = true
      · rw [if_pos hst] at h; cases h
      rw [if_neg hst] at h
      obtain ⟨rest, hr, hrest⟩ := eqK_fields n xs xs fs.toList [] ks h
      obtain ⟨g1, g2⟩ := hrest hx hx
      have hag : aggT P t = true := by unfold aggT; rw [hu]
      simp only [valOf, hag, if_true]
      unfold Instr.checkKey
      rw [sl_under hu]
      simp only
      rw [← Array.forIn_toList]
      rw [sl_bind]
      refine (sl_forU _ fs.toList fun f hf Q l => ?_).trans Iff.rfl
      obtain ⟨kf, ok⟩ := g1 f hf
      rw [if_pos ok.named, sl_piece ok.kinds ok.size xs f.offset ok.x, sl_bind, ih d f.type kf ok.kinds (by omega) _ ok.x]
      exact Iff.rfl
    · rename_i len e hu
      obtain ⟨kf, hk, hk2⟩ := Option.bind_eq_some_iff.1 h
      by_cases hs : (P.info? e).map (·.size) = some kf.length
      · rw [if_pos hs] at hk2
        cases hk2
        obtain ⟨g1, g2⟩ := eqK_rows kf len xs xs hx hx
        have hag : aggT P t = true := by unfold aggT; rw [hu]
        have hi : ∃ inf, P.info? e = some inf ∧ inf.size = kf.length := by
          cases hh : P.info? e with
          | none => rw [hh] at hs; cases hs
          | some inf => rw [hh] at hs; exact ⟨inf, rfl, by simpa using hs⟩
        obtain ⟨inf, hi1, hi2⟩ := hi
        simp only [valOf, hag, if_true]
        unfold Instr.checkKey
        rw [sl_under hu]
        simp only
        rw [Std.Legacy.Range.forIn_eq_forIn_range']
        have hsz : Std.Legacy.Range.size [:len] = len := by simp [Std.Legacy.Range.size]
        rw [hsz]
        rw [sl_bind]
        refine (sl_forU _ _ fun i hf Q l => ?_).trans Iff.rfl
        have hf : i ∈ List.range' 0 len := hf
        have hil : i < len := by have := List.mem_range'_1.1 hf; omega
        obtain ⟨o1, _⟩ := g1 i hil
        rw [sl_sizeOf hi1, hi2, sl_piece hk hs xs _ o1, sl_bind, ih d e kf hk (by omega) _ o1]
        exact Iff.rfl
      · rw [if_neg hs] at hk2; cases hk2
    · cases h
structure EncOk {κ : Type} (enc : κ → List Value) (ks : List (Option IntKind)) : Prop where
  kinds : ∀ a, AllK ks (enc a)
  inj : ∀ a b, enc a = enc b → a = b
variable {κ : Type} [DecidableEq κ] {enc : κ → List Value} {ks : List (Option IntKind)} {a : κ} {es : List (EntS κ)} {clock : Nat}
theorem sl_checkKeyS {Q : Unit → List Chunk → Prop} {empty : Bool} (h : eqV P kt = some ks) (he : EncOk enc ks) : sl P (Instr.checkKey empty 10000 kt (.agg (List.toArray (enc a)))) l Q ↔ Q () l := by
  obtain ⟨h1, _, h3⟩ := eqV_spec h
  have := sl_checkIn (empty := empty) 20 10000 kt ks h3 (by decide) (enc a) (he.kinds a) Q l
  unfold valOf at this
  rw [h1] at this
  exact this
theorem sl_equalS {Q : Bool → List Chunk → Prop} (h : eqV P kt = some ks) (he : EncOk enc ks) (a b : κ) : sl P (Op.equal kt (.agg (List.toArray (enc a))) (.agg (List.toArray (enc b)))) l Q ↔ Q (decide (a = b)) l := by
  obtain ⟨h1, _, h3⟩ := eqV_spec h
  have := sl_eqIn 20 Op.maxDepth kt ks h3 (by decide) (enc a) (enc b) (he.kinds a) (he.kinds b) Q l
  unfold valOf at this
  rw [h1] at this
  have e : eqCells (enc a) (enc b) = decide (a = b) := by
    by_cases hab : a = b
    · rw [decide_eq_true hab]; exact (eqCells_iff (he.kinds a) (he.kinds b)).2 (by rw [hab])
    · rw [decide_eq_false hab]
      cases hc : eqCells (enc a) (enc b) with
      | false => rfl
      | true => exact absurd (he.inj a b ((eqCells_iff (he.kinds a) (he.kinds b)).1 hc)) hab
  rw [e] at this
  exact this
theorem sl_findAsking {Q : Option (Nat × Value) → List Chunk → Prop} (h : eqV P kt = some ks) (he : EncOk enc ks) (a : κ) : ∀ (es : List (EntS κ)) (i : Nat), sl P (Instr.findAsking kt (.agg (List.toArray (enc a))) (es.map (mkS enc)) i) l Q ↔ Q (findS a es i) l
  | [], i => Iff.rfl
  | e :: es, i => by
    rw [List.map_cons]
    unfold Instr.findAsking
    simp only [mkS]
    rw [sl_bind, sl_equalS h he, findS]
    by_cases hc : a = e.1
    · rw [decide_eq_true hc, if_pos hc]; exact Iff.rfl
    · rw [decide_eq_false hc, if_neg hc]
      exact sl_findAsking h he a es (i + 1)
theorem sl_findKeyS {Q : Option (Nat × Value) → List Chunk → Prop} (h : eqV P kt = some ks) (he : EncOk enc ks) : sl P (Instr.findKey kt (.agg (List.toArray (enc a))) (es.map (mkS enc))) l Q ↔ Q (findS a es 0) l := by
  obtain ⟨h1, _, _⟩ := eqV_spec h
  unfold Instr.findKey
  unfold aggT at h1
  cases hu : P.underlying kt with
  | none => rw [hu] at h1; cases h1
  | some td =>
    rw [sl_under hu]
    cases es with
    | nil => exact Iff.rfl
    | cons e es =>
      have hn : Instr.findNow td (.agg (List.toArray (enc a))) ((e :: es).map (mkS enc)) 0 = none := by
        rw [List.map_cons]
        unfold Instr.findNow
        rw [hu] at h1
        cases td <;> first | rfl | cases h1
      rw [hn]
      exact sl_findAsking h he a (e :: es) 0
theorem q_lookupS {zv : Value} (hx : ev fr x = some (.map (some m))) (hy : ev fr y = some (.agg (List.toArray (enc a)))) [c : MT P T kt et] [ci : EQ P kt ks] [cz : ZO P et zv] (he : EncOk enc ks) (hm : (m, mapS enc es clock) ∈ R) : OpQ P ro N fr R ⟨d, .lookup T x y false, ty, pos, aft, g⟩ ((getS a es).getD zv) := opQ_of_sl rfl fun ρ l hρ hR => by
  simp only [execOp, hρ x _ hx, hρ y _ hy, sl_bind]
  unfold Instr.lookup
  rw [sl_under (mtV_spec c.out)]
  simp only [sl_bind]
  refine ⟨_, hR _ hm, rfl, ?_⟩
  simp only [sl_pure, sl_pure', sl_bind]
  rw [sl_checkKeyS ci.out he, sl_findKeyS ci.out he]
  unfold getS
  cases h : findS a es 0 with
  | none => simp only [sl_bind]; rw [sl_zero cz.out]; exact ⟨rfl, rfl⟩
  | some p => exact ⟨rfl, rfl⟩
theorem same_cells : ∀ {ks : List (Option IntKind)} {a : List Value} (n : Nat), AllK ks a → (a.zip a).all (fun p => Instr.sameBits (n + 1) p.1 p.2) = true
  | [], a, n, h => by cases h; rfl
  | none :: ks, a, n, h => by obtain ⟨c, r, rfl, ⟨p, rfl⟩, h2⟩ := h; rw [List.zip_cons_cons, List.all_cons, same_cells n h2]; simp [Instr.sameBits]
  | some k :: ks, a, n, h => by obtain ⟨c, r, rfl, ⟨p, rfl⟩, h2⟩ := h; rw [List.zip_cons_cons, List.all_cons, same_cells n h2]; simp [Instr.sameBits]
theorem sl_keyStaysS {Q : Value → List Chunk → Prop} (he : EncOk enc ks) : sl P (Instr.keyThatStays (.agg (List.toArray (enc a))) (.agg (List.toArray (enc a)))) l Q ↔ Q (.agg (List.toArray (enc a))) l := by
  unfold Instr.keyThatStays
  have h : Instr.sameBits 10000 (.agg (List.toArray (enc a))) (.agg (List.toArray (enc a))) = true := by
    unfold Instr.sameBits
    simp only [beq_self_eq_true, Bool.true_and]
    exact same_cells 9998 (he.kinds a)
  rw [if_pos h]
  exact Iff.rfl
theorem modify_keyS (A B : List (EntS κ)) (e : EntS κ) (v : Value) : (List.toArray ((A ++ e :: B).map (mkS enc))).modify A.length (fun x => { key := .agg (List.toArray (enc e.1)), val := v, born := x.born }) = List.toArray ((A ++ (e.1, v, e.2.2) :: B).map (mkS enc)) := by
  apply Array.toList_inj.1
  rw [Array.toList_modify]
  simp only [List.map_append, List.map_cons]
  have := modify_mid (fun x : MapEntry => { key := .agg (List.toArray (enc e.1)), val := v, born := x.born }) (mkS enc e) (B.map (mkS enc)) (A.map (mkS enc))
  rw [List.length_map] at this
  rw [this]; rfl
theorem e_mapUpdateS {l' : List Chunk} (hx : ev fr x = some (.map (some m))) (hy : ev fr y = some (.agg (List.toArray (enc a)))) (hz : ev fr z = some v) [c : MT P T kt et] [ci : EQ P kt ks] (he : EncOk enc ks) (hu : Upd l m (mapS enc es clock) (mapS enc (setS a v clock es).1 (setS a v clock es).2) l') :
    OpE P ro N fr l ⟨d, .mapUpdate T x y z, ty, pos, aft, g⟩ (fun v' l2 => v' = undef ∧ l2 = l') := opE_of_sl rfl fun ρ hρ => by
  simp only [execOp, hρ x _ hx, hρ y _ hy, hρ z _ hz]
  rw [sl_bind]
  unfold Instr.mapUpdate
  rw [sl_under (mtV_spec c.out)]
  simp only [sl_bind]
  refine ⟨_, hu.mem, rfl, ?_⟩
  simp only [sl_pure, sl_pure', sl_bind]
  rw [sl_checkKeyS ci.out he, sl_findKeyS ci.out he]
  unfold setS at hu
  cases h : findS a es 0 with
  | none =>
    rw [h] at hu
    simp only at hu ⊢
    refine ⟨mapS enc es clock, l', ?_, rfl, ⟨rfl, rfl⟩⟩
    have e : (List.toArray (es.map (mkS enc))).push { key := .agg (List.toArray (enc a)), val := v, born := clock } = List.toArray ((es ++ [(a, v, clock)]).map (mkS enc)) := by simp [mkS]
    rw [e]
    exact hu
  | some p =>
    obtain ⟨i, u⟩ := p
    rw [h] at hu
    simp only at hu ⊢
    obtain ⟨A, e, B, rfl, rfl, h1, h2, h3⟩ := findS_some h
    subst h1
    have hk : (((List.toArray ((A ++ e :: B).map (mkS enc)))[A.length]?).map (·.key)).getD (.agg (List.toArray (enc e.1))) = .agg (List.toArray (enc e.1)) := by simp [mkS]
    simp only [sl_bind]
    rw [hk, sl_keyStaysS he]
    refine ⟨mapS enc (A ++ e :: B) clock, l', ?_, rfl, ⟨rfl, rfl⟩⟩
    rw [modify_keyS, ← modify_mid (fun x => (x.1, v, x.2.2)) e B A]
    exact hu
end
section
variable {P : Program} {ro : Option Nat} {N : Nat} {E : World} {ops : Array Oper} {Q : Exit → Act → World → Prop} {R l : List Chunk} {tbl : List (List Nat)} {sp : Spec} {pl : List PlanOp} {fr : Fr} {ds : List Deferred} {i : Nat} {o : Oper} {K : Value → List Chunk → Prop}
theorem pl_geS {d : Nat} (h : OpE P ro N fr l o K) (hw : gst ops fr o.guard = some true) (hd : o.dst = some d) (hb : Nat.blt d N = true) (hR : ∀ v l', K v l' → (∀ c, c ∈ R → c ∈ l')) (hS : ∀ v l', K v l' → ∀ x, x ∈ sp → ancOf tbl i x.1 = false → ∀ c, c ∈ x.2 → c ∈ l') (hk : ∀ v l', K v l' → PlanS P ro N E ops Q R tbl none sp pl ((d, v) :: fr) ds l') : PlanS P ro N E ops Q R tbl none sp ((i, false, o) :: pl) fr ds l := by
  rcases gst_some hw with ⟨h1, _⟩ | ⟨j, b, oj, dj, b', h1, h2, h3, h4, h5⟩
  · exact pl_eS h h1 hd hb hR hS hk
  · have : b' = b := by simpa using h5
    subst this
    exact .ge h h1 h2 h3 h4 (by rw [hd]; exact hb) hR hS fun v l' hkv => by rw [hd]; exact hk v l' hkv
end
theorem sing_mem {c : Chunk} {l : List Chunk} (h : c ∈ l) : ∀ x, x ∈ [c] → x ∈ l := fun x hx => by rw [List.mem_singleton.1 hx]; exact h
theorem Keep.in_mid (A B C : List Chunk) : Keep (A ++ (B ++ C)) (B ++ (A ++ C)) := Keep.of_perm (List.perm_append_comm_assoc A B C)
theorem keep_new (x : Chunk) (c2 cs G : List Chunk) : Keep (c2 ++ (x :: (cs ++ G))) ((x :: c2) ++ G) :=
  ⟨cs, by
    have h1 : (c2 ++ (x :: (cs ++ G))).Perm (x :: (c2 ++ (cs ++ G))) := List.perm_middle
    have h2 : (c2 ++ (cs ++ G)).Perm (cs ++ (c2 ++ G)) := List.perm_append_comm_assoc c2 cs G
    exact (h1.trans ((h2.cons x).trans List.perm_middle.symm))⟩
theorem num_any (x : Int) (l : List Chunk) : Fn Tryz.prog 7 [.int .i64 x] l fun v l' => v = .int .i64 x ∧ l' = l := by
  refine fn_of_body Tryz.func7 rfl rfl fun E => ?_
  simp only [argF, Tryz.ntmps7]
  refine gz ?_
  exact k_ret [] rfl .refl (by exact zRes) ⟨rfl, rfl⟩
theorem nodup_of_map {α β : Type} {f : α → β} : ∀ {l : List α}, (l.map f).Nodup → l.Nodup
  | [], _ => List.nodup_nil
  | x :: l, h => by
    rw [List.map_cons, List.nodup_cons] at h
    exact List.nodup_cons.2 ⟨fun hx => h.1 (List.mem_map.2 ⟨x, hx, rfl⟩), nodup_of_map h.2⟩
theorem nd_stamp {α β : Type} {f : α → β} : ∀ {l : List α} {x y : α}, (l.map f).Nodup → x ∈ l → y ∈ l → f x = f y → x = y
  | [], _, _, _, h, _, _ => by cases h
  | z :: l, x, y, h, hx, hy, e => by
    rw [List.map_cons, List.nodup_cons] at h
    rcases List.mem_cons.1 hx with h1 | h1 <;> rcases List.mem_cons.1 hy with h2 | h2
    · rw [h1, h2]
    · exact absurd (List.mem_map.2 ⟨y, h2, by rw [← e, h1]⟩) h.1
    · exact absurd (List.mem_map.2 ⟨x, h1, by rw [e, h2]⟩) h.1
    · exact nd_stamp h.2 h1 h2 e
section
variable {P : Program} {ro : Option Nat} {N : Nat} {fr : Fr} {R l : List Chunk} {d : Option Nat} {ty t t2 : TypeId} {pos : String} {aft : Array Edge} {g : Option (Nat × Bool)} {x y : Operand} {k k' : IntKind} {i : Int} {n a b : Nat}
theorem q_shr (hx : ev fr x = some (.int k i)) (hy : ev fr y = some (.int k' (n : Nat))) (hn : n ≤ k.bits) : OpQ P ro N fr R ⟨d, .binOp .shr t x y t2, ty, pos, aft, g⟩ (.int k (i / 2 ^ n)) :=
  q_bin hx hy (fun _ _ => eqGuard_int _ _ _ _ _) (by
    have h1 : ¬ ((n : Nat) : Int) < 0 := by omega
    have h2 : i.fdiv (2 ^ n) = i / 2 ^ n := Int.fdiv_eq_ediv_of_nonneg _ (by have : (0 : Int) ≤ ((2 ^ n : Nat) : Int) := Int.natCast_nonneg _; simpa using this)
    simp only [binOp, Op.shift, if_neg h1, Int.toNat_natCast, Nat.min_eq_left hn, h2])
theorem q_shl (hx : ev fr x = some (.int k i)) (hy : ev fr y = some (.int k' (n : Nat))) (hn : n ≤ k.bits) : OpQ P ro N fr R ⟨d, .binOp .shl t x y t2, ty, pos, aft, g⟩ (.int k (k.wrap (i * 2 ^ n))) :=
  q_bin hx hy (fun _ _ => eqGuard_int _ _ _ _ _) (by
    have h1 : ¬ ((n : Nat) : Int) < 0 := by omega
    simp only [binOp, Op.shift, if_neg h1, Int.toNat_natCast, Nat.min_eq_left hn])
theorem wrapN {a : Nat} (h : a < 18446744073709551616) : IntKind.u64.wrap (a : Int) = (a : Int) := by
  simp [IntKind.wrap, IntKind.signed, IntKind.bits]; omega
theorem q_and (hx : ev fr x = some (.int .u64 (a : Nat))) (hy : ev fr y = some (.int .u64 (b : Nat))) (ha : a < 18446744073709551616) (hb : b < 18446744073709551616) : OpQ P ro N fr R ⟨d, .binOp .and t x y t2, ty, pos, aft, g⟩ (.int .u64 ((a &&& b : Nat) : Int)) :=
  q_bin hx hy (fun _ _ => eqGuard_int _ _ _ _ _) (by
    have e1 : (BitVec.ofInt IntKind.u64.bits ((a : Nat) : Int)).toNat = a := by
      show (BitVec.ofInt 64 ((a : Nat) : Int)).toNat = a
      rw [BitVec.ofInt_natCast, BitVec.toNat_ofNat, Nat.mod_eq_of_lt ha]
    have e2 : (BitVec.ofInt IntKind.u64.bits ((b : Nat) : Int)).toNat = b := by
      show (BitVec.ofInt 64 ((b : Nat) : Int)).toNat = b
      rw [BitVec.ofInt_natCast, BitVec.toNat_ofNat, Nat.mod_eq_of_lt hb]
    simp only [binOp, Op.intBits, BitVec.toNat_and, e1, e2]
    rw [wrapN (Nat.lt_of_le_of_lt Nat.and_le_left ha)]
    rfl)
theorem row_zeros {zv : Value} {zs : List Value} {n k : Nat} (hzv : zv.cells = List.toArray zs) (hzs : zs.length = k) (hk : 0 < n * k) : (Array.range (n * k)).map (fun j => zv.cells[j % zv.cells.size]!) = List.toArray (List.replicate n zs).flatten := by
  have hk0 : 0 < k := Nat.pos_of_ne_zero fun e => by subst e; simp at hk
  apply Array.toList_inj.1
  apply List.ext_getElem?
  intro j
  rw [hzv]
  have hl : (List.replicate n zs).flatten.length = n * k := by simp [hzs]
  by_cases hj : j < n * k
  · have : (List.replicate n zs).flatten[j]? = zs[j % k]? := by
      clear hl hk hk0
      induction n generalizing j with
      | zero => omega
      | succ n ih =>
        rw [List.replicate_succ, List.flatten_cons]
        by_cases hjk : j < k
        · rw [List.getElem?_append_left (by omega), Nat.mod_eq_of_lt hjk]
        · rw [List.getElem?_append_right (by omega), hzs, ih (j - k) (by have := Nat.succ_mul n k; simp only [Nat.succ_eq_add_one] at this; omega), ← Nat.mod_eq_sub_mod (by omega)]
    simp only [Array.toList_map, Array.toList_range, List.getElem?_map, List.getElem?_range hj, Option.map_some]
    rw [this]
    have hlt : j % k < zs.length := by rw [hzs]; exact Nat.mod_lt _ hk0
    simp [hzs, List.getElem?_eq_getElem hlt, List.getElem!_eq_getElem?_getD]
  · rw [List.getElem?_eq_none (by simp; omega), List.getElem?_eq_none (by rw [hl]; omega)]
theorem e_makeSlice {T e kk yb : Nat} {zs : List Value} {xs : List Value} (hx : ev fr x = some (.int .i64 (n : Nat))) [c : ST P T e kk yb] [cz : ZV P e zs] (hzs : zs.length = kk) (hk : 0 < n * kk) (hn : n ≤ 1000000) (hby : yb ≤ 1000) (hxs : xs = (List.replicate n zs).flatten) :
    OpE P ro N fr l ⟨d, .makeSlice T x x, ty, pos, aft, g⟩ (fun v' l' => ∃ b, (∀ c, c ∈ l → c.1 ≠ b) ∧ v' = .slice (some ⟨b, 0, none⟩) n n ∧ l' = (b, .cells (List.toArray xs) e (0, 0)) :: l) := opE_of_sl rfl fun ρ hρ => by
  subst hxs
  obtain ⟨inf, u1, u2, u3, u4⟩ := stV_spec c.out
  obtain ⟨inf', zv, z1, z2, z3⟩ := zvV_spec cz.out
  rw [u2] at z1; cases z1
  simp only [execOp, hρ x _ hx]
  unfold Instr.makeSlice
  rw [sl_bind, sl_under u1]
  have hw : IntKind.i64.wrap ((n : Nat) : Int) = n := i64_in _ ⟨by omega, by omega⟩
  have hb : inf.bytes * n ≤ 1000000000 := by
    rw [u4]; exact Nat.le_trans (Nat.mul_le_mul hby hn) (by omega)
  have hb2 : ((inf.bytes : Nat) : Int) * ((n : Nat) : Int) ≤ 1000000000 := by rw [← Int.natCast_mul]; omega
  simp only [asInt, asIntOf, pure_bind, hw]
  rw [sl_info u2]
  have ht : (decide (((n : Nat) : Int) < 0) || decide (((inf.bytes : Nat) : Int) * ((n : Nat) : Int) > 2 ^ 48)) = false := by
    rw [decide_eq_false (by omega), decide_eq_false (by omega)]; rfl
  simp only [ht, Bool.false_or]
  rw [show (decide (((n : Nat) : Int) < 0) || decide (((n : Nat) : Int) > ((n : Nat) : Int))) = false by rw [decide_eq_false (by omega), decide_eq_false (by omega)]; rfl]
  simp only [Bool.false_eq_true, if_false, Int.toNat_natCast]
  unfold askRoom roomBytes
  have hr : n * inf.bytes ≤ 1000000000 := by rw [Nat.mul_comm]; exact hb
  rw [if_neg (by omega), sl_bind, sl_pure, sl_sizeOf u2, u3]
  have hk1 : ¬ n * kk = 0 := by omega
  simp only [hk1, if_false, zeroValue, sl_bind]
  rw [← sl_bind, sl_info u2, z2]
  simp only [sl_pure]
  have hzv : zv.cells = List.toArray zs := by rw [← z3]
  rw [row_zeros hzv hzs hk]
  simp only [newRow, sl_bind]
  intro b hb
  exact ⟨b, hb, rfl, rfl⟩
end
theorem setFrom_at (vs : List Value) : ∀ (cs : Array Value) (off k : Nat), (setFrom cs off vs)[k]? = if off ≤ k ∧ k < off + vs.length ∧ k < cs.size then vs[k - off]? else cs[k]? := by
  induction vs with
  | nil => intro cs off k; rw [if_neg (by simp; omega)]; rfl
  | cons v r ih =>
    intro cs off k
    show (setFrom (cs.setIfInBounds off v) (off + 1) r)[k]? = _
    rw [ih, Array.size_setIfInBounds]
    by_cases h1 : off + 1 ≤ k ∧ k < off + 1 + r.length ∧ k < cs.size
    · rw [if_pos h1, if_pos (by simp; omega), show k - off = (k - (off + 1)) + 1 by omega]; rfl
    · rw [if_neg h1, Array.getElem?_setIfInBounds]
      by_cases h2 : off = k
      · subst h2
        rw [if_pos rfl]
        by_cases h3 : off < cs.size
        · rw [if_pos h3, if_pos (by simp; omega), Nat.sub_self]; rfl
        · rw [if_neg h3, if_neg (by omega), Array.getElem?_eq_none (by omega)]
      · rw [if_neg h2, if_neg (by simp; omega)]
section
variable {P : Program} {ro : Option Nat} {N : Nat} {E : World} {ops : Array Oper} {Q : Exit → Act → World → Prop} {R : List Chunk} {tbl : List (List Nat)}
def twoOk (os : List Oper) (tbl : List (List Nat)) (L : List (Nat × Nat)) (plan1 plan2 : List (Nat × Bool)) (i j : Nat) (sw1 swj : Sw) : Bool :=
  ((attachF os plan1).tail.all fun y => !L.contains (i, y.1) || y.1 == j || (attachF os plan1).tail.any fun z => ancOf tbl y.1 z.1) && pairsOk os.toArray tbl sw1 (attachF os plan1).tail && swIn sw1 (attachF os plan1).tail && pairsOk os.toArray tbl swj (attachF os plan2).tail && swIn swj (attachF os plan2).tail && plan1.head? == some (i, false) && plan2.head? == some (j, false) && i != j
theorem pl_two {os : List Oper} {sp : Spec} {fr : Fr} {ds : List Deferred} {l : List Chunk} {L : List (Nat × Nat)} {o oj : Oper} {rest rj : List PlanOp} {K K' : Value → List Chunk → Prop} (plan1 plan2 : List (Nat × Bool)) (i j : Nat) (sw1 swj : Sw) (h1 : Attach os plan1 ((i, false, o) :: rest)) (h2 : Attach os plan2 ((j, false, oj) :: rj)) (hp : ((j, false, oj) :: rj).Perm ((i, false, o) :: rest)) (hok : twoOk os tbl L plan1 plan2 i j sw1 swj = true)
    (ho : OpE P ro N fr l o K) (hg : gst os.toArray fr o.guard = some true) (hd : okDst N o.dst = true) (hR : ∀ v l', K v l' → (∀ c, c ∈ R → c ∈ l')) (hS : ∀ v l', K v l' → ∀ x, x ∈ sp → ancOf tbl i x.1 = false → ∀ c, c ∈ x.2 → c ∈ l')
    (ho' : OpE P ro N fr l oj K') (hg' : gst os.toArray fr oj.guard = some true) (hd' : okDst N oj.dst = true) (hR' : ∀ v l', K' v l' → (∀ c, c ∈ R → c ∈ l')) (hS' : ∀ v l', K' v l' → ∀ x, x ∈ sp → ancOf tbl j x.1 = false → ∀ c, c ∈ x.2 → c ∈ l')
    (hk0 : ∀ v l', K v l' → PlanS P ro N E os.toArray Q R tbl sw1 sp rest (putF o.dst v fr) ds l') (hk' : ∀ v l', K' v l' → PlanS P ro N E os.toArray Q R tbl swj sp rj (putF oj.dst v fr) ds l') : PlanS P ro N E os.toArray Q R tbl (some L) sp ((i, false, o) :: rest) fr ds l := by
  unfold twoOk at hok
  rw [h1.fun_eq, h2.fun_eq] at hok
  simp only [Bool.and_eq_true, bne_iff_ne, ne_eq, List.tail_cons, List.all_eq_true, Bool.or_eq_true, Bool.not_eq_true', beq_iff_eq, List.any_eq_true] at hok
  obtain ⟨⟨⟨⟨⟨⟨⟨p1, p2⟩, p3⟩, p4⟩, p5⟩, _⟩, _⟩, hij⟩ := hok
  have hj : ∀ k, Cand tbl (some L) i rest k → k = i ∨ k = j := fun k hk => by
    rcases hk with h | ⟨h, h3, y, hy, rfl⟩
    · exact .inl h
    · rcases p1 y hy with (h4 | h4) | ⟨z, hz, h4⟩
      · simp only [swOk] at h
        rw [h] at h4; cases h4
      · exact .inr h4
      · rw [h3 z hz] at h4; cases h4
  refine .alt (fun k => if k = i then o else oj) (fun k => if k = i then K else K') (fun k => if k = i then rest else rj) (fun k => if k = i then sw1 else swj) (fun k hk => ?_) (fun k hk => ?_) (fun k hk => ?_) fun k hk => ?_
  all_goals rcases hj k hk with h | h
  · subst h; simp only [if_true]; exact ⟨.refl _, p2, p3⟩
  · subst h; simp only [if_neg (Ne.symm hij)]; exact ⟨hp, p4, p5⟩
  · subst h; simp only [if_true]; exact ⟨ho, hg, hd⟩
  · subst h; simp only [if_neg (Ne.symm hij)]; exact ⟨ho', hg', hd'⟩
  · subst h; simp only [if_true]; exact fun v l' k => ⟨hR v l' k, hS v l' k⟩
  · subst h; simp only [if_neg (Ne.symm hij)]; exact fun v l' k => ⟨hR' v l' k, hS' v l' k⟩
  · subst h; simp only [if_true]; exact hk0
  · subst h; simp only [if_neg (Ne.symm hij)]; exact hk'
variable {fr : Fr} {ty : TypeId} {pos : String} {aft : Array Edge} {g : Option (Nat × Bool)} {x y : Operand} {b off : Nat} {t : TypeId}
end
structure IterM (P : Program) (gf : Nat) (lb : List Value) {α : Type} (enc : α → List Value) (S Sp : List α → Prop) (Need : List α → List Chunk → Prop) (C : List Chunk) : Prop where
  run : ∀ (r : Nat) (I Ix : List α → List Chunk → Prop) (G0 : List Chunk), (∀ pre l G, (∀ c, c ∈ G0 → c ∈ G) → I pre l → Need pre (l ++ G)) →
    (∀ pre x l G, (∀ c, c ∈ G0 → c ∈ G) → I pre l → Sp (pre ++ [x]) → YieldS P r (enc x) (l ++ G) (fun v l' => ∃ l1, l' = l1 ++ G ∧ ((v = .bool true ∧ I (pre ++ [x]) l1) ∨ (v = .bool false ∧ Ix (pre ++ [x]) l1)))) →
    ∀ l G, (∀ c, c ∈ G0 → c ∈ G) → I [] l → Fn P gf (.func (.yield r) #[] #[] :: lb) (l ++ (C ++ G)) (fun v l' => ∃ l1, l' = l1 ++ G ∧ ((∃ xs, S xs ∧ I xs l1) ∨ (∃ pre, Sp pre ∧ Ix pre l1)))
section
variable {P : Program} {N : Nat} {E : World} {Q : Exit → Act → World → Prop} {fr : Fr} {ds : List Deferred} {L : List Chunk} {α : Type} {g : Operand} {ps : List Tmp} {assign body : Code} {gf : Nat} {lb : List Value} {enc : α → List Value} {S Sp : List α → Prop} {Need : List α → List Chunk → Prop}
theorem c_rangeM (hg : ev fr g = some (.func (.func gf) #[] lb.toArray)) [en : EN P gf] {C : List Chunk} (hit : IterM P gf lb enc S Sp Need C) (hps : ∀ x, (enc x).length = ps.length) (hpb : ps.all (fun p => Nat.blt p N) = true)
    (I : List α → List Chunk → Prop) (Ix : Code → List α → List Chunk → Prop) (l0 G : List Chunk) (hneed : ∀ pre l X, (∀ c, c ∈ G → c ∈ X) → I pre l → Need pre (l ++ X)) (hL : Keep L (l0 ++ (C ++ G))) (h0 : I [] l0)
    (hround : ∀ (E : World) (r : Nat) (rec : LoopState → Option Code → Loop) (pre : List α) (x : α) (l T : List Chunk), (∃ fn tmps D, rec = recOf fn tmps ps.toArray assign body D) → (∀ c, c ∈ G → c ∈ T) → I pre l → Sp (pre ++ [x]) →
      CodeS P (some r) N E assign (Exit.then (BeginK P r body (roundPost P r (RK E (RoundK I Ix (pre ++ [x]) r rec T)))) (fun _ _ _ => False)) (putPs ps (enc x) fr) [] (l ++ (r, .loop (rec .ready none)) :: T))
    (hdone : ∀ (D : Nat) (xs : List α) (l : List Chunk), S xs → I xs l → PostS N E Q .normal fr (markD D :: ds) (markC D :: (l ++ G)))
    (hstop : ∀ (D : Nat) (c : Code) (pre : List α) (l : List Chunk), Sp pre → Ix c pre l → CodeS P none N E c Q fr (markD D :: ds) (markC D :: (l ++ G))) :
    CodeS P none N E (.rangeFunc g ps.toArray assign body) Q fr ds L := by
  refine ⟨fun a W hf hds hs => wpIn_rangeFunc ?_⟩
  intro fn hfn
  have hs := hL.sat hs
  obtain ⟨rec, hrec⟩ : ∃ rec, rec = recOf fn a.tmps ps.toArray assign body W.heap.size := ⟨_, rfl⟩
  obtain ⟨W1, hW1⟩ : ∃ W1, (W.alloc (.deferred (some []))).alloc (.loop (rec .ready none)) = W1 := ⟨_, rfl⟩
  have hs1 : Sat E ((W.heap.size + 1, .loop (rec .ready none)) :: (W.heap.size, .deferred (some [])) :: (l0 ++ (C ++ G))) W1 := by
    have := (hs.alloc (.deferred (some []))).alloc (.loop (rec .ready none))
    rw [World.size_alloc, hW1] at this
    exact this
  have hev := hf.agrees g _ hg
  refine ⟨W.heap.size + 1, [markD W.heap.size], W1, { target := .fn (.func gf) lb.toArray, args := #[.func (.yield (W.heap.size + 1)) #[] #[]] }, W1, gf, #[.func (.yield (W.heap.size + 1)) #[] #[]] ++ lb.toArray, W1, ?_, ?_, fun _ _ => trivial, ?_, fun h => (by cases h), ?_⟩
  · rw [← hW1, hrec]; exact run_enterLoop_outer _ _ _ _ _
  · simp only [resolve, hev]
    simp [Deferred.ofValue, Act.eval]
  · simp [invoke, en.out]
  · have hR := hit.run (W.heap.size + 1)
      (fun pre l => ∃ l1, I pre l1 ∧ l = l1 ++ [(W.heap.size + 1, .loop (rec .ready none)), markC W.heap.size])
      (fun pre l => ∃ c l1, Ix c pre l1 ∧ l = l1 ++ [(W.heap.size + 1, .loop (rec .done (some c))), markC W.heap.size])
      G
      (fun pre l G' hG ⟨l1, h1, h2⟩ => by rw [h2, List.append_assoc]; exact hneed _ _ _ (fun c hc => List.mem_append_right _ (hG c hc)) h1)
      (fun pre x l G' hG ⟨l1, h1, h2⟩ hsp => by
        subst h2
        have hy := yield_of (P := P) (N := N) (fr := fr) (assign := assign) (body := body) (ps := ps) (enc := enc) (r := W.heap.size + 1) (fn := fn) (tmps := a.tmps) (D := W.heap.size) (T := markC W.heap.size :: G') (I := I) (Ix := Ix) (pre := pre) (x := x) (l := l1) (hps x) hpb
          (fun a' ha' => ⟨by rw [ha']; exact hf.size, fun d v hd => by rw [ha']; exact hf.at_ d v hd⟩) (fun E' => by
            have := hround E' (W.heap.size + 1) rec pre x l1 (markC W.heap.size :: G') ⟨fn, a.tmps, W.heap.size, hrec⟩ (fun c hc => List.mem_cons_of_mem _ (hG c hc)) h1 hsp
            rw [hrec] at this
            exact this)
        rw [← hrec] at hy
        refine ⟨fun E' W' hs' => ?_⟩
        have e : l1 ++ [(W.heap.size + 1, Obj.loop (rec .ready none)), markC W.heap.size] ++ G' = l1 ++ (W.heap.size + 1, Obj.loop (rec .ready none)) :: markC W.heap.size :: G' := by simp
        rw [e] at hs'
        obtain ⟨fn', tm, asg, bo, k1, k2⟩ := hy.run E' W' hs'
        refine ⟨fn', tm, asg, bo, k1, k2.mono ?_⟩
        rintro e' W'' ⟨v, l', rfl, hk, hs''⟩
        refine ⟨v, l', rfl, ?_, hs''⟩
        rcases hk with ⟨hv, l2, hI, rfl⟩ | ⟨hv, c, l2, hI, rfl⟩
        · exact ⟨l2 ++ [(W.heap.size + 1, .loop (rec .ready none)), markC W.heap.size], by simp, .inl ⟨hv, l2, hI, rfl⟩⟩
        · exact ⟨l2 ++ [(W.heap.size + 1, .loop (rec .done (some c))), markC W.heap.size], by simp, .inr ⟨hv, c, l2, hI, rfl⟩⟩)
      (l0 ++ [(W.heap.size + 1, .loop (rec .ready none)), markC W.heap.size]) G (fun _ h => h) ⟨l0, h0, rfl⟩
    have hs2 : Sat E (l0 ++ [(W.heap.size + 1, Obj.loop (rec .ready none)), markC W.heap.size] ++ (C ++ G)) W1 := hs1.perm (by
      refine List.Perm.trans ?_ (List.Perm.append_right (C ++ G) (List.perm_append_comm (l₁ := [(W.heap.size + 1, Obj.loop (rec .ready none)), markC W.heap.size]) (l₂ := l0)))
      simp [markC])
    have hc := hR.run E W1 hs2
    have eargs : (Value.func (.yield (W.heap.size + 1)) #[] #[] :: lb).toArray = #[.func (.yield (W.heap.size + 1)) #[] #[]] ++ lb.toArray := by simp
    rw [eargs] at hc
    refine callsIn_fw (hc.mono ?_)
    rintro e W2 ⟨v, l', rfl, ⟨l1, rfl, ⟨xs, hS, l2, hI, rfl⟩ | ⟨pre, hSp, c, l2, hI, rfl⟩⟩, hs3⟩
    · have hm : W2.heap[W.heap.size + 1]? = some (.loop (rec .ready none)) := hs3.has (W.heap.size + 1, _) (by simp)
      subst hrec
      refine ⟨none, _, run_endLoop (P := P) hm (by simp [recOf]), ?_⟩
      refine (hdone W.heap.size xs l2 hS hI).run { a with defers := [markD W.heap.size] ++ a.defers } _ ⟨hf.size, hf.at_⟩ (by rw [← hds]; rfl) ?_
      have h4 : Sat E (l2 ++ (W.heap.size + 1, Obj.loop (recOf fn a.tmps ps.toArray assign body W.heap.size .ready none)) :: markC W.heap.size :: G) W2 := by simpa using hs3
      have h5 := h4.upd (upd_mid l2 _ _ (.loop { recOf fn a.tmps ps.toArray assign body W.heap.size .ready none with state := .exhausted }) _)
      refine (h5.perm List.perm_middle).tail.perm List.perm_middle
    · have hm : W2.heap[W.heap.size + 1]? = some (.loop (rec .done (some c))) := hs3.has (W.heap.size + 1, _) (by simp)
      subst hrec
      refine ⟨some c, _, run_endLoop (P := P) hm (by simp [recOf]), ?_⟩
      refine (hstop W.heap.size c pre l2 hSp hI).run { a with defers := [markD W.heap.size] ++ a.defers } _ ⟨hf.size, hf.at_⟩ (by rw [← hds]; rfl) ?_
      have h4 : Sat E (l2 ++ (W.heap.size + 1, Obj.loop (recOf fn a.tmps ps.toArray assign body W.heap.size .done (some c))) :: markC W.heap.size :: G) W2 := by simpa using hs3
      have h5 := h4.upd (upd_mid l2 _ _ (.loop { recOf fn a.tmps ps.toArray assign body W.heap.size .done (some c) with state := .exhausted }) _)
      refine (h5.perm List.perm_middle).tail.perm List.perm_middle
end
set_option maxRecDepth 20000
theorem q_buildArr {P : Program} {ro : Option Nat} {N : Nat} {fr : Fr} {R : List Chunk} {d : Option Nat} {ty : TypeId} {pos : String} {aft : Array Edge} {g : Option (Nat × Bool)} {t n e k : Nat} {zs cs : List Value} {xs : List (Nat × Operand)} {ps : List (Nat × Value)} (hx : evps fr xs = some ps) [c : ZV P t zs] [ca : AT P t n e k] (hfill : Instr.fill (fun i => some (i * k, k)) (List.toArray zs) ps = some (List.toArray cs)) : OpQ P ro N fr R ⟨d, .build t (List.toArray xs), ty, pos, aft, g⟩ (.agg (List.toArray cs)) := opQ_of_sl rfl fun ρ l hρ _ => by
  obtain ⟨i, zv, h1, h2, h3⟩ := zvV_spec c.out
  obtain ⟨inf, k1, k2, k3⟩ := atV_spec ca.out
  simp only [execOp, sl_bind, Instr.build, zeroValue, List.map_toArray, hρ.parts hx]
  rw [← sl_bind, sl_info h1, h2]
  simp only [sl_pure]
  rw [sl_under' k1]
  show sl P (sizeOf e >>= _) l _
  rw [sl_bind, sl_sizeOf' k2]
  have hz : zv.cells = List.toArray zs := by rw [← h3]
  simp only [k3]
  rw [hz, hfill]
  exact ⟨rfl, rfl⟩
abbrev z8 : List Value := [.int .u64 0, .int .u64 0, .int .u64 0, .int .u64 0, .int .u64 0, .int .u64 0, .int .u64 0, .int .u64 0]
def mcs (n : Nat) : List Value := List.replicate (n * 8) (.int .u64 0)
theorem mcs_rows (n : Nat) : mcs n = (List.replicate n z8).flatten := by
  unfold mcs
  induction n with
  | zero => rfl
  | succ n ih =>
    rw [List.replicate_succ, List.flatten_cons, ← ih, show (n + 1) * 8 = 8 + n * 8 by omega, ← List.replicate_append_replicate]
    rfl
theorem mcs_set {n k : Nat} (h : k < n) : setFrom (List.toArray (mcs n)) (k * 8) z8 = List.toArray (mcs n) := by
  apply Array.ext_getElem?
  intro j
  have hsz : (List.toArray (mcs n)).size = n * 8 := by simp [mcs]
  rw [setFrom_at, hsz]
  by_cases hj : k * 8 ≤ j ∧ j < k * 8 + 8
  · rw [if_pos ⟨hj.1, by simp; omega, by omega⟩]
    obtain ⟨i, hi, rfl⟩ : ∃ i, i < 8 ∧ j = k * 8 + i := ⟨j - k * 8, by omega, by omega⟩
    rw [Nat.add_sub_cancel_left]
    have h1 : (List.toArray (mcs n))[k * 8 + i]? = some (.int .u64 0) := by
      unfold mcs; rw [List.getElem?_toArray, List.getElem?_replicate, if_pos (by omega)]
    rw [h1]
    rcases i with _ | _ | _ | _ | _ | _ | _ | _ | i <;> first | rfl | omega
  · rw [if_neg fun h => hj ⟨h.1, by have := h.2.1; simp at this; omega⟩]
abbrev meC (b gb n : Nat) : Chunk := (b, .cells (List.toArray [.slice (some ⟨gb, 0, none⟩) n n]) 252 (0, 0))
abbrev frC (gb n : Nat) : Chunk := (gb, .cells (List.toArray (mcs n)) 255 (0, 0))
def IsM (b n : Nat) (lq : List Chunk) : Prop := 1 ≤ n ∧ n ≤ 64 ∧ ∃ gb, lq = [meC b gb n, frC gb n]
theorem mnew_any (n : Nat) (h1 : 1 ≤ n) (h2 : n ≤ 64) (l : List Chunk) : Fn Tryz.prog 64 [.int .i64 (n : Nat)] l fun v l' => ∃ b, v = .tuple #[.pointer (some ⟨b, 0, none⟩), .int .i64 0] ∧ ∃ lq, IsM b n lq ∧ l' = lq ++ l := by
  refine fn_of_body Tryz.func64 rfl rfl fun E => ?_
  simp only [argF, Tryz.ntmps64]
  refine gzU ?_
  refine t_e (e_makeSlice (n := n) (kk := 8) (xs := mcs n) rfl rfl (by omega) (by omega) (by decide) (mcs_rows n)) rfl rfl rfl ?_
  rintro _ _ ⟨gb, hgb, rfl, rfl⟩
  refine gzU ?_
  (first | refine t_e (e_box1 rfl rfl) rfl rfl rfl ?_ | refine t_e (e_boxA rfl) rfl rfl rfl ?_); rintro _ _ ⟨b, _, rfl, rfl⟩
  refine gzU ?_
  exact k_ret [] rfl .refl (by exact zRes) ⟨_, rfl, _, ⟨h1, h2, gb, rfl⟩, rfl⟩
abbrev miB (B : Nat) (x : Int) : Chunk := (B, .cells (List.toArray [.int .i64 x]) 3 (0, 0))
abbrev mpB (B b : Nat) : Chunk := (B, .cells (List.toArray [.pointer (some ⟨b, 0, none⟩)]) 52 (0, 0))
theorem mall_any (b f : Nat) (l : List Chunk) : Fn Tryz.prog 142 [.pointer (some ⟨b, 0, none⟩), .int .i64 (f : Nat)] l fun v l' => ∃ B1 B2, v = .func (.func 187) #[] #[.pointer (some ⟨B1, 0, none⟩), .pointer (some ⟨B2, 0, none⟩)] ∧ l' = miB B1 f :: mpB B2 b :: l := by
  refine fn_of_body Tryz.func142 rfl rfl fun E => ?_
  simp only [argF, Tryz.ntmps142]
  refine gzU ?_
  refine t_e (e_box1 rfl rfl) rfl rfl rfl ?_
  rintro _ _ ⟨B2, _, rfl, rfl⟩
  refine t_e (e_box1 rfl rfl) rfl rfl rfl ?_
  rintro _ _ ⟨B1, _, rfl, rfl⟩
  refine gzU ?_
  exact k_ret [] rfl .refl (by exact zRes) ⟨_, _, rfl, rfl⟩
theorem range_take {f n k : Nat} (h : f ≤ k) (hk : k < n) : (List.range' f (n - f)).take (k + 1 - f) = (List.range' f (n - f)).take (k - f) ++ [k] := by
  rw [show k + 1 - f = (k - f) + 1 by omega, List.take_add_one, List.getElem?_range' (by omega)]
  simp; omega
theorem mall_iter (B1 B2 b gb n f : Nat) (hf : f < n) (hn : n ≤ 64) : IterS Tryz.prog 187 [.pointer (some ⟨B1, 0, none⟩), .pointer (some ⟨B2, 0, none⟩)] (fun x : Nat => [.int .i64 (x : Nat), .pointer (some ⟨gb, x * 8, none⟩)]) (fun xs => xs = List.range' f (n - f)) (fun pre => pre <+: List.range' f (n - f))
    (fun _ l => miB B1 f ∈ l ∧ mpB B2 b ∈ l ∧ meC b gb n ∈ l) := by
  refine ⟨fun r I Ix G0 hneed hY l G hG h0 => ?_⟩
  obtain ⟨n1, n2, n3⟩ := hneed _ _ G hG h0
  refine fn_of_body Tryz.func187 rfl rfl fun E => ?_
  simp only [argF, Tryz.ntmps187]
  refine gzU ?_
  refine k_loop (α := Nat × List Chunk) (fun x => [(0, .func (.yield r) #[] #[]), (2, .pointer (some ⟨B2, 0, none⟩)), (4, .int .i64 x.1)]) (fun x => x.2 ++ G) (fun x => f ≤ x.1 ∧ x.1 ≤ n ∧ I ((List.range' f (n - f)).take (x.1 - f)) x.2) (fun x => n - x.1) (f, l) ⟨Nat.le_refl _, by simp only; omega, by simp only; rw [Nat.sub_self]; exact h0⟩ ⟨rfl, rfl, rfl, trivial⟩ .refl ?_
  clear n1 n2 n3
  rintro ⟨k, l⟩ ⟨hk1, hk2, hI⟩
  simp only at hk1 hk2 hI ⊢
  obtain ⟨n1, n2, n3⟩ := hneed _ _ G hG hI
  by_cases hlt : k < n
  · refine gzU ?_
    have hy := hY ((List.range' f (n - f)).take (k - f)) k l G hG hI (by rw [← range_take hk1 hlt]; exact List.take_prefix _ _)
    refine t_e (e_yield rfl rfl hy) rfl rfl rfl ?_
    rintro v l' ⟨l1, rfl, ⟨rfl, hI'⟩ | ⟨rfl, hx⟩⟩
    · refine gzU ?_
      exact k_next (k + 1, l1) ⟨by simp only; omega, by simp only; omega, by simp only; rw [range_take hk1 hlt]; exact hI'⟩ (by simp only; omega) ⟨rfl, rfl, rfl, trivial⟩ .refl
    · refine gzU ?_
      exact k_ret [] rfl .refl (by exact zRes) ⟨l1, rfl, .inr ⟨_, by rw [← range_take hk1 hlt]; exact List.take_prefix _ _, hx⟩⟩
  · obtain rfl : k = n := by omega
    rw [List.take_of_length_le (by simp)] at hI
    refine gzU ?_
    exact k_ret [] rfl .refl (by exact zRes) ⟨l, rfl, .inl ⟨_, rfl, hI⟩⟩
set_option maxHeartbeats 1000000 in
theorem mzero_any (b n f k : Nat) (lq : List Chunk) (hq : IsM b n lq) (hf : f < n) (hk : k ≤ n - f) (G : List Chunk) : Fn Tryz.prog 77 [.pointer (some ⟨b, 0, none⟩), .int .i64 (f : Nat), .int .i64 (k : Nat)] (lq ++ G) fun v l' => v = .int .i64 0 ∧ ∃ X, l' = lq ++ (X ++ G) := by
  obtain ⟨h1, h2, gb, rfl⟩ := hq
  simp only [List.cons_append, List.nil_append]
  refine fn_of_body Tryz.func77 rfl rfl fun E => ?_
  simp only [argF, Tryz.ntmps77]
  refine gzU ?_
  refine t_e (e_box1 rfl rfl) rfl rfl rfl ?_
  rintro _ _ ⟨b4, _, rfl, rfl⟩
  refine t_e (e_box1 rfl rfl) rfl rfl rfl ?_
  rintro _ _ ⟨b5, _, rfl, rfl⟩
  refine gzU ?_
  refine c_draw [(0, true), (1, true), (2, true), (3, true), (4, true), (5, true), (6, true), (7, true), (8, true), (9, true), (10, true), (11, true), (12, true), (13, true), (14, true), (15, true), (16, true), (17, true), (18, true), (19, true), (20, true), (21, true), (22, true), (23, true), (24, true), (25, true), (26, true)] [[], [0], [0, 1], [0, 1, 2], [0, 1, 2], [0, 1, 2, 4], [0, 1, 2, 4, 5], [0, 1, 2, 4, 5, 6], [0, 1, 2, 4, 5, 6, 7], [0, 1, 2, 3, 4, 5, 6, 7, 8], [0, 1, 2, 3, 4, 5, 6, 7, 8, 9], [0, 1, 2, 3, 4, 5, 6, 7, 8, 9, 10], [0, 1, 2, 3, 4, 5, 6, 7, 8, 9, 10, 11], [0, 1, 2, 3, 4, 5, 6, 7, 8, 9, 10, 11, 12], [0, 1, 2, 3, 4, 5, 6, 7, 8, 9, 10, 11, 12, 13], [0, 1, 2, 3, 4, 5, 6, 7, 8, 9, 10, 11, 12, 13, 14], [0, 1, 2, 3, 4, 5, 6, 7, 8, 9, 10, 11, 12, 13, 14, 15], [0, 1, 2, 3, 4, 5, 6, 7, 8, 9, 10, 11, 12, 13, 14, 15], [0, 1, 2, 3, 4, 5, 6, 7, 8, 9, 10, 11, 12, 13, 14, 15, 17], [0, 1, 2, 3, 4, 5, 6, 7, 8, 9, 10, 11, 12, 13, 14, 15, 17, 18], [0, 1, 2, 3, 4, 5, 6, 7, 8, 9, 10, 11, 12, 13, 14, 15, 17, 18, 19], [0, 1, 2, 3, 4, 5, 6, 7, 8, 9, 10, 11, 12, 13, 14, 15, 17, 18, 19, 20], [0, 1, 2, 3, 4, 5, 6, 7, 8, 9, 10, 11, 12, 13, 14, 15], [0, 1, 2, 3, 4, 5, 6, 7, 8, 9, 10, 11, 12, 13, 14, 15, 17, 18, 19, 20, 21, 22], [0, 1, 2, 3, 4, 5, 6, 7, 8, 9, 10, 11, 12, 13, 14, 15, 16, 17, 18, 19, 20, 21, 22, 23], [0, 1, 2, 3, 4, 5, 6, 7, 8, 9, 10, 11, 12, 13, 14, 15, 16, 17, 18, 19, 20, 21, 22, 23, 24], [0, 1, 2, 3, 4, 5, 6, 7, 8, 9, 10, 11, 12, 13, 14, 15, 16, 17, 18, 19, 20, 21, 22, 23, 24, 25]] _ (by kernel_rfl) (by kernel_rfl) zAtt (fun _ h => h) ?_
  refine pzU ?_
  refine gzU ?_
  refine t_e (e_call0 rfl rfl (mall_any b f _)) rfl rfl rfl ?_
  rintro _ _ ⟨B1, B2, rfl, rfl⟩
  refine gzU ?_
  refine c_range (α := Nat) (ps := [42, 43]) (lb := [.pointer (some ⟨B1, 0, none⟩), .pointer (some ⟨B2, 0, none⟩)]) rfl (mall_iter B1 B2 b gb n f hf h2) (fun _ => rfl) rfl
    (fun pre l => l = [miB B1 f, mpB B2 b, miB b5 k, miB b4 f, meC b gb n, frC gb n])
    (fun c pre l => c = .exit 1 ∧ l = [miB B1 f, mpB B2 b, miB b5 k, miB b4 f, meC b gb n, frC gb n])
    _ G (fun pre l2 X2 hX h => by rw [h]; exact ⟨List.mem_append_left _ (by exact zMem), List.mem_append_left _ (by exact zMem), List.mem_append_left _ (by exact zMem)⟩) (by exact zKeep) rfl ?_ ?_ ?_
  · rintro E r0 rec pre x l' T ⟨fn, tmps, D, rfl⟩ hT rfl hsp
    have hx : f ≤ x ∧ x < n := by
      have h3 : x ∈ List.range' f (n - f) := hsp.subset (by simp)
      rw [List.mem_range'_1] at h3; omega
    simp only [putPs, List.cons_append, List.nil_append]
    refine gzU ?_
    refine p_begin (by exact zUpd) ?_
    refine gzU ?_
    by_cases hb : (x : Int) - f ≥ k
    · refine gzU ?_
      refine p_round_exit [miB B1 f, mpB B2 b, miB b5 k, miB b4 f, meC b gb n, frC gb n] (by exact zKeep) ⟨rfl, rfl⟩
    · refine gzU ?_
      refine t_q (q_buildArr (zs := z8) (cs := z8) rfl rfl) rfl rfl rfl ?_
      refine gzQU ?_
      apply t_n
      · exact e_storeA (cs := List.toArray (mcs n)) (n := 8) rfl rfl rfl (by simp [Value.oneCell']) (by exact zUpd) (by simp [mcs]; omega)
      · rfl
      · rfl
      rintro _ _ ⟨rfl, rfl⟩
      rw [show (List.toArray z8).toList = z8 from rfl, mcs_set hx.2]
      refine gzU ?_
      exact p_round _ .refl rfl
  · rintro D xs l' rfl rfl
    simp only [List.cons_append, List.nil_append]
    refine gzU ?_
    exact k_ret2 [D] _ rfl (l' := meC b gb n :: frC gb n :: G) (by exact zKeep) (by exact zRes) (by exact zKeep) ⟨rfl, [], rfl⟩
  · rintro D c pre l' hsp ⟨rfl, rfl⟩
    simp only [List.cons_append, List.nil_append]
    refine gzU ?_
    exact k_ret2 [D] _ rfl (l' := meC b gb n :: frC gb n :: G) (by exact zKeep) (by exact zRes) (by exact zKeep) ⟨rfl, [], rfl⟩
section
variable {P : Program} {ro : Option Nat} {N : Nat} {E : World} {ops : Array Oper} {Q : Exit → Act → World → Prop} {R : List Chunk} {tbl : List (List Nat)}
theorem pl_perm {sw : Sw} {sp : Spec} {pl : List PlanOp} {fr : Fr} {ds : List Deferred} {l l' : List Chunk} (p : l.Perm l') (h : PlanS P ro N E ops Q R tbl sw sp pl fr ds l) : PlanS P ro N E ops Q R tbl sw sp pl fr ds l' := by
  induction h generalizing l' with
  | nil h => exact .nil (p_keep (.of_perm p.symm) h)
  | q h1 h2 h3 _ ih => exact .q h1 h2 h3 (ih p)
  | gq h1 h2 h3 h4 h5 h6 _ ih => exact .gq h1 h2 h3 h4 h5 h6 (ih p)
  | gs h1 h2 h3 h4 h5 h6 h7 h8 h9 _ ih => exact .gs h1 h2 h3 h4 h5 h6 (fun c hc => p.mem_iff.1 (h7 c hc)) h8 (fun hk x hx ha c hc => p.mem_iff.1 (h9 hk x hx ha c hc)) (ih p)
  | gu h1 h2 h3 h4 h5 h7 h8 h9 _ ih => exact .gu h1 h2 h3 h4 h5 (fun c hc => p.mem_iff.1 (h7 c hc)) h8 (fun hk x hx ha c hc => p.mem_iff.1 (h9 hk x hx ha c hc)) (ih p)
  | e h1 h2 h3 h4 h5 h6 ih => exact .e (OpE.re (.of_perm p.symm) h1 fun v l2 hk => ⟨l2, .refl, hk⟩) h2 h3 h4 h5 h6
  | ge h1 h2 h3 h4 h5 h6 h7 h8 h9 ih => exact .ge (OpE.re (.of_perm p.symm) h1 fun v l2 hk => ⟨l2, .refl, hk⟩) h2 h3 h4 h5 h6 h7 h8 h9
  | weak h1 _ ih => exact .weak h1 (ih p)
  | sq h1 h2 h3 h4 _ ih => exact .sq h1 (fun c hc => p.mem_iff.1 (h2 c hc)) h3 h4 (ih p)
  | alt oo K rf sf h1 h2 h3 h4 ih => exact .alt oo K rf sf h1 (fun j hj => ⟨OpE.re (.of_perm p.symm) (h2 j hj).1 fun v l2 hk => ⟨l2, .refl, hk⟩, (h2 j hj).2⟩) h3 h4
  | alt2 h1 h2 h3 h4 _ _ ih1 ih2 => exact .alt2 h1 h2 h3 h4 (ih1 p) (ih2 p)
abbrev AdS := Nat × Oper × (Value → List Chunk → Prop)
abbrev plA (x : AdS) : PlanOp := (x.1, false, x.2.1)
def FLe (fr fr' : Fr) : Prop := ∀ d v, flook fr d = some v → flook fr' d = some v
structure IsAd (P : Program) (ro : Option Nat) (N : Nat) (fr : Fr) (l : List Chunk) (x : AdS) : Prop where
  law' : ∀ l', (∀ c, c ∈ l → c ∈ l') → OpE P ro N fr l' x.2.1 fun v l2 => ∃ cs, x.2.2 v cs ∧ l2 = cs ++ l'
  guard : x.2.1.guard = none
  dst : ∃ d, x.2.1.dst = some d ∧ Nat.blt d N = true ∧ flook fr d = none
theorem OpE.le {fr fr' : Fr} {l : List Chunk} {o : Oper} {K : Value → List Chunk → Prop} (h : FLe fr fr') (ho : OpE P ro N fr l o K) : OpE P ro N fr' l o K := ⟨ho.nodef, fun E a W hf hs => ho.val E a W (hf.sub h) hs⟩
theorem OpQ.le {fr fr' : Fr} {l : List Chunk} {o : Oper} {v : Value} (h : FLe fr fr') (ho : OpQ P ro N fr l o v) : OpQ P ro N fr' l o v := ⟨fun l' hl => (ho.run l' hl).le h⟩
theorem IsAd.law {fr : Fr} {l : List Chunk} {x : AdS} (h : IsAd P ro N fr l x) (fr' : Fr) (l' : List Chunk) (h1 : FLe fr fr') (h2 : ∀ c, c ∈ l → c ∈ l') : OpE P ro N fr' l' x.2.1 fun v l2 => ∃ cs, x.2.2 v cs ∧ l2 = cs ++ l' := (h.law' l' h2).le h1
def AddK : List AdS → Fr → List Chunk → (Fr → List Chunk → Prop) → Prop
  | [], fr, l, k => k fr l
  | x :: xs, fr, l, k => ∀ v cs, x.2.2 v cs → AddK xs (putF x.2.1.dst v fr) (cs ++ l) k
theorem AddK.mono {k k' : Fr → List Chunk → Prop} (h : ∀ fr l, k fr l → k' fr l) : ∀ {xs : List AdS} {fr : Fr} {l : List Chunk}, AddK xs fr l k → AddK xs fr l k'
  | [], _, _, hk => h _ _ hk
  | x :: xs, _, _, hk => fun v cs hx => AddK.mono h (hk v cs hx)
def Inv (k : Fr → List Chunk → Prop) : Prop := ∀ fr fr' l l', FLe fr fr' → l.Perm l' → k fr l → k fr' l'
theorem flook_putF {d e : Nat} {v : Value} {fr : Fr} : flook (putF (some d) v fr) e = if d = e then some v else flook fr e := by
  show (bif Nat.beq d e then some v else flook fr e) = _
  by_cases h : d = e
  · subst h; simp
  · rw [if_neg h]; have : Nat.beq d e = false := by cases hb : Nat.beq d e; rfl; exact absurd (Nat.eq_of_beq_eq_true hb) h
    rw [this]; rfl
theorem FLe.put {fr fr' : Fr} (h : FLe fr fr') (d : Option Nat) (v : Value) : FLe (putF d v fr) (putF d v fr') := by
  cases d with
  | none => exact h
  | some d => intro e u hu; rw [flook_putF] at hu ⊢; split at hu <;> simp_all [FLe]
theorem AddK.inv {k : Fr → List Chunk → Prop} (hk : Inv k) : ∀ {xs : List AdS} {fr fr' : Fr} {l l' : List Chunk}, FLe fr fr' → l.Perm l' → AddK xs fr l k → AddK xs fr' l' k
  | [], _, _, _, _, h1, h2, h => hk _ _ _ _ h1 h2 h
  | x :: xs, _, _, _, _, h1, h2, h => fun v cs hx => AddK.inv hk (h1.put _ _) (h2.append_left cs) (h v cs hx)
theorem put_swap {d e : Nat} (h : d ≠ e) (u v : Value) (fr : Fr) : FLe (putF (some d) u (putF (some e) v fr)) (putF (some e) v (putF (some d) u fr)) := by
  intro k w hw
  simp only [flook_putF] at hw ⊢
  by_cases h1 : d = k
  · subst h1; rw [if_pos rfl] at hw; rw [if_neg (Ne.symm h), if_pos rfl]; exact hw
  · rw [if_neg h1] at hw; rw [if_neg h1]; exact hw
theorem AddK.first {k : Fr → List Chunk → Prop} (hk : Inv k) {a : AdS} {da : Nat} (ha : a.2.1.dst = some da) : ∀ {xs : List AdS} {fr : Fr} {l : List Chunk}, (∀ x, x ∈ xs → ∃ d, x.2.1.dst = some d ∧ d ≠ da) → AddK (xs ++ [a]) fr l k → AddK (a :: xs) fr l k
  | [], _, _, _, h => h
  | x :: xs, fr, l, hx, h => fun v cs hv u us hu => by
    have h1 := AddK.first hk ha (fun y hy => hx y (List.mem_cons_of_mem _ hy)) (h u us hu) v cs hv
    obtain ⟨d, hd, hne⟩ := hx x List.mem_cons_self
    refine AddK.inv hk ?_ ?_ h1
    · rw [hd, ha]; exact put_swap (Ne.symm hne) _ _ _
    · exact List.perm_append_comm_assoc cs us l
theorem pl_seqA {sp : Spec} {ds : List Deferred} {rest : List PlanOp} : ∀ (xs : List AdS) {fr0 fr : Fr} {l0 l : List Chunk}, FLe fr0 fr → (∀ c, c ∈ l0 → c ∈ l) → (∀ x, x ∈ xs → IsAd P ro N fr0 l0 x) → (xs.map fun x => x.2.1.dst).Nodup → (∀ x, x ∈ xs → ∀ d, x.2.1.dst = some d → flook fr0 d = none) → (∀ c, c ∈ R → c ∈ l0) → (∀ x, x ∈ sp → ∀ c, c ∈ x.2 → c ∈ l0) →
    AddK xs fr l (fun fr' l' => PlanS P ro N E ops Q R tbl none sp rest fr' ds l') → PlanS P ro N E ops Q R tbl none sp (xs.map plA ++ rest) fr ds l
  | [], _, _, _, _, _, _, _, _, _, _, _, h => h
  | x :: xs, fr0, fr, l0, l, h1, h2, hx, hn, hf, hR, hS, h => by
    have hI := hx x List.mem_cons_self
    obtain ⟨d, hd, hb, hfd⟩ := hI.dst
    refine .e (hI.law fr l h1 h2) hI.guard (by rw [hd]; exact hb) ?_ ?_ ?_
    · rintro v l' ⟨cs, _, rfl⟩ c hc; exact List.mem_append_right _ (h2 _ (hR c hc))
    · rintro v l' ⟨cs, _, rfl⟩ y hy _ c hc; exact List.mem_append_right _ (h2 _ (hS y hy c hc))
    · rintro v l' ⟨cs, hk, rfl⟩
      refine pl_seqA xs (fr0 := fr0) ?_ (fun c hc => List.mem_append_right _ (h2 c hc)) (fun y hy => hx y (List.mem_cons_of_mem _ hy)) (List.nodup_cons.1 hn).2 (fun y hy => hf y (List.mem_cons_of_mem _ hy)) hR hS (h v cs hk)
      intro e u hu
      show flook (putF x.2.1.dst v fr) e = _
      rw [hd, flook_putF]
      split
      · rename_i e1; subst e1; rw [hfd] at hu; cases hu
      · exact h1 e u hu
abbrev plQ (x : Nat × Oper) : PlanOp := (x.1, true, x.2)
def QK (P : Program) (ro : Option Nat) (N : Nat) (R : List Chunk) : List (Nat × Oper) → Fr → (Fr → Prop) → Prop
  | [], fr, k => k fr
  | x :: xs, fr, k => ∃ v d, OpQ P ro N fr R x.2 v ∧ x.2.guard = none ∧ x.2.dst = some d ∧ Nat.blt d N = true ∧ QK P ro N R xs ((d, v) :: fr) k
theorem QK.plan {sw : Sw} {sp : Spec} {ds : List Deferred} {rest : List PlanOp} {l : List Chunk} : ∀ {qs : List (Nat × Oper)} {fr : Fr}, QK P ro N R qs fr (fun fr' => PlanS P ro N E ops Q R tbl sw sp rest fr' ds l) → PlanS P ro N E ops Q R tbl sw sp (qs.map plQ ++ rest) fr ds l
  | [], _, h => h
  | x :: qs, fr, h => by
    obtain ⟨v, d, h1, h2, h3, h4, h5⟩ := h
    exact .q h1 h2 (by rw [h3]; exact h4) (by rw [h3]; exact QK.plan h5)
theorem QK.mono {k k' : Fr → Prop} (h : ∀ fr, k fr → k' fr) : ∀ {qs : List (Nat × Oper)} {fr : Fr}, QK P ro N R qs fr k → QK P ro N R qs fr k'
  | [], _, hk => h _ hk
  | x :: qs, _, ⟨v, d, h1, h2, h3, h4, h5⟩ => ⟨v, d, h1, h2, h3, h4, QK.mono h h5⟩
theorem QK.le {k : Fr → Prop} (hk : ∀ fr fr', FLe fr fr' → k fr → k fr') : ∀ {qs : List (Nat × Oper)} {fr fr' : Fr}, FLe fr fr' → QK P ro N R qs fr k → QK P ro N R qs fr' k
  | [], _, _, h, hq => hk _ _ h hq
  | x :: qs, _, _, h, ⟨v, d, h1, h2, h3, h4, h5⟩ => ⟨v, d, h1.le h, h2, h3, h4, QK.le hk (h.put (some d) v) h5⟩
theorem FLe.low {fr0 fr : Fr} {d : Nat} {v : Value} (h1 : FLe fr0 fr) (hd : flook fr0 d = none) : FLe fr0 (putF (some d) v fr) := fun e u hu => by
  rw [flook_putF]
  split
  · rename_i e1; subst e1; rw [hd] at hu; cases hu
  · exact h1 e u hu
theorem QK.low {fr0 : Fr} {k : Fr → Prop} : ∀ {qs : List (Nat × Oper)} {fr : Fr}, (∀ x, x ∈ qs → ∀ d, x.2.dst = some d → flook fr0 d = none) → FLe fr0 fr → QK P ro N R qs fr k → QK P ro N R qs fr (fun fr2 => FLe fr0 fr2 ∧ k fr2)
  | [], _, _, h, hk => ⟨h, hk⟩
  | x :: qs, _, hq, h, ⟨v, d, h1, h2, h3, h4, h5⟩ => ⟨v, d, h1, h2, h3, h4, QK.low (fun y hy => hq y (List.mem_cons_of_mem _ hy)) (h.low (hq x List.mem_cons_self d h3)) h5⟩
theorem QK.first {k : Fr → List Chunk → Prop} (hk : Inv k) {a : AdS} {da : Nat} (ha : a.2.1.dst = some da) : ∀ {qs : List (Nat × Oper)} {fr : Fr} {l : List Chunk}, flook fr da = none → (∀ x, x ∈ qs → x.2.dst ≠ some da) → QK P ro N R qs fr (fun fr' => AddK [a] fr' l k) → AddK [a] fr l (fun fr' l' => QK P ro N R qs fr' (fun fr2 => k fr2 l'))
  | [], _, _, _, _, h => h
  | x :: qs, fr, l, hn, hx, ⟨v, d, h1, h2, h3, h4, h5⟩ => by
    have hne : d ≠ da := fun e => hx x List.mem_cons_self (by rw [h3, e])
    intro u us hu
    show QK P ro N R (x :: qs) (putF a.2.1.dst u fr) _
    rw [ha]
    refine ⟨v, d, h1.le ?_, h2, h3, h4, ?_⟩
    · intro e w hw
      rw [flook_putF]
      split
      · rename_i e1; subst e1; rw [hn] at hw; cases hw
      · exact hw
    · have h6 := QK.first hk ha (fr := (d, v) :: fr) (by show flook (putF (some d) v fr) da = none; rw [flook_putF, if_neg hne]; exact hn) (fun y hy => hx y (List.mem_cons_of_mem _ hy)) h5 u us hu
      have h7 : QK P ro N R qs (putF a.2.1.dst u ((d, v) :: fr)) (fun fr2 => k fr2 (us ++ l)) := h6
      rw [ha] at h7
      exact QK.le (fun fr fr' h h' => hk _ _ _ _ h (.refl _) h') (put_swap (Ne.symm hne) u v fr) h7
def lateOk (ops : Array Oper) (tbl : List (List Nat)) (qs : List PlanOp) (a : PlanOp) (rest : List PlanOp) : List PlanOp → Bool
  | [] => pairsOk ops tbl none rest
  | x :: xs => x.1 != a.1 && pairsOk ops tbl (some (xs.map fun y => (y.1, a.1))) (xs ++ (qs ++ a :: rest)) && pairsOk ops tbl none (x :: xs ++ (qs ++ rest)) && lateOk ops tbl qs a rest xs
theorem swIn_late {a : PlanOp} {rest : List PlanOp} (xs : List AdS) : swIn (some (xs.map fun y => (y.1, a.1))) (xs.map plA ++ rest) = true := by
  show (xs.map fun y => (y.1, a.1)).all _ = true
  rw [List.all_eq_true]
  intro p hp
  obtain ⟨y, hy, rfl⟩ := List.mem_map.1 hp
  rw [List.any_eq_true]
  exact ⟨plA y, List.mem_append_left _ (List.mem_map_of_mem hy), by simp⟩
theorem AddK.snoc {a : AdS} {k : Fr → List Chunk → Prop} : ∀ {xs : List AdS} {fr : Fr} {l : List Chunk}, AddK xs fr l (fun fr' l' => AddK [a] fr' l' k) → AddK (xs ++ [a]) fr l k
  | [], _, _, h => h
  | x :: xs, _, _, h => fun v cs hv => AddK.snoc (h v cs hv)
theorem AddK.none' {fr0 : Fr} {da : Nat} : ∀ {xs : List AdS} {fr : Fr} {l : List Chunk} {k : Fr → List Chunk → Prop}, flook fr da = none → (∀ x, x ∈ xs → ∃ d, x.2.1.dst = some d ∧ d ≠ da) → AddK xs fr l k → AddK xs fr l (fun fr' l' => flook fr' da = none ∧ k fr' l')
  | [], _, _, _, h, _, hk => ⟨h, hk⟩
  | x :: xs, fr, l, k, h, hx, hk => fun v cs hv => by
    obtain ⟨d, hd, hne⟩ := hx x List.mem_cons_self
    exact AddK.none' (fr0 := fr0) (by rw [hd, flook_putF, if_neg hne]; exact h) (fun y hy => hx y (List.mem_cons_of_mem _ hy)) (hk v cs hv)
theorem pl_lateA {sp : Spec} {ds : List Deferred} {rest : List PlanOp} {qs : List (Nat × Oper)} {a : AdS} {fr0 : Fr} {l0 : List Chunk} (hR : ∀ c, c ∈ R → c ∈ l0) (hS : ∀ x, x ∈ sp → ∀ c, c ∈ x.2 → c ∈ l0) (ha : IsAd P ro N fr0 l0 a) {da : Nat} (hda : a.2.1.dst = some da) (hq : ∀ x, x ∈ qs → x.2.dst ≠ some da) (hqf : ∀ x, x ∈ qs → ∀ d, x.2.dst = some d → flook fr0 d = none) : ∀ (xs : List AdS) {fr : Fr} {l : List Chunk}, FLe fr0 fr → flook fr da = none → (∀ c, c ∈ l0 → c ∈ l) → (∀ x, x ∈ xs → IsAd P ro N fr0 l0 x) → ((xs ++ [a]).map fun x => x.2.1.dst).Nodup → lateOk ops tbl (qs.map plQ) (plA a) rest (xs.map plA) = true →
    AddK xs fr l (fun fr1 l1 => QK P ro N R qs fr1 fun fr2 => AddK [a] fr2 l1 (fun fr' l' => PlanS P ro N E ops Q R tbl none sp rest fr' ds l')) → PlanS P ro N E ops Q R tbl (some (xs.map fun x => (x.1, a.1))) sp (xs.map plA ++ (qs.map plQ ++ plA a :: rest)) fr ds l := by
  have hInv : Inv (fun fr' l' => PlanS P ro N E ops Q R tbl none sp rest fr' ds l') := fun fr fr' l l' h1 h2 h => pl_perm h2 (.weak h1 h)
  obtain ⟨da', hda', hba, hfa⟩ := ha.dst
  obtain rfl : da = da' := by rw [hda] at hda'; cases hda'; rfl
  have low : ∀ {fr : Fr} {d : Nat} {v : Value}, FLe fr0 fr → flook fr0 d = none → FLe fr0 (putF (some d) v fr) := fun {fr d v} h1 hd => h1.low hd
  intro xs
  induction xs with
  | nil =>
    intro fr l h1 h0 h2 hx hn hok hk
    refine QK.plan (QK.mono ?_ (QK.low hqf h1 hk))
    · rintro fr2 ⟨hl2, hk2⟩
      have ho := ha.law fr2 l hl2 h2
      refine .alt (fun _ => a.2.1) (fun _ v l2 => ∃ cs, a.2.2 v cs ∧ l2 = cs ++ l) (fun _ => rest) (fun _ => none) (fun j hj => ?_) (fun j hj => ⟨ho, by rw [ha.guard]; rfl, by rw [hda]; exact hba⟩) (fun j hj => ?_) fun j hj => ?_
      · rcases hj with rfl | ⟨h, _⟩
        · exact ⟨.refl _, hok, rfl⟩
        · simp [swOk] at h
      · rintro v l' ⟨cs, _, rfl⟩
        exact ⟨fun c hc => List.mem_append_right _ (h2 _ (hR c hc)), fun y hy _ c hc => List.mem_append_right _ (h2 _ (hS y hy c hc))⟩
      · rintro v l' ⟨cs, hv, rfl⟩; exact hk2 v cs hv
  | cons x xs ih =>
    intro fr l h1 h0 h2 hx hn hok hk
    have hI := hx x List.mem_cons_self
    obtain ⟨d, hd, hb, hfd⟩ := hI.dst
    simp only [List.map_cons, lateOk, Bool.and_eq_true, bne_iff_ne, ne_eq] at hok
    obtain ⟨⟨⟨hne, hp1⟩, hp2⟩, hok⟩ := hok
    have hcand : ∀ j, Cand tbl (some ((x :: xs).map fun x => (x.1, a.1))) x.1 (xs.map plA ++ (qs.map plQ ++ plA a :: rest)) j → j = x.1 ∨ j = a.1 := fun j hj => by
      rcases hj with h | ⟨h, _⟩
      · exact .inl h
      · simp only [swOk, List.contains_iff_mem, List.mem_map, Prod.mk.injEq] at h
        obtain ⟨y, _, _, h⟩ := h
        exact .inr h.symm
    have hna : ∀ y, y ∈ x :: xs → ∃ d, y.2.1.dst = some d ∧ d ≠ da := fun y hy => by
      obtain ⟨d', hd', _⟩ := (hx y hy).dst
      refine ⟨d', hd', fun e => ?_⟩
      rw [List.map_append, List.nodup_append] at hn
      exact hn.2.2 y.2.1.dst (List.mem_map.2 ⟨y, hy, rfl⟩) a.2.1.dst (List.mem_map.2 ⟨a, List.mem_cons_self, rfl⟩) (by rw [hd', hda, e])
    refine .alt (fun k => if k = x.1 then x.2.1 else a.2.1) (fun k v l2 => if k = x.1 then ∃ cs, x.2.2 v cs ∧ l2 = cs ++ l else ∃ cs, a.2.2 v cs ∧ l2 = cs ++ l) (fun k => if k = x.1 then xs.map plA ++ (qs.map plQ ++ plA a :: rest) else (x :: xs).map plA ++ (qs.map plQ ++ rest)) (fun k => if k = x.1 then some (xs.map fun x => (x.1, a.1)) else none) (fun k hk => ?_) (fun k hk => ?_) (fun k hk => ?_) fun k hk => ?_
    all_goals rcases hcand k hk with h | h
    · subst h; simp only [if_true]
      exact ⟨.refl _, by rw [List.map_map] at hp1; exact hp1, swIn_late (a := plA a) xs⟩
    · subst h; simp only [if_neg (Ne.symm hne)]
      refine ⟨?_, hp2, rfl⟩
      show (plA a :: ((x :: xs).map plA ++ (qs.map plQ ++ rest))).Perm ((x :: xs).map plA ++ (qs.map plQ ++ plA a :: rest))
      rw [← List.append_assoc, ← List.append_assoc]
      exact List.perm_middle.symm
    · subst h; simp only [if_true]; exact ⟨hI.law fr l h1 h2, by rw [hI.guard]; rfl, by rw [hd]; exact hb⟩
    · subst h; simp only [if_neg (Ne.symm hne)]; exact ⟨ha.law fr l h1 h2, by rw [ha.guard]; rfl, by rw [hda]; exact hba⟩
    · subst h; simp only [if_true]
      rintro v l' ⟨cs, _, rfl⟩
      exact ⟨fun c hc => List.mem_append_right _ (h2 _ (hR c hc)), fun y hy _ c hc => List.mem_append_right _ (h2 _ (hS y hy c hc))⟩
    · subst h; simp only [if_neg (Ne.symm hne)]
      rintro v l' ⟨cs, _, rfl⟩
      exact ⟨fun c hc => List.mem_append_right _ (h2 _ (hR c hc)), fun y hy _ c hc => List.mem_append_right _ (h2 _ (hS y hy c hc))⟩
    · subst h; simp only [if_true]
      rintro v l' ⟨cs, hv, rfl⟩
      rename_i hk0
      obtain ⟨d', hd', hne'⟩ := hna x List.mem_cons_self
      exact ih (by rw [hd]; exact low h1 hfd) (by rw [hd', flook_putF, if_neg hne']; exact h0) (fun c hc => List.mem_append_right _ (h2 c hc)) (fun y hy => hx y (List.mem_cons_of_mem _ hy)) (List.nodup_cons.1 hn).2 hok (hk0 v cs hv)
    · subst h; simp only [if_neg (Ne.symm hne)]
      rintro v l' ⟨cs, hv, rfl⟩
      rename_i hk0
      rw [List.map_append, List.nodup_append] at hn
      refine pl_seqA (x :: xs) (by rw [hda]; exact low h1 hfa) (fun c hc => List.mem_append_right _ (h2 c hc)) hx hn.1 (fun y hy d hd => by obtain ⟨d', hd', _, h⟩ := (hx y hy).dst; rw [hd] at hd'; cases hd'; exact h) hR hS ?_
      have h8 := AddK.mono (fun fr l h => QK.first hInv hda h.1 hq h.2) (AddK.none' (fr0 := fr0) h0 hna hk0)
      have hInv2 : Inv (fun fr' l' => QK P ro N R qs fr' fun fr2 => PlanS P ro N E ops Q R tbl none sp rest fr2 ds l') := fun fr fr' l l' h1 h2 h => QK.le (fun _ _ h h' => .weak h h') h1 (QK.mono (fun _ h => pl_perm h2 h) h)
      have h9 := AddK.first hInv2 hda hna (AddK.snoc h8) v cs hv
      exact AddK.mono (fun _ _ h => QK.plan h) h9
def AllAd (P : Program) (ro : Option Nat) (N : Nat) (fr : Fr) (l : List Chunk) : List AdS → Prop
  | [] => True
  | x :: xs => IsAd P ro N fr l x ∧ AllAd P ro N fr l xs
theorem AllAd.mem {fr : Fr} {l : List Chunk} : ∀ {xs : List AdS}, AllAd P ro N fr l xs → ∀ x, x ∈ xs → IsAd P ro N fr l x
  | [], _, x, hx => by cases hx
  | y :: ys, h, x, hx => by
    rcases List.mem_cons.1 hx with rfl | hx
    · exact h.1
    · exact AllAd.mem h.2 x hx
def ndB : List (Option Nat) → Bool
  | [] => true
  | x :: xs => !xs.contains x && ndB xs
theorem ndB_spec : ∀ {xs : List (Option Nat)}, ndB xs = true → xs.Nodup
  | [], _ => List.nodup_nil
  | x :: xs, h => by
    simp only [ndB, Bool.and_eq_true, Bool.not_eq_true', List.contains_eq_mem, decide_eq_false_iff_not] at h
    exact List.nodup_cons.2 ⟨h.1, ndB_spec h.2⟩
def lkNone (fr : Fr) : List (Option Nat) → Bool
  | [] => true
  | some d :: r => (flook fr d).isNone && lkNone fr r
  | none :: r => lkNone fr r
theorem lkNone_spec {fr : Fr} : ∀ {xs : List (Option Nat)}, lkNone fr xs = true → ∀ d, some d ∈ xs → flook fr d = none
  | [], _, d, h => by cases h
  | some e :: r, h, d, hd => by
    simp only [lkNone, Bool.and_eq_true, Option.isNone_iff_eq_none] at h
    rcases List.mem_cons.1 hd with h2 | h2
    · cases h2; exact h.1
    · exact lkNone_spec h.2 d h2
  | none :: r, h, d, hd => by
    rcases List.mem_cons.1 hd with h2 | h2
    · cases h2
    · exact lkNone_spec (xs := r) h d h2
theorem pl_late {sp : Spec} {ds : List Deferred} {rest pl : List PlanOp} {L : List (Nat × Nat)} {fr : Fr} {l : List Chunk} (xs : List AdS) (qs : List (Nat × Oper)) (a : AdS) (da : Nat) (hL : xs.map (fun x => (x.1, a.1)) = L) (hpl : xs.map plA ++ (qs.map plQ ++ plA a :: rest) = pl) (hda : a.2.1.dst = some da) (hR : ∀ c, c ∈ R → c ∈ l) (hS : ∀ x, x ∈ sp → ∀ c, c ∈ x.2 → c ∈ l) (hx : AllAd P ro N fr l xs) (ha : IsAd P ro N fr l a) (hn : ndB ((xs ++ [a]).map fun x => x.2.1.dst) = true) (hok : lateOk ops tbl (qs.map plQ) (plA a) rest (xs.map plA) = true)
    (hqd : (qs.all fun x => x.2.dst != some da) = true) (hqf : lkNone fr (some da :: qs.map fun x => x.2.dst) = true)
    (hk : AddK xs fr l (fun fr1 l1 => QK P ro N R qs fr1 fun fr2 => AddK [a] fr2 l1 (fun fr' l' => PlanS P ro N E ops Q R tbl none sp rest fr' ds l'))) : PlanS P ro N E ops Q R tbl (some L) sp pl fr ds l := by
  subst hL hpl
  exact pl_lateA hR hS ha hda (fun x hx => by simpa using List.all_eq_true.1 hqd x hx) (fun x hx d hd => lkNone_spec hqf d (List.mem_cons_of_mem _ (List.mem_map.2 ⟨x, hx, hd⟩))) xs (fun _ _ h => h) (lkNone_spec hqf da List.mem_cons_self) (fun _ h => h) hx.mem (ndB_spec hn) hok hk
variable {fr : Fr} {l : List Chunk} {i d : Nat} {ty : TypeId} {pos : String} {aft : Array Edge} {x : Operand}
theorem ad_call {f : Nat} {xs : List Operand} {vs : List Value} {at_ : Array TypeId} {K : Value → List Chunk → Prop} (hx : ev fr x = some (.func (.func f) #[] #[])) (hy : evs fr xs = some vs) [c : EN P f] (h : ∀ l', (∀ c, c ∈ l → c ∈ l') → Fn P f vs l' fun v l2 => ∃ cs, K v cs ∧ l2 = cs ++ l') (hb : Nat.blt d N = true) (hf : flook fr d = none) : IsAd P ro N fr l (i, ⟨some d, .call { callee := .value x, args := xs.toArray, argTypes := at_ }, ty, pos, aft, none⟩, K) :=
  ⟨fun l' h2 => e_call0 hx hy (h l' h2), rfl, d, rfl, hb, hf⟩
theorem ad_alloc {t : TypeId} {zs : List Value} [c : ZV P t zs] (hb : Nat.blt d N = true) (hf : flook fr d = none) : IsAd P ro N fr l (i, ⟨some d, .alloc t, ty, pos, aft, none⟩, fun v cs => ∃ b, v = .pointer (some ⟨b, 0, none⟩) ∧ cs = [(b, .cells zs.toArray t (0, 0))]) :=
  ⟨fun l' h2 => e_alloc.mono (by rintro v l2 ⟨b, _, h3, h4⟩; exact ⟨_, ⟨b, h3, rfl⟩, h4⟩), rfl, d, rfl, hb, hf⟩
theorem ad_makeSlice {n : Nat} {T e kk yb : Nat} {zs xs : List Value} (hx : ev fr x = some (.int .i64 (n : Nat))) [c : ST P T e kk yb] [cz : ZV P e zs] (hzs : zs.length = kk) (hk : 0 < n * kk) (hn : n ≤ 1000000) (hby : yb ≤ 1000) (hxs : xs = (List.replicate n zs).flatten) (hb : Nat.blt d N = true) (hf : flook fr d = none) :
    IsAd P ro N fr l (i, ⟨some d, .makeSlice T x x, ty, pos, aft, none⟩, fun v cs => ∃ b, v = .slice (some ⟨b, 0, none⟩) n n ∧ cs = [(b, .cells (List.toArray xs) e (0, 0))]) :=
  ⟨fun l' h2 => (e_makeSlice hx hzs hk hn hby hxs).mono (by rintro v l2 ⟨b, _, h3, h4⟩; exact ⟨_, ⟨b, h3, rfl⟩, h4⟩), rfl, d, rfl, hb, hf⟩
end
section
variable {P : Program} {ro : Option Nat} {N : Nat} {E : World} {ops : Array Oper} {Q : Exit → Act → World → Prop} {R : List Chunk} {tbl : List (List Nat)}
def swOf (L : List (Nat × Nat)) : Sw := if L.isEmpty then none else some L
def offL (L : List (Nat × Nat)) (j : Nat) : List (Nat × Nat) := L.filter fun p => p.1 != j && p.2 != j
theorem addK_app {k : Fr → List Chunk → Prop} : ∀ {A B : List AdS} {fr : Fr} {l : List Chunk}, AddK (A ++ B) fr l k ↔ AddK A fr l (fun fr' l' => AddK B fr' l' k)
  | [], _, _, _ => Iff.rfl
  | x :: A, B, fr, l => ⟨fun h v cs hv => addK_app.1 (h v cs hv), fun h v cs hv => addK_app.2 (h v cs hv)⟩
theorem addK_pick {k : Fr → List Chunk → Prop} (hk : Inv k) {A B : List AdS} {y : AdS} {d : Nat} (hd : y.2.1.dst = some d) (hA : ∀ x, x ∈ A → ∃ e, x.2.1.dst = some e ∧ e ≠ d) {fr : Fr} {l : List Chunk} (h : AddK (A ++ y :: B) fr l k) : AddK (y :: (A ++ B)) fr l k := by
  have h2 : AddK (A ++ [y]) fr l (fun fr' l' => AddK B fr' l' k) := by rw [show A ++ y :: B = (A ++ [y]) ++ B by simp] at h; exact addK_app.1 h
  have h3 := AddK.first (k := fun fr' l' => AddK B fr' l' k) (fun fr fr' l l' h1 h2 h => AddK.inv hk h1 h2 h) hd hA h2
  exact fun v cs hv => addK_app.2 (h3 v cs hv)
end
end Go.Proofs.YtcjknmpogkofpaaGreat
