/- Operations, one law each, told of owned blocks. Laws of my own, no program's. -/
import Derived.Test.YtmmohklaiffkmaaS1
set_option linter.unusedVariables false
set_option linter.unusedSimpArgs false
namespace Go.Proofs.Ytmmohklaiffkmaa
open Go.RowKit

/-! what is asked of the program's types -/
def foV (P : Program) (s f : Nat) : Option Nat := match P.underlying s with
  | some (.struct fs) => match fs[f]? with
    | some fd => match P.info? fd.type with
      | some i => if i.size = 0 then none else some fd.offset
      | none => none
    | none => none
  | _ => none
def fvV (P : Program) (s f : Nat) : Option (Nat × Nat) := match P.underlying s with
  | some (.struct fs) => (fs[f]?).map fun fd => (fd.offset, fd.type)
  | _ => none
def atV (P : Program) (t : Nat) : Option (Nat × Nat × Nat) := match P.underlying t with
  | some (.array n e) => (P.info? e).map fun i => (n, e, i.size)
  | _ => none
def stV (P : Program) (t : Nat) : Option (Nat × Nat × Nat) := match P.underlying t with
  | some (.slice e) => (P.info? e).map fun i => (e, i.size, i.bytes)
  | _ => none
def zvV (P : Program) (t : Nat) : Option (List Value) := match P.info? t with
  | some i => match i.zero with
    | some z => some z.cells.toList
    | none => none
  | none => none
def ocV (P : Program) (t : Nat) : Bool := match P.underlying t with
  | some (.struct _) => false
  | some (.array ..) => false
  | some _ => (P.info? t).any fun i => i.size == 1
  | none => false
def agV (P : Program) (t : Nat) : Option Nat := match P.underlying t with
  | some (.struct _) => (P.info? t).map (·.size)
  | some (.array ..) => (P.info? t).map (·.size)
  | _ => none
def itV (P : Program) (t : Nat) : Option IntKind := match P.underlying t with
  | some (.int k) => some k
  | _ => none
def ptV (P : Program) (t : Nat) : Option Nat := match P.underlying t with
  | some (.pointer e) => some e
  | _ => none
def mtV (P : Program) (t : Nat) : Option (Nat × Nat) := match P.underlying t with
  | some (.map k e) => some (k, e)
  | _ => none
class FO (P : Program) (s f : Nat) (k : outParam Nat) : Prop where out : foV P s f = some k
class FV (P : Program) (s f : Nat) (k t : outParam Nat) : Prop where out : fvV P s f = some (k, t)
class AT (P : Program) (t : Nat) (n e z : outParam Nat) : Prop where out : atV P t = some (n, e, z)
class ST (P : Program) (t : Nat) (e z y : outParam Nat) : Prop where out : stV P t = some (e, z, y)
class ZV (P : Program) (t : Nat) (z : outParam (List Value)) : Prop where out : zvV P t = some z
class OC (P : Program) (t : Nat) : Prop where out : ocV P t = true
class AG (P : Program) (t : Nat) (z : outParam Nat) : Prop where out : agV P t = some z
class IT (P : Program) (t : Nat) (k : outParam IntKind) : Prop where out : itV P t = some k
class PT (P : Program) (t : Nat) (e : outParam Nat) : Prop where out : ptV P t = some e
class MT (P : Program) (t : Nat) (k e : outParam Nat) : Prop where out : mtV P t = some (k, e)
/-- a function has a body -/
class EN (P : Program) (f : Nat) : Prop where out : ∀ args w, (callFunc f args).run P w = .ok (.enter f args) w

section
variable {P : Program} {α : Type} {Q : α → List Chunk → Prop} {l : List Chunk}
theorem sl_under {t : Nat} {d : TypeDesc} {f : TypeDesc → Sem α} (h : P.underlying t = some d) : sl P (underlying t >>= f) l Q ↔ sl P (f d) l Q := by
  rw [sl_bind]
  show sl P (match P.underlying t with | some d => pure d | none => stuck "no such type") l _ ↔ _
  rw [h]; rfl
theorem sl_under' {Q : TypeDesc → List Chunk → Prop} {t : Nat} {d : TypeDesc} (h : P.underlying t = some d) : sl P (underlying t) l Q ↔ Q d l := by
  show sl P (match P.underlying t with | some d => pure d | none => stuck "no such type") l _ ↔ _
  rw [h]; rfl
theorem sl_info {t : Nat} {i : TypeInfo} {f : TypeInfo → Sem α} (h : P.info? t = some i) : sl P (typeInfo t >>= f) l Q ↔ sl P (f i) l Q := by
  rw [sl_bind]
  show sl P (match P.info? t with | some i => pure i | none => stuck "no such type") l _ ↔ _
  rw [h]; rfl
theorem sl_sizeOf {t : Nat} {i : TypeInfo} {f : Nat → Sem α} (h : P.info? t = some i) : sl P (sizeOf t >>= f) l Q ↔ sl P (f i.size) l Q := by
  rw [sl_bind]
  show sl P (typeInfo t >>= fun i => pure i.size) l _ ↔ _
  rw [sl_info h]; rfl
theorem sl_sizeOf' {Q : Nat → List Chunk → Prop} {t : Nat} {i : TypeInfo} (h : P.info? t = some i) : sl P (sizeOf t) l Q ↔ Q i.size l := by
  show sl P (typeInfo t >>= fun i => pure i.size) l _ ↔ _
  rw [sl_info h]; rfl
theorem sl_program {f : Program → Sem α} : sl P (program >>= f) l Q ↔ sl P (f P) l Q := Iff.rfl
theorem sl_pureb {β : Type} {a : β} {f : β → Sem α} : sl P ((pure a : Sem β) >>= f) l Q ↔ sl P (f a) l Q := Iff.rfl
def isAggD : TypeDesc → Bool
  | .struct _ => true
  | .array _ _ => true
  | _ => false
theorem sl_isAgg {t : Nat} {d : TypeDesc} {f : Bool → Sem α} (h : P.underlying t = some d) : sl P (isAgg t >>= f) l Q ↔ sl P (f (isAggD d)) l Q := by
  rw [sl_bind]
  show sl P (underlying t >>= fun d => match d with | .struct _ | .array _ _ => pure true | _ => pure false) l _ ↔ _
  rw [sl_under h]
  cases d <;> rfl
end

theorem addr_add (b off n : Nat) : (⟨b, off, none⟩ : Addr).add n = ⟨b, off + n, none⟩ := by
  unfold Addr.add
  split
  · rename_i h; subst h; rfl
  · rfl

section
variable {P : Program} {ro : Option Nat} {N : Nat} {fr : Fr} {R l : List Chunk} {K : Value → List Chunk → Prop} {d : Option Nat} {ty : TypeId} {pos : String} {aft : Array Edge} {g : Option (Nat × Bool)} {x y z : Operand} {v u w : Value} {b off : Nat}

theorem opQ_of_sl {o : Oper} (hd : notDefer o.op = true) (h : ∀ ρ l, Agrees fr ρ → (∀ c, c ∈ R → c ∈ l) → sl P (execOp ρ o) l (fun nx l' => nx = .value v ∧ l' = l)) : OpQ P ro N fr R o v :=
  ⟨fun l hl => opE_of_sl hd fun ρ hρ => sl_mono (fun nx l' ⟨h1, h2⟩ => by rw [h1]; exact ⟨rfl, h2⟩) _ _ (h ρ l hρ hl)⟩

theorem q_move (hx : ev fr x = some v) : OpQ P ro N fr R ⟨d, .move x, ty, pos, aft, g⟩ v := opQ_of_sl rfl fun ρ l hρ _ => ⟨by rw [hρ x v hx], rfl⟩
theorem q_assign (hx : ev fr x = some v) : OpQ P ro N fr R ⟨d, .assign x, ty, pos, aft, g⟩ v := opQ_of_sl rfl fun ρ l hρ _ => ⟨by rw [hρ x v hx], rfl⟩
theorem q_pick_t (hx : ev fr x = some (.bool true)) (hy : ev fr y = some v) : OpQ P ro N fr R ⟨d, .pick x y z, ty, pos, aft, g⟩ v := opQ_of_sl rfl fun ρ l hρ _ => by
  simp only [execOp, hρ x _ hx, asBool]
  exact ⟨by simp [hρ y _ hy], rfl⟩
theorem q_pick_f (hx : ev fr x = some (.bool false)) (hz : ev fr z = some v) : OpQ P ro N fr R ⟨d, .pick x y z, ty, pos, aft, g⟩ v := opQ_of_sl rfl fun ρ l hρ _ => by
  simp only [execOp, hρ x _ hx, asBool]
  exact ⟨by simp [hρ z _ hz], rfl⟩
theorem q_nilCheck {a : Addr} (hx : ev fr x = some (.pointer (some a))) : OpQ P ro N fr R ⟨d, .nilCheck x, ty, pos, aft, g⟩ (.pointer (some a)) := opQ_of_sl rfl fun ρ l hρ _ => by
  simp only [execOp, hρ x _ hx]
  exact ⟨rfl, rfl⟩
theorem q_nilCheck_f {f : Nat} {c1 c2 : Array Value} (hx : ev fr x = some (.func (.func f) c1 c2)) : OpQ P ro N fr R ⟨d, .nilCheck x, ty, pos, aft, g⟩ (.func (.func f) c1 c2) := opQ_of_sl rfl fun ρ l hρ _ => by
  simp only [execOp, hρ x _ hx]
  exact ⟨rfl, rfl⟩
theorem q_nilCheck_y {f : Nat} {c1 c2 : Array Value} (hx : ev fr x = some (.func (.yield f) c1 c2)) : OpQ P ro N fr R ⟨d, .nilCheck x, ty, pos, aft, g⟩ (.func (.yield f) c1 c2) := opQ_of_sl rfl fun ρ l hρ _ => by
  simp only [execOp, hρ x _ hx]
  exact ⟨rfl, rfl⟩
theorem foV_spec {s f k : Nat} (h : foV P s f = some k) : ∃ fs fd i, P.underlying s = some (.struct fs) ∧ fs[f]? = some fd ∧ P.info? fd.type = some i ∧ i.size ≠ 0 ∧ fd.offset = k := by
  unfold foV at h
  split at h
  · rename_i fs hu
    split at h
    · rename_i fd hf
      split at h
      · rename_i i hi
        split at h
        · cases h
        · rename_i hz
          cases h
          exact ⟨fs, fd, i, hu, hf, hi, hz, rfl⟩
      · cases h
    · cases h
  · cases h
theorem q_fieldAddr {s f k off' : Nat} (hx : ev fr x = some (.pointer (some ⟨b, off, none⟩))) [c : FO P s f k] (ho : off + k = off') : OpQ P ro N fr R ⟨d, .fieldAddr s x f, ty, pos, aft, g⟩ (.pointer (some ⟨b, off', none⟩)) := opQ_of_sl rfl fun ρ l hρ _ => by
  subst ho
  obtain ⟨fs, fd, i, h1, h2, h3, h4, h5⟩ := foV_spec c.out
  simp only [execOp, hρ x _ hx, Instr.fieldAt, sl_bind]
  rw [← sl_bind, sl_under h1]
  simp only [h2, sl_bind, sl_pure, Instr.sureAddr, fieldPlace]
  rw [← sl_bind, sl_sizeOf h3]
  simp only [h4, if_false, sl_pure, addr_add, h5]
  exact ⟨trivial, trivial⟩
theorem atV_spec {t n e k : Nat} (h : atV P t = some (n, e, k)) : ∃ i, P.underlying t = some (.array n e) ∧ P.info? e = some i ∧ i.size = k := by
  unfold atV at h
  split at h
  · rename_i hu
    obtain ⟨i, hi, h2⟩ := Option.map_eq_some_iff.1 h
    cases h2
    exact ⟨i, hu, hi, rfl⟩
  · cases h
theorem stV_spec {t e k y : Nat} (h : stV P t = some (e, k, y)) : ∃ i, P.underlying t = some (.slice e) ∧ P.info? e = some i ∧ i.size = k ∧ i.bytes = y := by
  unfold stV at h
  split at h
  · rename_i hu
    obtain ⟨i, hi, h2⟩ := Option.map_eq_some_iff.1 h
    cases h2
    exact ⟨i, hu, hi, rfl, rfl⟩
  · cases h
theorem q_indexArr {t n e k : Nat} {ki : IntKind} {i : Int} (hx : ev fr x = some (.pointer (some ⟨b, off, none⟩))) (hy : ev fr y = some (.int ki i)) [c : AT P t n e k] (hi : 0 ≤ i ∧ i < (n : Int)) :
    OpQ P ro N fr R ⟨d, .indexAddr t x y, ty, pos, aft, g⟩ (.pointer (some ⟨b, off + i.toNat * k, none⟩)) := opQ_of_sl rfl fun ρ l hρ _ => by
  obtain ⟨inf, h1, h2, h3⟩ := atV_spec c.out
  simp only [execOp, hρ x _ hx, hρ y _ hy, Instr.indexAt, sl_bind, asIntOf, sl_pure]
  rw [← sl_bind, sl_under h1]
  simp only [sl_bind, sl_pure, Instr.sureAddr]
  rw [← sl_bind, sl_under h1]
  simp only [if_pos hi, sl_bind, sl_pure]
  rw [sl_sizeOf' h2]
  simp only [addr_add, h3]
  exact ⟨trivial, trivial⟩
theorem q_indexArrN {t n e k m off' : Nat} {ki : IntKind} (hx : ev fr x = some (.pointer (some ⟨b, off, none⟩))) (hy : ev fr y = some (.int ki (m : Nat))) [c : AT P t n e k] (hi : m < n) (ho : off + m * k = off') :
    OpQ P ro N fr R ⟨d, .indexAddr t x y, ty, pos, aft, g⟩ (.pointer (some ⟨b, off', none⟩)) := by
  subst ho
  have := q_indexArr (P := P) (ro := ro) (N := N) (R := R) (d := d) (ty := ty) (pos := pos) (aft := aft) (g := g) (c := c) hx hy ⟨by omega, by omega⟩
  simpa using this
theorem q_indexSl {t e k yb : Nat} {ki : IntKind} {i : Int} {n cap : Nat} (hx : ev fr x = some (.slice (some ⟨b, off, none⟩) n cap)) (hy : ev fr y = some (.int ki i)) [c : ST P t e k yb] (hi : 0 ≤ i ∧ i < (n : Int)) :
    OpQ P ro N fr R ⟨d, .indexAddr t x y, ty, pos, aft, g⟩ (.pointer (some ⟨b, off + i.toNat * k, none⟩)) := opQ_of_sl rfl fun ρ l hρ _ => by
  obtain ⟨inf, h1, h2, h3, _⟩ := stV_spec c.out
  simp only [execOp, hρ x _ hx, hρ y _ hy, Instr.indexAt, sl_bind, asIntOf, sl_pure]
  rw [← sl_bind, sl_under h1]
  simp only [sl_bind, sl_pure]
  rw [← sl_bind, sl_under h1]
  simp only [if_pos hi, sl_bind, sl_pure]
  rw [sl_sizeOf' h2]
  simp only [addr_add, h3]
  exact ⟨trivial, trivial⟩
theorem q_indexSlN {t e k yb m off' : Nat} {ki : IntKind} {n cap : Nat} (hx : ev fr x = some (.slice (some ⟨b, off, none⟩) n cap)) (hy : ev fr y = some (.int ki (m : Nat))) [c : ST P t e k yb] (hi : m < n) (ho : off + m * k = off') :
    OpQ P ro N fr R ⟨d, .indexAddr t x y, ty, pos, aft, g⟩ (.pointer (some ⟨b, off', none⟩)) := by
  subst ho
  have := q_indexSl (P := P) (ro := ro) (N := N) (R := R) (d := d) (ty := ty) (pos := pos) (aft := aft) (g := g) (c := c) hx hy ⟨by omega, by omega⟩
  simpa using this
def lget : List Value → Nat → Option Value
  | [], _ => none
  | x :: _, 0 => some x
  | _ :: r, n + 1 => lget r n
theorem lget_eq (l : List Value) : ∀ i, lget l i = l[i]? := by
  induction l with
  | nil => intro i; cases i <;> rfl
  | cons x r ih => intro i; cases i with
    | zero => rfl
    | succ n => simp only [lget, List.getElem?_cons_succ]; exact ih n
theorem cell_lit {l : List Value} {i : Nat} {v : Value} (h : lget l i = some v) : (List.toArray l)[i]? = some v := by rw [List.getElem?_toArray, ← lget_eq]; exact h
inductive LGet : List Value → Nat → Value → Prop
  | zero {x : Value} {r : List Value} : LGet (x :: r) 0 x
  | succ {x v : Value} {r : List Value} {n : Nat} : LGet r n v → LGet (x :: r) (n + 1) v
theorem LGet.spec {l : List Value} {i : Nat} {v : Value} (h : LGet l i v) : lget l i = some v := by
  induction h with
  | zero => rfl
  | succ _ ih => exact ih
theorem cell_get {l : List Value} {i : Nat} {v : Value} (h : LGet l i v) : (List.toArray l)[i]? = some v := cell_lit h.spec
inductive LSet : List Value → Nat → Value → List Value → Prop
  | zero {x v : Value} {r : List Value} : LSet (x :: r) 0 v (v :: r)
  | succ {x v : Value} {r r' : List Value} {n : Nat} : LSet r n v r' → LSet (x :: r) (n + 1) v (x :: r')
theorem LSet.spec {l l' : List Value} {i : Nat} {v : Value} (h : LSet l i v l') : l.set i v = l' ∧ i < l.length := by
  induction h with
  | zero => simp
  | succ _ ih => simp [ih.1, ih.2]
inductive LSub : List Value → Nat → Nat → List Value → Prop
  | done {l : List Value} : LSub l 0 0 []
  | take {x : Value} {l r : List Value} {n : Nat} : LSub l 0 n r → LSub (x :: l) 0 (n + 1) (x :: r)
  | drop {x : Value} {l r : List Value} {k n : Nat} : LSub l k n r → LSub (x :: l) (k + 1) n r
theorem LSub.spec {l r : List Value} {k n : Nat} (h : LSub l k n r) : (l.drop k).take n = r ∧ k + n ≤ l.length := by
  induction h with
  | done => simp
  | take _ ih => simp only [List.drop_zero] at ih ⊢; simp [ih.1]; omega
  | drop _ ih => simp only [List.drop_succ_cons, List.length_cons]; exact ⟨ih.1, by omega⟩
inductive LSetA : List Value → Nat → List Value → List Value → Prop
  | done {l : List Value} : LSetA l 0 [] l
  | put {x v : Value} {l r vs : List Value} : LSetA l 0 vs r → LSetA (x :: l) 0 (v :: vs) (v :: r)
  | skip {x : Value} {l r vs : List Value} {k : Nat} : LSetA l k vs r → LSetA (x :: l) (k + 1) vs (x :: r)
theorem ocV_spec {t : Nat} (h : ocV P t = true) : ∃ u i, P.underlying t = some u ∧ isAggD u = false ∧ P.info? t = some i ∧ i.size = 1 := by
  unfold ocV at h
  split at h
  · cases h
  · cases h
  · rename_i u hn1 hn2 hu
    cases hi : P.info? t with
    | none => rw [hi] at h; cases h
    | some i =>
      rw [hi] at h
      refine ⟨u, i, hu, ?_, rfl, by simpa using h⟩
      cases u <;> first | rfl | exact (hn1 _ rfl).elim | exact (hn2 _ _ rfl).elim
  · cases h
theorem sl_loadVar1 {α : Type} {Q : α → List Chunk → Prop} {f : Value → Sem α} {t : Nat} {cs : Array Value} {T : TypeId} {fz : Nat × Nat} (hc : ocV P t = true) (hm : (b, Obj.cells cs T fz) ∈ l) (hv : cs[off]? = some v) (h : sl P (f v) l Q) : sl P (loadVar t ⟨b, off, none⟩ >>= f) l Q := by
  obtain ⟨u, i, h1, h2, _, _⟩ := ocV_spec hc
  rw [sl_bind]
  unfold loadVar
  rw [sl_isAgg h1, h2]
  exact ⟨cs, T, fz, v, hm, rfl, hv, h⟩
theorem q_load {t : Nat} {cs : Array Value} {T : TypeId} {fz : Nat × Nat} (hx : ev fr x = some (.pointer (some ⟨b, off, none⟩))) [c : OC P t] (hm : (b, Obj.cells cs T fz) ∈ R) (hv : cs[off]? = some v) : OpQ P ro N fr R ⟨d, .load t x, ty, pos, aft, g⟩ v := opQ_of_sl rfl fun ρ l hρ hR => by
  simp only [execOp, hρ x _ hx, Instr.loadAt, sl_bind, Instr.sureAddr, sl_pure]
  have := sl_loadVar1 (P := P) (f := fun v => (pure v : Sem Value)) (Q := fun a l' => Next.value a = .value v ∧ l' = l) c.out (hR _ hm) hv ⟨rfl, rfl⟩
  rw [sl_bind] at this
  exact this
theorem sl_loadCells {α : Type} {Q : α → List Chunk → Prop} {f : Array Value → Sem α} {cs : Array Value} {T : TypeId} {fz : Nat × Nat} (hm : (b, Obj.cells cs T fz) ∈ l) : ∀ (n i : Nat) (acc : Array Value), off + i + n ≤ cs.size → sl P (f (acc ++ cs.extract (off + i) (off + i + n))) l Q → sl P (loadCellsFrom ⟨b, off, none⟩ i n acc >>= f) l Q
  | 0, i, acc, _, h => by
    have e : cs.extract (off + i) (off + i + 0) = #[] := by simp; omega
    rw [e, Array.append_empty] at h
    exact h
  | n + 1, i, acc, hle, h => by
    unfold loadCellsFrom
    rw [sl_bind, sl_bind]
    show sl P (load ((⟨b, off, none⟩ : Addr).add i)) l _
    rw [addr_add]
    have hlt : off + i < cs.size := by omega
    refine ⟨cs, T, fz, cs[off + i], hm, rfl, Array.getElem?_eq_getElem hlt, ?_⟩
    show sl P (loadCellsFrom ⟨b, off, none⟩ (i + 1) n (acc.push cs[off + i])) l _
    rw [← sl_bind]
    refine sl_loadCells hm n (i + 1) _ (by omega) ?_
    have e : acc.push cs[off + i] ++ cs.extract (off + (i + 1)) (off + (i + 1) + n) = acc ++ cs.extract (off + i) (off + i + (n + 1)) := by
      apply Array.toList_inj.1
      simp only [Array.toList_append, Array.toList_push, Array.toList_extract, List.extract_eq_take_drop, List.append_assoc, List.singleton_append]
      congr 1
      rw [show off + i + (n + 1) - (off + i) = n + 1 by omega, show off + (i + 1) + n - (off + (i + 1)) = n by omega]
      rw [List.drop_eq_getElem_cons (i := off + i) (by simpa using hlt), List.take_succ_cons]
      simp [Nat.add_assoc]
    rw [e]; exact h
theorem agV_spec {t n : Nat} (h : agV P t = some n) : ∃ u i, P.underlying t = some u ∧ isAggD u = true ∧ P.info? t = some i ∧ i.size = n := by
  unfold agV at h
  split at h
  · rename_i hu
    obtain ⟨i, hi, h2⟩ := Option.map_eq_some_iff.1 h
    exact ⟨_, i, hu, rfl, hi, h2⟩
  · rename_i hu
    obtain ⟨i, hi, h2⟩ := Option.map_eq_some_iff.1 h
    exact ⟨_, i, hu, rfl, hi, h2⟩
  · cases h
theorem sl_loadVarA {α : Type} {Q : α → List Chunk → Prop} {f : Value → Sem α} {t n : Nat} {cs : Array Value} {T : TypeId} {fz : Nat × Nat} (hc : agV P t = some n) (hm : (b, Obj.cells cs T fz) ∈ l) (hle : off + n ≤ cs.size) (h : sl P (f (.agg (cs.extract off (off + n)))) l Q) : sl P (loadVar t ⟨b, off, none⟩ >>= f) l Q := by
  obtain ⟨u, i, h1, h2, h3, h4⟩ := agV_spec hc
  rw [sl_bind]
  unfold loadVar
  rw [sl_isAgg h1, h2]
  simp only [if_true]
  rw [sl_sizeOf h3, h4]
  refine sl_loadCells hm n 0 #[] (by omega) ?_
  simp only [Nat.add_zero, Array.empty_append]
  exact h
theorem q_loadA {t n : Nat} {cs : Array Value} {T : TypeId} {fz : Nat × Nat} (hx : ev fr x = some (.pointer (some ⟨b, off, none⟩))) [c : AG P t n] (hm : (b, Obj.cells cs T fz) ∈ R) {wc : Array Value} (hle : off + n ≤ cs.size) (hv : cs.extract off (off + n) = wc) : OpQ P ro N fr R ⟨d, .load t x, ty, pos, aft, g⟩ (.agg wc) := opQ_of_sl rfl fun ρ l hρ hR => by
  subst hv
  simp only [execOp, hρ x _ hx, Instr.loadAt, sl_bind, Instr.sureAddr, sl_pure]
  have := sl_loadVarA (P := P) (f := fun v => (pure v : Sem Value)) (Q := fun a l' => Next.value a = .value (.agg (cs.extract off (off + n))) ∧ l' = l) c.out (hR _ hm) hle ⟨rfl, rfl⟩
  rw [sl_bind] at this
  exact this
theorem q_loadL {t n : Nat} {cs : List Value} {T : TypeId} {fz : Nat × Nat} (hx : ev fr x = some (.pointer (some ⟨b, off, none⟩))) [c : AG P t n] (hm : (b, Obj.cells (List.toArray cs) T fz) ∈ R) {wc : List Value} (hv : LSub cs off n wc) : OpQ P ro N fr R ⟨d, .load t x, ty, pos, aft, g⟩ (.agg (List.toArray wc)) :=
  q_loadA hx hm (by simpa using hv.spec.2) (by
    apply Array.toList_inj.1
    rw [Array.toList_extract, List.extract_eq_take_drop]
    simpa using hv.spec.1)
end
end Go.Proofs.Ytmmohklaiffkmaa
