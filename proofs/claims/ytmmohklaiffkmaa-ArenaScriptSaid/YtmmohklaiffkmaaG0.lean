/- What came in, read as data, opened down to its numbers and bools: structs and arrays of any depth, slices of them. -/
import Derived.WalkKit
import Derived.ProofKit
import Derived.OpenShut
import Derived.ChangeOld
import Derived.Below
import Derived.Deep.Slices
set_option linter.unusedVariables false
set_option linter.unusedSimpArgs false
namespace Go.Proofs.Ytmmohklaiffkmaa
open Go.ChangeShapes Go.WideShapes Go.ChangeAt Go.RowKit Go.Deep

/-- a cell holds a number of a kind, or a bool -/
def CellIs : Option IntKind → Value → Prop
  | some k, v => ∃ a : Int, v = .int k a ∧ (Lit.int k a).wf = true
  | none, v => ∃ b : Bool, v = .bool b
def AllIs : List (Option IntKind) → List Value → Prop
  | [], cs => cs = []
  | k :: ks, cs => ∃ c r, cs = c :: r ∧ CellIs k c ∧ AllIs ks r
theorem AllIs.append {a b : List (Option IntKind)} {x y : List Value} (h : AllIs a x) (k : AllIs b y) : AllIs (a ++ b) (x ++ y) := by
  induction a generalizing x with
  | nil => cases h; exact k
  | cons q a ih => obtain ⟨c, r, rfl, h1, h2⟩ := h; exact ⟨c, r ++ y, rfl, h1, ih h2⟩
theorem AllIs.len {a : List (Option IntKind)} {x : List Value} (h : AllIs a x) : x.length = a.length := by
  induction a generalizing x with
  | nil => cases h; rfl
  | cons q a ih => obtain ⟨c, r, rfl, h1, h2⟩ := h; simp [ih h2]

/-- the cells of a type, where it is made of numbers and bools alone -/
def flatK (P : Program) : Nat → TypeId → Option (List (Option IntKind))
  | 0, _ => none
  | n + 1, t =>
    match P.underlying t with
    | some (.int k) => some [some k]
    | some .bool => some [none]
    | some (.struct fs) => fs.toList.foldl (fun acc f => acc.bind fun l => (flatK P n f.type).bind fun ks => if f.offset = l.length ∧ ks.length = P.cellsOf f.type then some (l ++ ks) else none) (some []) |>.bind fun ks => if ks.length = P.cellsOf t then some ks else none
    | some (.array len e) => (flatK P n e).bind fun ks => if ks.length = P.cellsOf e ∧ len * P.cellsOf e = P.cellsOf t then some ((List.replicate len ks).flatten) else none
    | _ => none

theorem foldl_none {α β : Type} (g : List α → β → Option (List α)) (fs : List β) : fs.foldl (fun acc f => acc.bind fun l => g l f) none = none := by
  induction fs with
  | nil => rfl
  | cons f fs ih => simpa using ih

theorem cells_of_cell0 {w : World} {a : Addr} {v : Value} (h : w.cell? a = some v) : a.block < w.heap.size ∧ True := by
  refine ⟨?_, trivial⟩
  unfold World.cell? at h
  split at h
  · rename_i ho; exact (Array.getElem?_eq_some_iff.1 ho).1
  · cases h

section
variable {H : Type} {enc : TypeId × Value → H} {P : Program} {w : World} {base : Nat} {spare : Nat → Bool} {held : Bool}

theorem flat_fields (n m : Nat) (ih : ∀ (t : TypeId) (m : Nat) (cs : List Value) (x : DataW H × List MemPlace) (ks : List (Option IntKind)), DataW.trod enc P w base spare held m t cs = some x → flatK P n t = some ks → AllIs ks cs) (cs : List Value) :
    ∀ (fs : List Field) (l ks : List (Option IntKind)), (∀ f ∈ fs, ∃ x, DataW.trod enc P w base spare held m f.type ((cs.drop f.offset).take (P.cellsOf f.type)) = some x) →
      AllIs l (cs.take l.length) → fs.foldl (fun acc f => acc.bind fun l => (flatK P n f.type).bind fun ks => if f.offset = l.length ∧ ks.length = P.cellsOf f.type then some (l ++ ks) else none) (some l) = some ks → AllIs ks (cs.take ks.length) := by
  intro fs
  induction fs with
  | nil => intro l ks _ hl h; simp at h; subst h; exact hl
  | cons f fs ihf =>
    intro l ks hx hl h
    simp only [List.foldl_cons, Option.bind_some] at h
    cases hk : flatK P n f.type with
    | none => rw [hk] at h; simp only [Option.bind_none] at h; rw [foldl_none] at h; cases h
    | some kf =>
      rw [hk] at h
      simp only [Option.bind_some] at h
      by_cases hc : f.offset = l.length ∧ kf.length = P.cellsOf f.type
      · rw [if_pos hc] at h
        refine ihf _ _ (fun g hg => hx g (List.mem_cons_of_mem _ hg)) ?_ h
        obtain ⟨x, hxf⟩ := hx f List.mem_cons_self
        have := ih f.type m _ x kf hxf hk
        rw [List.length_append, List.take_add, ← hc.1]
        rw [← hc.2] at this
        rw [hc.1] at this ⊢
        exact hl.append this
      · rw [if_neg hc, foldl_none] at h; cases h

theorem flat_rows (n m : Nat) (e : TypeId) (ks : List (Option IntKind)) (ih : ∀ (cs : List Value) (x : DataW H × List MemPlace), DataW.trod enc P w base spare held m e cs = some x → AllIs ks cs) (cs : List Value) (hk : ks.length = P.cellsOf e) :
    ∀ (k : Nat), (∀ i, i < k → ∃ x, DataW.trod enc P w base spare held m e ((cs.drop (i * P.cellsOf e)).take (P.cellsOf e)) = some x) → AllIs ((List.replicate k ks).flatten) (cs.take (k * P.cellsOf e)) := by
  intro k
  induction k with
  | zero => intro _; simp [AllIs]
  | succ k ihk =>
    intro h
    have h1 := ihk (fun i hi => h i (by omega))
    obtain ⟨x, hx⟩ := h k (by omega)
    have h2 := ih _ x hx
    rw [Nat.succ_mul, List.take_add, List.replicate_succ', List.flatten_append]
    simpa using h1.append h2

theorem flat_open : ∀ (n : Nat) (t : TypeId) (m : Nat) (cs : List Value) (x : DataW H × List MemPlace) (ks : List (Option IntKind)), DataW.trod enc P w base spare held m t cs = some x → flatK P n t = some ks → AllIs ks cs := by
  intro n
  induction n with
  | zero => intro t m cs x ks _ h; simp [flatK] at h
  | succ n ih =>
    intro t m cs x ks hx h
    unfold flatK at h
    split at h
    · rename_i k ht
      obtain ⟨a, rfl, _, wa⟩ := DataW.trod_int ht hx
      cases h
      exact ⟨_, _, rfl, ⟨a, rfl, wa⟩, rfl⟩
    · rename_i ht
      obtain ⟨b, rfl, _⟩ := DataW.trod_bool ht hx
      cases h
      exact ⟨_, _, rfl, ⟨b, rfl⟩, rfl⟩
    · rename_i fs ht
      obtain ⟨xs, m', _, _, hl, hlen, hf⟩ := DataW.trod_struct ht hx
      obtain ⟨k0, hk0, hk1⟩ := Option.bind_eq_some_iff.1 h
      by_cases hc : k0.length = P.cellsOf t
      · rw [if_pos hc] at hk1
        cases hk1
        have := flat_fields n m' ih cs fs.toList [] ks (fun f hfm => by
          obtain ⟨i, hi, he⟩ := List.getElem_of_mem hfm
          have h0 := hf i f (by rw [← Array.getElem?_toList]; exact List.getElem?_eq_some_iff.2 ⟨hi, he⟩)
          have hix : i < xs.length := by rw [hlen]; simpa using hi
          exact ⟨xs[i], by rw [h0]; exact List.getElem?_eq_getElem hix⟩) rfl hk0
        rwa [hc, ← hl, List.take_length] at this
      · rw [if_neg hc] at hk1; cases hk1
    · rename_i len e ht
      obtain ⟨xs, m', _, _, hl, hlen, hf⟩ := DataW.trod_array ht hx
      cases hk : flatK P n e with
      | none => rw [hk] at h; cases h
      | some ke =>
        rw [hk] at h
        simp only [Option.bind_some] at h
        by_cases hc : ke.length = P.cellsOf e ∧ len * P.cellsOf e = P.cellsOf t
        · rw [if_pos hc] at h
          cases h
          have := flat_rows n m' e ke (fun cs' x' hx' => ih e m' cs' x' ke hx' hk) cs hc.1 len (fun i hi => by
            have h0 := hf i hi
            have hix : i < xs.length := by omega
            exact ⟨xs[i], by rw [h0]; exact List.getElem?_eq_getElem hix⟩)
          rwa [hc.2, ← hl, List.take_length] at this
        · rw [if_neg hc] at h; cases h
    · cases h

/-- a struct or an array by value -/
theorem open_flat {r : Reach} {b0 : Nat} {t : TypeId} {v : Value} {d : DataW H} {p : List MemPlace} {ks : List (Option IntKind)} (n : Nat)
    (hag : (match P.underlying t with | some (.struct _) | some (.array _ _) => true | _ => false) = true) (hk : flatK P n t = some ks)
    (hv : Value.okWide P w r b0 t v) (h : DataW.Trod enc P w base spare held t v d p) : ∃ cs : List Value, v = .agg cs.toArray ∧ AllIs ks cs := by
  obtain ⟨cs, rfl⟩ : ∃ cs, v = .agg cs := by
    unfold Value.okWide at hv
    split at hv
    · obtain ⟨cs, h1, _⟩ := hv; exact ⟨cs, h1⟩
    · obtain ⟨cs, h1, _⟩ := hv; exact ⟨cs, h1⟩
    · rename_i h1 h2
      split at hag
      · rename_i hu; exact absurd hu (h1 _)
      · rename_i hu; exact absurd hu (h2 _ _)
      · cases hag
  obtain ⟨fuel, hf⟩ := h
  simp only [Value.cells] at hf
  exact ⟨cs.toList, by simp, flat_open n t fuel _ _ ks hf hk⟩

/-- a slice of such: nil, or so many rows of cells -/
structure IsRows (ks : List (Option IntKind)) (w : World) (a : Option Addr) (len cap : Nat) (rows : List (List Value)) : Prop where
  nil : a = none → len = 0 ∧ cap = 0
  le : len ≤ cap
  max : cap ≤ maxLen
  size : rows.length = len
  all : ∀ r ∈ rows, AllIs ks r
  at_ : 0 < len → ∃ b off, a = some ⟨b, off, none⟩ ∧ b < w.heap.size ∧ ∀ i j, i < len → j < ks.length → w.cell? ⟨b, off + i * ks.length + j, none⟩ = (rows[i]?.getD [])[j]?

theorem open_rows {r : Reach} {b0 : Nat} {t e : TypeId} {v : Value} {d : DataW H} {p : List MemPlace} {ks : List (Option IntKind)} (n : Nat)
    (ht : P.underlying t = some (.slice e)) (hk : flatK P n e = some ks) (hkl : ks.length = P.cellsOf e) (hpos : 0 < P.cellsOf e)
    (hv : Value.okWide P w r b0 t v) (h : DataW.Trod enc P w base spare held t v d p) :
    ∃ a len cap rows, v = .slice a len cap ∧ IsRows ks w a len cap rows := by
  obtain ⟨a0, len, cap, rfl⟩ := okWide_slice ht hv
  obtain ⟨fuel, hf⟩ := h
  simp only [Value.cells] at hf
  rcases open_slice ht hf with ⟨hcs, _⟩ | ⟨a, len', cap', m, n', D, Pl, hcs, hb, hl, hm, hmm, _, hel⟩
  · simp at hcs
    obtain ⟨rfl, rfl, rfl⟩ := hcs
    exact ⟨none, 0, 0, [], rfl, ⟨fun _ => ⟨rfl, rfl⟩, Nat.le_refl _, Nat.zero_le _, rfl, by simp, by simp⟩⟩
  · simp at hcs
    obtain ⟨rfl, rfl, rfl⟩ := hcs
    have hlm : len ≤ m := by rw [hmm]; split <;> omega
    have hch : ∀ i, i < len → ∃ cs', w.cells? base (a.add (i * P.cellsOf e)) (P.cellsOf e) = some cs' ∧ AllIs ks cs' := fun i hi => by
      obtain ⟨cs', h1, h2⟩ := hel i (by omega)
      exact ⟨cs', h1, flat_open n e n' cs' _ ks h2 hk⟩
    refine ⟨some a, len, cap, (List.range len).map fun i => (w.cells? base (a.add (i * P.cellsOf e)) (P.cellsOf e)).getD [], rfl, ⟨by simp, hl, hm, by simp, ?_, ?_⟩⟩
    · intro r hr
      obtain ⟨i, hi, rfl⟩ := List.mem_map.1 hr
      obtain ⟨cs', h1, h2⟩ := hch i (by simpa using hi)
      rw [h1]; exact h2
    · intro h0
      obtain ⟨cs0, h1, h2⟩ := hch 0 h0
      obtain ⟨_, hl0, hc0⟩ := World.cells?_some h1
      have hc00 := hc0 0 hpos
      have hlen0 : 0 < cs0.length := by omega
      rw [List.getElem?_eq_getElem hlen0] at hc00
      have hsp := World.cell?_spot hc00
      obtain ⟨b, off, spot⟩ := a
      simp [Addr.add] at hsp
      subst hsp
      refine ⟨b, off, rfl, ?_, fun i j hi hj => ?_⟩
      · have := (cells_of_cell0 hc00).1
        simpa [Addr.add] using this
      · obtain ⟨cs', h1, h2⟩ := hch i hi
        obtain ⟨_, hl1, hc1⟩ := World.cells?_some h1
        have := hc1 j (by omega)
        simp only [List.getElem?_map, List.getElem?_range hi, Option.map_some, Option.getD_some, h1]
        rw [← this, hkl]
        congr 1
        unfold Addr.add
        by_cases hi0 : i * P.cellsOf e = 0
        · rw [if_pos hi0, hi0]
          by_cases hj0 : j = 0
          · rw [if_pos hj0]; simp [hj0]
          · rw [if_neg hj0]; simp
        · rw [if_neg hi0]
          by_cases hj0 : j = 0
          · rw [if_pos hj0]; simp [hj0]
          · rw [if_neg hj0]
end
end Go.Proofs.Ytmmohklaiffkmaa
