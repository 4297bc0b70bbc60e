/- Slices of flat structs told by an encoding; a literal slice of several structs. Laws of my own, no program's. -/
import Derived.Test.YtmmohklaiffkmaaS12
import Derived.Test.YtmmohklaiffkmaaE0
set_option linter.unusedVariables false
set_option linter.unusedSimpArgs false
namespace Go.Proofs.Ytmmohklaiffkmaa
open Go.RowKit

/-- v is a slice whose rows enc x can be read in l -/
def RowSl {α : Type} (l : List Chunk) (v : Value) (k : Nat) (enc : α → List Value) (xs : List α) : Prop :=
  ∃ a cap, v = .slice a xs.length cap ∧ (0 < xs.length → ∃ b off cs t fz, a = some ⟨b, off, none⟩ ∧ (b, Obj.cells cs t fz) ∈ l ∧ ∀ i x, xs[i]? = some x → off + i * k + k ≤ cs.size ∧ cs.extract (off + i * k) (off + i * k + k) = List.toArray (enc x))
theorem flat_row {α : Type} {enc : α → List Value} {k : Nat} (hk : ∀ x, (enc x).length = k) (sp : List Value) : ∀ (xs : List α) (i : Nat) (x : α), xs[i]? = some x → ((xs.flatMap enc ++ sp).drop (i * k)).take k = enc x ∧ i * k + k ≤ (xs.flatMap enc ++ sp).length
  | [], i, x, h => by simp at h
  | y :: xs, 0, x, h => by
    cases h
    rw [List.flatMap_cons, Nat.zero_mul, List.drop_zero, List.append_assoc, List.take_left' (hk y)]
    refine ⟨rfl, ?_⟩
    rw [List.length_append, hk]; omega
  | y :: xs, i + 1, x, h => by
    obtain ⟨h1, h2⟩ := flat_row hk sp xs i x (by simpa using h)
    rw [List.flatMap_cons, List.append_assoc, Nat.succ_mul]
    refine ⟨?_, by rw [List.length_append, hk]; omega⟩
    rw [List.drop_append, List.drop_of_length_le (by rw [hk]; omega), hk, List.nil_append, show i * k + k - k = i * k by omega]
    exact h1
theorem OwnSl.rowSl {α : Type} {e k : Nat} {v : Value} {enc : α → List Value} {xs : List α} {cs l : List Chunk} (h : OwnSl e k v xs.length (xs.flatMap enc) cs) (hk : ∀ x, (enc x).length = k) (hs : ∀ c, c ∈ cs → c ∈ l) : RowSl l v k enc xs := by
  rcases h.2 with ⟨rfl, h0, rfl⟩ | ⟨b, cap, sp, rfl, rfl, _⟩
  · exact ⟨none, 0, by rw [h0], fun h => by omega⟩
  · refine ⟨_, cap, rfl, fun h0 => ⟨b, 0, _, e, (0, 0), rfl, hs _ List.mem_cons_self, fun i x hx => ?_⟩⟩
    obtain ⟨h1, h2⟩ := flat_row hk sp xs i x hx
    refine ⟨by rw [Nat.zero_add]; simpa using h2, ?_⟩
    rw [Nat.zero_add, List.extract_toArray, List.extract_eq_take_drop, Nat.add_sub_cancel_left, h1]
section
variable {P : Program} {ro : Option Nat} {N : Nat} {fr : Fr} {l : List Chunk} {d : Option Nat} {ty : TypeId} {pos : String} {aft : Array Edge} {g : Option (Nat × Bool)}
/-- a slice of several structs -/
theorem e_litNk {T e yb n k : Nat} {zs : List Value} {ps : List (Nat × Operand)} {pvs : List (Nat × Value)} {cs : List Value} (hps : evps fr ps = some pvs) (hk : 0 < n * k) (hn : n * k ≤ 16777216) [c : ST P T e k yb] [cz : ZV P e zs] (hzs : zs.length = k) (hfill : Instr.fill (fun i => some (i * k, k)) (List.toArray (List.replicate n zs).flatten) pvs = some (List.toArray cs)) :
    OpE P ro N fr l ⟨d, .buildSlice T n ps.toArray, ty, pos, aft, g⟩ (fun v' l' => ∃ b, (∀ c, c ∈ l → c.1 ≠ b) ∧ v' = .slice (some ⟨b, 0, none⟩) n n ∧ l' = (b, .cells (List.toArray cs) e (0, 0)) :: l) := opE_of_sl rfl fun ρ hρ => by
  simp only [execOp, sl_bind]
  have e : ps.toArray.map (fun (i, x) => (i, ρ x)) = List.toArray pvs := by rw [← hρ.parts hps]; simp
  rw [e]
  exact sl_buildSlice (cs := cs) c.out cz.out hzs hk hn hfill fun b hb => ⟨b, hb, rfl, rfl⟩
end
end Go.Proofs.Ytmmohklaiffkmaa
