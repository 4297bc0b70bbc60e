/- Parts of slices, clear, append in place. Laws of my own, no program's. -/
import Derived.Test.YtmmohklaiffkmaaS9
set_option linter.unusedVariables false
set_option linter.unusedSimpArgs false
namespace Go.Proofs.Ytmmohklaiffkmaa
open Go.RowKit

theorem zeroCells_list (zs : List Value) (n : Nat) : (Builtin.zeroCells (List.toArray zs) n).toList = (List.replicate n zs).flatten := by
  apply List.ext_getElem?
  intro j
  unfold Builtin.zeroCells
  have hl : (List.replicate n zs).flatten.length = n * zs.length := by simp
  by_cases hj : j < n * zs.length
  · have hk0 : 0 < zs.length := Nat.pos_of_ne_zero fun e => by rw [e] at hj; simp at hj
    have : (List.replicate n zs).flatten[j]? = zs[j % zs.length]? := by
      clear hl
      induction n generalizing j with
      | zero => omega
      | succ n ih =>
        rw [List.replicate_succ, List.flatten_cons]
        by_cases hjk : j < zs.length
        · rw [List.getElem?_append_left (by omega), Nat.mod_eq_of_lt hjk]
        · rw [List.getElem?_append_right (by omega), ih (j - zs.length) (by have := Nat.succ_mul n zs.length; simp only [Nat.succ_eq_add_one] at this; omega), ← Nat.mod_eq_sub_mod (by omega)]
    simp only [Array.toList_map, Array.toList_range, List.getElem?_map, List.size_toArray, List.getElem?_range hj, Option.map_some]
    rw [this]
    have hlt : j % zs.length < zs.length := Nat.mod_lt _ hk0
    simp [List.getElem?_eq_getElem hlt, List.getElem!_eq_getElem?_getD]
  · rw [List.getElem?_eq_none (by simp; omega), List.getElem?_eq_none (by rw [hl]; omega)]
/-- a bound of a slice expression -/
inductive Bnd (fr : Fr) : Option Operand → Nat → Nat → Prop
  | none {d : Nat} : Bnd fr none d d
  | some {o : Operand} {d r : Nat} {k : IntKind} {i : Int} : ev fr o = some (.int k i) → 0 ≤ i → i.toNat = r → Bnd fr (some o) d r

section
variable {P : Program} {ro : Option Nat} {N : Nat} {fr : Fr} {R l : List Chunk} {K : Value → List Chunk → Prop} {d : Option Nat} {ty : TypeId} {pos : String} {aft : Array Edge} {g : Option (Nat × Bool)} {x y z : Operand} {v u w : Value} {b off : Nat} {t t2 : TypeId}

theorem sl_sliceBound {Q : Nat → List Chunk → Prop} {k : IntKind} {i : Int} {y r : Nat} {code : BoundsCode} (h0 : 0 ≤ i) (hr : i.toNat = r) (hy : r ≤ y) : sl P (Instr.sliceBound (.int k i) y code) l Q ↔ Q r l := by
  unfold Instr.sliceBound
  simp only [asIntOf, sl_bind, sl_pure]
  rw [if_pos ⟨h0, by omega⟩, sl_pure, hr]
theorem sl_sliceBounds {Q : Nat × Nat × Nat → List Chunk → Prop} {ρ : Operand → Value} (hρ : Agrees fr ρ) {lo hi mx : Option Operand} {n cap l0 h0 m0 : Nat} (hl : Bnd fr lo 0 l0) (hh : Bnd fr hi n h0) (hm : Bnd fr mx cap m0) (hno : mx.isSome = true → hi.isSome = true) (h1 : l0 ≤ h0) (h2 : h0 ≤ m0) (h3 : m0 ≤ cap) :
    sl P (Instr.sliceBounds true n cap (lo.map ρ) (hi.map ρ) (mx.map ρ)) l Q ↔ Q (l0, h0, m0) l := by
  unfold Instr.sliceBounds
  cases hm with
  | none =>
    cases hh with
    | none =>
      cases hl with
      | none => simp only [Option.map_none, sl_bind, sl_pure]
      | some e i0 ir =>
        simp only [Option.map_none, Option.map_some, sl_bind, sl_pure, hρ _ _ e]
        rw [sl_sliceBound i0 ir h1]
    | some e i0 ir =>
      cases hl with
      | none =>
        simp only [Option.map_none, Option.map_some, sl_bind, sl_pure, hρ _ _ e]
        rw [sl_sliceBound i0 ir h2]
      | some e' i0' ir' =>
        simp only [Option.map_none, Option.map_some, sl_bind, sl_pure, hρ _ _ e, hρ _ _ e']
        rw [sl_sliceBound i0 ir h2, sl_sliceBound i0' ir' h1]
  | some em m0' mr =>
    cases hh with
    | none => simp at hno
    | some e i0 ir =>
      cases hl with
      | none =>
        simp only [Option.map_none, Option.map_some, sl_bind, sl_pure, hρ _ _ e, hρ _ _ em]
        rw [sl_sliceBound m0' mr h3, sl_sliceBound i0 ir h2]
      | some e' i0' ir' =>
        simp only [Option.map_none, Option.map_some, sl_bind, sl_pure, hρ _ _ e, hρ _ _ e', hρ _ _ em]
        rw [sl_sliceBound m0' mr h3, sl_sliceBound i0 ir h2, sl_sliceBound i0' ir' h1]
theorem q_slice {T e k yb : Nat} {lo hi mx : Option Operand} {n cap l0 h0 m0 off' n' c' : Nat} (hx : ev fr x = some (.slice (some ⟨b, off, none⟩) n cap)) [c : ST P T e k yb] (hl : Bnd fr lo 0 l0) (hh : Bnd fr hi n h0) (hm : Bnd fr mx cap m0) (hno : mx.isSome = true → hi.isSome = true) (h1 : l0 ≤ h0) (h2 : h0 ≤ m0) (h3 : m0 ≤ cap)
    (ho : (if m0 = l0 then off else off + l0 * k) = off') (hn : h0 - l0 = n') (hc : m0 - l0 = c') : OpQ P ro N fr R ⟨d, .slice T x lo hi mx, ty, pos, aft, g⟩ (.slice (some ⟨b, off', none⟩) n' c') := opQ_of_sl rfl fun ρ l hρ _ => by
  obtain ⟨inf, u1, u2, u3, _⟩ := stV_spec c.out
  subst ho hn hc
  simp only [execOp, hρ x _ hx]
  rw [sl_bind]
  unfold Instr.sliceAt
  rw [sl_under u1]
  show sl P (Instr.slice T _ _ _ _) l _
  unfold Instr.slice
  rw [sl_under u1]
  simp only [sl_bind]
  rw [sl_sliceBounds hρ hl hh hm hno h1 h2 h3]
  simp only
  rw [sl_sizeOf' u2]
  simp only [sl_pure, u3]
  refine ⟨?_, trivial⟩
  split <;> simp [addr_add]
theorem e_clear {T e k yb m cp : Nat} {zs : List Value} {cs : Array Value} {ct : TypeId} {l' : List Chunk} (hx : ev fr x = some (.slice (some ⟨b, off, none⟩) m cp)) [c : ST P T e k yb] [cz : ZV P e zs] (hm : 0 < m) (h1 : ∀ v, v ∈ zs → v.oneCell' = true) (hu : Upd l b (.cells cs ct (0, 0)) (.cells (setFrom cs off (List.replicate m zs).flatten) ct (0, 0)) l') (hlt : off + m * zs.length ≤ cs.size) : OpE P ro N fr l ⟨d, .call { callee := .builtin .clear, args := #[x], argTypes := #[T] }, ty, pos, aft, g⟩ (fun v' l2 => v' = .tuple #[] ∧ l2 = l') := opE_of_sl rfl fun ρ hρ => by
  obtain ⟨inf, u1, u2, u3, _⟩ := stV_spec c.out
  obtain ⟨i, zv, z1, z2, z3⟩ := zvV_spec cz.out
  rw [u2] at z1; cases z1
  obtain ⟨m, rfl⟩ : ∃ m', m = m' + 1 := ⟨m - 1, by omega⟩
  simp only [execOp, resolve, sl_bind, sl_pure, invoke, builtin, List.map_toArray, List.map_cons, List.map_nil, hρ x _ hx]
  unfold Builtin.clear_
  simp only [List.getElem?_toArray, List.getElem?_cons_zero, sl_bind]
  rw [sl_under' u1]
  simp only [sl_bind, zeroValue]
  rw [← sl_bind, sl_info u2, z2]
  simp only [sl_pure]
  have hz : zv.cells = List.toArray zs := by rw [← z3]
  have hzz : (Builtin.zeroCells zv.cells (m + 1)).toList = (List.replicate (m + 1) zs).flatten := by rw [hz]; exact zeroCells_list zs (m + 1)
  rw [hzz]
  have := sl_storeCells (P := P) (b := b) (off := off) (f := fun v => (pure (.tuple #[]) : Sem Value)) (Q := fun a l2 => NextK P (fun v' l2 => v' = .tuple #[] ∧ l2 = l') (Next.value a) l2) (List.replicate (m + 1) zs).flatten 0 cs l l' (by
    intro v hv
    rw [List.mem_flatten] at hv
    obtain ⟨r, hr, hv⟩ := hv
    rw [List.eq_of_mem_replicate hr] at hv
    exact h1 v hv) (by simpa using hlt) hu ⟨rfl, rfl⟩
  rw [sl_bind] at this
  exact this
theorem e_appendR {s x : Operand} {T e k yb n cap m cp gb : Nat} {news : List Value} {F : List Chunk} {cl cur : Array Value} {ct : TypeId} {fz : Nat × Nat} (hs : ev fr s = some (.slice (some ⟨gb, 0, none⟩) n cap)) (hx : ev fr x = some (.slice (some ⟨b, off, none⟩) m cp)) [c : ST P T e k yb]
    (hm : (b, Obj.cells cl ct fz) ∈ (gb, Obj.cells cur e (0, 0)) :: F) (hnews : ∀ j u, news[j]? = some u → cl[off + j]? = some u) (hnl : news.length = m * k) (h1 : ∀ u ∈ news, u.oneCell' = true) (hroom : n + m ≤ cap) (hfit : n * k + news.length ≤ cur.size) :
    OpE P ro N fr ((gb, .cells cur e (0, 0)) :: F) ⟨d, .call { callee := .builtin .append, args := #[s, x], argTypes := #[T, T] }, ty, pos, aft, g⟩ (fun v' l' => v' = .slice (some ⟨gb, 0, none⟩) (n + m) cap ∧ l' = (gb, .cells (cur.toList.take (n * k) ++ news ++ cur.toList.drop (n * k + news.length)).toArray e (0, 0)) :: F) := by
  refine ⟨rfl, fun E a W hf hs' => ?_⟩
  have hρ := hf.agrees
  obtain ⟨inf, u1, u2, u3, u4⟩ := stV_spec c.out
  have hex : execOp a.eval ⟨d, .call { callee := .builtin .append, args := #[s, x], argTypes := #[T, T] }, ty, pos, aft, g⟩ = (do pure (.value (← Builtin.append_ #[T, T] ty #[.slice (some ⟨gb, 0, none⟩) n cap, .slice (some ⟨b, off, none⟩) m cp])) : Sem Next) := by
    simp [execOp, resolve, hρ s _ hs, hρ x _ hx, invoke, builtin]
  unfold OpVal
  rw [hex, Sem.run_bind]
  have hg := hs'.has (gb, _) List.mem_cons_self
  have hr := run_append_room (P := P) W T ty e inf u1 u2 gb n cap cur hg ⟨b, off, none⟩ m cp news (by rw [u3]; exact hnl) (fun j u hj => by rw [addr_add, hs'.cell hm]; exact hnews j u hj) h1 hroom (by rw [u3]; exact hfit)
  rw [hr]
  rw [u3]
  exact ⟨_, ⟨rfl, rfl⟩, hs'.row⟩
theorem t_eh {ops : Array Oper} {Q : Exit → Act → World → Prop} {rest : List Oper} {ds : List Deferred} {E : World} {o : Oper} {d : Nat} (h : OpE P ro N fr l o K) (hw : gst ops fr o.guard = some true) (hd : o.dst = some d) (hb : Nat.blt d N = true) (hk : ∀ v l', K v l' → OpsS P ro N E ops Q rest ((d, v) :: fr) ds l') : OpsS P ro N E ops Q (o :: rest) fr ds l := by
  rcases gst_some hw with ⟨h1, _⟩ | ⟨j, b, oj, dj, b', h1, h2, h3, h4, h5⟩
  · exact t_e h h1 hd hb hk
  · have : b' = b := by simpa using h5
    subst this
    exact t_ge h h1 h2 h3 h4 hd hb hk
/-- a slice of several elements of one cell each -/
theorem e_litN {T e yb n : Nat} {z0 : Value} {ps : List (Nat × Operand)} {pvs : List (Nat × Value)} {cs : List Value} (hps : evps fr ps = some pvs) (hn0 : 0 < n) (hn : n ≤ 16777216) [c : ST P T e 1 yb] [cz : ZV P e [z0]] (hfill : Instr.fill (fun i => some (i * 1, 1)) (List.toArray (List.replicate n [z0]).flatten) pvs = some (List.toArray cs)) :
    OpE P ro N fr l ⟨d, .buildSlice T n ps.toArray, ty, pos, aft, g⟩ (fun v' l' => ∃ b, (∀ c, c ∈ l → c.1 ≠ b) ∧ v' = .slice (some ⟨b, 0, none⟩) n n ∧ l' = (b, .cells (List.toArray cs) e (0, 0)) :: l) := opE_of_sl rfl fun ρ hρ => by
  simp only [execOp, sl_bind]
  have e : ps.toArray.map (fun (i, x) => (i, ρ x)) = List.toArray pvs := by rw [← hρ.parts hps]; simp
  rw [e]
  exact sl_buildSlice (cs := cs) c.out cz.out rfl (by omega) (by omega) hfill fun b hb => ⟨b, hb, rfl, rfl⟩
/-- a row of numbers as a slice of its own -/
theorem OwnSl.lit {e n : Nat} {b : Nat} {xs : List Value} (h0 : 0 < n) (hl : xs.length = n) (hm : n ≤ 1000000) : OwnSl e 1 (.slice (some ⟨b, 0, none⟩) n n) n xs [(b, .cells (List.toArray xs) e (0, 0))] :=
  ⟨by omega, .inr ⟨b, n, [], rfl, by simp, by omega, by unfold maxLen; omega, by simp [hl]⟩⟩
end
theorem ptr_off {fr : Fr} {x : Operand} {b o o' : Nat} (h : ev fr x = some (.pointer (some ⟨b, o, none⟩))) (e : o = o') : ev fr x = some (.pointer (some ⟨b, o', none⟩)) := by subst e; exact h
end Go.Proofs.Ytmmohklaiffkmaa
