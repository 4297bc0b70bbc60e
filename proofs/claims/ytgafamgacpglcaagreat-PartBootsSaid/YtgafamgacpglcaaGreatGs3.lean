/- Slices that are owned: made, appended to. Laws of my own, no program's. Parts of slices, clear, append in place. Laws of my own, no program's. Maps whose keys are integers: look up, set, delete, range. Empty literals; slices beside nil. Laws of my own, no program's. Laws that the statement's proof leans on. -/
import Derived.Test.YtgafamgacpglcaaGreatGs2
import Derived.Laws.AppendOwn
/- Slices that are owned: made, appended to. Laws of my own, no program's. -/
set_option linter.unusedVariables false
set_option linter.unusedSimpArgs false
namespace Go.Proofs.YtgafamgacpglcaaGreat
open Go.RowKit

/-- v is a slice of n elements of k cells each, xs, and owns the blocks cs -/
def OwnSl (e k : Nat) (v : Value) (n : Nat) (xs : List Value) (cs : List Chunk) : Prop :=
  xs.length = n * k ∧ ((v = .slice none 0 0 ∧ n = 0 ∧ cs = []) ∨ (∃ b cap sp, v = .slice (some ⟨b, 0, none⟩) n cap ∧ cs = [(b, .cells (List.toArray (xs ++ sp)) e (0, 0))] ∧ n ≤ cap ∧ cap ≤ maxLen ∧ (xs ++ sp).length = cap * k))
theorem OwnSl.nil (e k : Nat) : OwnSl e k (.slice none 0 0) 0 [] [] := ⟨by simp, .inl ⟨rfl, rfl, rfl⟩⟩

section
variable {P : Program} {ro : Option Nat} {N : Nat} {fr : Fr} {R l : List Chunk} {K : Value → List Chunk → Prop} {d : Option Nat} {ty : TypeId} {pos : String} {aft : Array Edge} {g : Option (Nat × Bool)} {x y z : Operand} {v u w : Value} {b off : Nat} {t t2 : TypeId}

theorem Sat.row {E W : World} {cs cs' : Array Value} {e : TypeId} {fz : Nat × Nat} {F : List Chunk} (h : Sat E ((b, .cells cs e fz) :: F) W) : Sat E ((b, .cells cs' e fz) :: F) (W.setRow b cs') := by
  refine ⟨h.os, h.tape, h.output, h.nodup, fun c hc => ?_⟩
  rcases List.mem_cons.1 hc with rfl | hc'
  · exact setRow_heap W b cs cs' e fz (h.has _ List.mem_cons_self)
  · have hn := h.nodup
    rw [List.map_cons, List.nodup_cons] at hn
    have hne : c.1 ≠ b := fun e => hn.1 (List.mem_map.2 ⟨c, hc', e⟩)
    rw [setRow_other W b c.1 cs' hne]
    exact h.has c (List.mem_cons_of_mem _ hc')
theorem ce_append {s x : Operand} {T e k yb n m cp : Nat} {xs news zs : List Value} {cs F : List Chunk} {cl : Array Value} {ct : TypeId} {fz : Nat × Nat} (hx : ev fr s = some v) (hy : ev fr x = some (.slice (some ⟨b, off, none⟩) m cp)) [c : ST P T e k yb] [cz : ZV P e zs] (hzs : zs.length = k)
    (hown : OwnSl e k v n xs cs) (hm : (b, Obj.cells cl ct fz) ∈ cs ++ F) (hnews : ∀ j u, news[j]? = some u → cl[off + j]? = some u) (hnl : news.length = m * k) (h1 : ∀ u ∈ news, u.oneCell' = true) (h63 : n + m ≤ maxLen) (hby : (n + m) * yb ≤ 140737488355328) :
    OpE P ro N fr (cs ++ F) ⟨d, .call { callee := .builtin .append, args := #[s, x], argTypes := #[T, T] }, ty, pos, aft, g⟩ (fun v' l' => ∃ cs', OwnSl e k v' (n + m) (xs ++ news) cs' ∧ l' = cs' ++ F) := by
  refine ⟨rfl, fun E a W hf hs => ?_⟩
  have hρ := hf.agrees
  obtain ⟨inf, u1, u2, u3, u4⟩ := stV_spec c.out
  obtain ⟨inf', zv, z1, z2, z3⟩ := zvV_spec cz.out
  rw [u2] at z1
  cases z1
  have hex : execOp a.eval ⟨d, .call { callee := .builtin .append, args := #[s, x], argTypes := #[T, T] }, ty, pos, aft, g⟩ = (do pure (.value (← Builtin.append_ #[T, T] ty #[v, .slice (some ⟨b, off, none⟩) m cp])) : Sem Next) := by
    simp [execOp, resolve, hρ s _ hx, hρ x _ hy, invoke, builtin]
  unfold OpVal
  rw [hex, Sem.run_bind]
  have hnw : ∀ j u, news[j]? = some u → W.cell? ((⟨b, off, none⟩ : Addr).add j) = some u := fun j u hj => by rw [addr_add, hs.cell hm]; exact hnews j u hj
  have hn' : news.length = m * inf.size := by rw [u3]; exact hnl
  have hmx : n + m ≤ 9223372036854775807 := by simp only [maxLen] at h63; omega
  have hlen : (xs ++ news).length = (n + m) * k := by rw [List.length_append, hown.1, hnl, Nat.add_mul]
  -- what a new row holds
  have fresh : ∀ (old : Nat) (W0 : World), Sat E F W0 → W0.heap = W.heap → ∃ cs', OwnSl e k (.slice (some ⟨W.heap.size, 0, none⟩) (n + m) (grownCap W (n + m) old e)) (n + m) (xs ++ news) cs' ∧ Sat E (cs' ++ F) (W0.drew.alloc (.cells (List.toArray (xs ++ news) ++ Builtin.zeroCells zv.cells (grownCap W (n + m) old e - (n + m))) e)) := by
    intro old W0 hs0 hh
    refine ⟨_, ⟨hlen, .inr ⟨W.heap.size, _, (Builtin.zeroCells zv.cells (grownCap W (n + m) old e - (n + m))).toList, rfl, rfl, grownCap_ge _ _ _ _, grownCap_le_maxLen _ _ _ _ h63, ?_⟩⟩, ?_⟩
    · rw [List.length_append, hlen, Array.length_toList, size_zeroCells]
      have hzz : zv.cells.size = k := by rw [← hzs, ← z3]; simp
      rw [hzz, ← Nat.add_mul]
      congr 1
      have := grownCap_ge W (n + m) old e
      omega
    · have h2 := hs0.drew.alloc (.cells (List.toArray (xs ++ news) ++ Builtin.zeroCells zv.cells (grownCap W (n + m) old e - (n + m))) e)
      have e1 : W0.drew.heap.size = W.heap.size := by show W0.heap.size = _; rw [hh]
      rw [e1] at h2
      have e2 : List.toArray (xs ++ news ++ (Builtin.zeroCells zv.cells (grownCap W (n + m) old e - (n + m))).toList) = List.toArray (xs ++ news) ++ Builtin.zeroCells zv.cells (grownCap W (n + m) old e - (n + m)) := by
        apply Array.toList_inj.1; simp
      rw [e2]
      exact h2
  rcases hown.2 with ⟨rfl, rfl, rfl⟩ | ⟨gb, cap, sp, rfl, rfl, hnc, hcm, hcl⟩
  · have hx0 : xs = [] := List.eq_nil_of_length_eq_zero (by simpa using hown.1)
    subst hx0
    by_cases hm0 : m = 0
    · subst hm0
      have hn0 : news = [] := List.eq_nil_of_length_eq_zero (by simpa using hnl)
      subst hn0
      have hr : (Builtin.append_ #[T, T] ty #[.slice none 0 0, .slice (some ⟨b, off, none⟩) 0 cp]).run P W = .ok (.slice none 0 0) W := by
        simp [Builtin.append_, run_underlying u1, sizeOf, typeInfo, u2, Builtin.lenOf, Builtin.firstCells, loadCells, loadCellsFrom]
      rw [hr]
      exact ⟨_, ⟨[], OwnSl.nil e k, rfl⟩, hs⟩
    · have hr := run_append_nil (P := P) W T ty e inf zv u1 u2 z2 ⟨b, off, none⟩ m cp news hn' hnw (by omega) (by omega) (by rw [u4]; simp only [Nat.zero_add] at hby; omega)
      rw [hr]
      obtain ⟨cs', k1, k2⟩ := fresh 0 W hs rfl
      simp only [Nat.zero_add, List.nil_append] at k1 k2
      refine ⟨_, ⟨cs', ?_, rfl⟩, k2⟩
      simpa using k1
  · by_cases hroom : n + m ≤ cap
    · have hg := hs.has (gb, _) (List.mem_append_left _ List.mem_cons_self)
      have hr := run_append_room (P := P) W T ty e inf u1 u2 gb n cap (List.toArray (xs ++ sp)) hg ⟨b, off, none⟩ m cp news hn' hnw h1 hroom (by
        rw [hn', u3, ← Nat.add_mul]
        simp only [List.size_toArray]
        rw [hcl]
        exact Nat.mul_le_mul_right _ hroom)
      rw [hr]
      have e1 : (List.toArray (xs ++ sp)).toList.take (n * inf.size) = xs := by
        rw [u3, ← hown.1]
        show (xs ++ sp).take xs.length = xs
        simp
      rw [e1]
      refine ⟨_, ⟨_, ⟨hlen, .inr ⟨gb, cap, (List.toArray (xs ++ sp)).toList.drop (n * inf.size + news.length), rfl, rfl, hroom, hcm, ?_⟩⟩, rfl⟩, ?_⟩
      · have h3 : (xs ++ sp).length = cap * k := hcl
        have h4 : n * k + news.length ≤ cap * k := by rw [hnl, ← Nat.add_mul]; exact Nat.mul_le_mul_right _ hroom
        rw [List.length_append, hlen, List.length_drop]
        show (n + m) * k + ((xs ++ sp).length - (n * inf.size + news.length)) = cap * k
        rw [h3, u3, hnl, ← Nat.add_mul]
        have := Nat.mul_le_mul_right k hroom
        omega
      · exact hs.row
    · have hs' : Sat E F W := hs.tail
      have hold : ∀ j u, xs[j]? = some u → W.cell? ((⟨gb, 0, none⟩ : Addr).add j) = some u := fun j u hj => by
        rw [addr_add, hs.cell (List.mem_append_left _ List.mem_cons_self), Nat.zero_add]
        have hlt := (List.getElem?_eq_some_iff.1 hj).1
        simp only [List.getElem?_toArray]
        rw [List.getElem?_append_left hlt]
        exact hj
      have hr := run_append_grow (P := P) W T ty e inf zv u1 u2 z2 ⟨gb, 0, none⟩ n cap xs (by rw [u3]; exact hown.1) hold ⟨b, off, none⟩ m cp news hn' hnw (by omega) (by omega) (growslice_fits (by omega) (by rw [u4]; exact hby))
      rw [hr]
      obtain ⟨cs', k1, k2⟩ := fresh cap W hs' rfl
      refine ⟨_, ⟨cs', k1, rfl⟩, ?_⟩
      have e3 : xs.toArray ++ news.toArray = List.toArray (xs ++ news) := by simp
      rw [e3]
      exact k2

theorem sl_buildSlice {T e k yb n : Nat} {ps : List (Nat × Value)} {zs cs : List Value} {Q : Value → List Chunk → Prop} (c : stV P T = some (e, k, yb)) (cz : zvV P e = some zs) (hzs : zs.length = k) (hk : 0 < n * k) (hsm : n * k ≤ 16777216)
    (hfill : Instr.fill (fun i => some (i * k, k)) (List.toArray (List.replicate n zs).flatten) ps = some (List.toArray cs)) (hQ : ∀ b, (∀ c, c ∈ l → c.1 ≠ b) → Q (.slice (some ⟨b, 0, none⟩) n n) ((b, .cells (List.toArray cs) e (0, 0)) :: l)) :
    sl P (Instr.buildSlice T n (List.toArray ps)) l Q := by
  obtain ⟨inf, u1, u2, u3, u4⟩ := stV_spec c
  obtain ⟨inf', zv, z1, z2, z3⟩ := zvV_spec cz
  rw [u2] at z1; cases z1
  unfold Instr.buildSlice
  rw [sl_under u1]
  simp only
  rw [sl_sizeOf u2, u3]
  rw [if_neg (by omega)]
  simp only [show ¬ n * k = 0 by omega, if_false, sl_bind, zeroValue]
  rw [← sl_bind, sl_info u2, z2]
  simp only [sl_pure]
  have hzv : zv.cells = List.toArray zs := by rw [← z3]
  have hcells : (Array.range (n * k)).map (fun j => zv.cells[j % zv.cells.size]!) = List.toArray (List.replicate n zs).flatten := by
    have hk0 : 0 < k := Nat.pos_of_ne_zero fun e => by subst e; simp at hk
    apply Array.toList_inj.1
    apply List.ext_getElem?
    intro j
    rw [hzv]
    have hl : (List.replicate n zs).flatten.length = n * k := by simp [hzs]
    by_cases hj : j < n * k
    · have : (List.replicate n zs).flatten[j]? = zs[j % k]? := by
        clear hfill hQ hl hsm hk
        induction n generalizing j with
        | zero => omega
        | succ n ih =>
          rw [List.replicate_succ, List.flatten_cons]
          by_cases hjk : j < k
          · rw [List.getElem?_append_left (by omega), Nat.mod_eq_of_lt hjk]
          · rw [List.getElem?_append_right (by omega), hzs, ih (j - k) (by have := Nat.succ_mul n k; simp only [Nat.succ_eq_add_one] at this; omega), ← Nat.mod_eq_sub_mod (by omega)]
      simp only [Array.toList_map, Array.toList_range, List.getElem?_map, List.getElem?_range hj, Option.map_some]
      rw [this]
      have hlt : j % k < zs.length := by rw [hzs]; exact Nat.mod_lt _ hk0
      simp [hzs, List.getElem?_eq_getElem hlt, List.getElem!_eq_getElem?_getD]
    · rw [List.getElem?_eq_none (by simp; omega), List.getElem?_eq_none (by rw [hl]; omega)]
  rw [hcells, hfill]
  simp only [newRow, sl_bind]
  intro b hb
  exact hQ b hb
/-- a slice of one element of one cell -/
theorem e_lit1 {T e yb : Nat} {y : Operand} {z0 : Value} (hy : ev fr y = some v) (h1 : v.oneCell' = true) [c : ST P T e 1 yb] [cz : ZV P e [z0]] : OpE P ro N fr l ⟨d, .buildSlice T 1 #[(0, y)], ty, pos, aft, g⟩ (fun v' l' => ∃ b, (∀ c, c ∈ l → c.1 ≠ b) ∧ v' = .slice (some ⟨b, 0, none⟩) 1 1 ∧ l' = (b, .cells (List.toArray [v]) e (0, 0)) :: l) := opE_of_sl rfl fun ρ hρ => by
  simp only [execOp, sl_bind]
  have e : (#[(0, y)] : Array (Nat × Operand)).map (fun (i, x) => (i, ρ x)) = List.toArray [(0, v)] := by simp [hρ y _ hy]
  rw [e]
  refine sl_buildSlice (cs := [v]) c.out cz.out rfl (by omega) (by omega) ?_ fun b hb => ⟨b, hb, rfl, rfl⟩
  simp [Instr.fill, oc1_cells h1]
/-- a slice of one element that is a struct -/
theorem e_litA {T e k yb : Nat} {y : Operand} {zs ws : List Value} (hy : ev fr y = some (.agg (List.toArray ws))) [c : ST P T e k yb] [cz : ZV P e zs] (hz : zs.length = k) (hw : ws.length = k) (hk : 0 < k) (hk2 : k ≤ 16777216) : OpE P ro N fr l ⟨d, .buildSlice T 1 #[(0, y)], ty, pos, aft, g⟩ (fun v' l' => ∃ b, (∀ c, c ∈ l → c.1 ≠ b) ∧ v' = .slice (some ⟨b, 0, none⟩) 1 1 ∧ l' = (b, .cells (List.toArray ws) e (0, 0)) :: l) := opE_of_sl rfl fun ρ hρ => by
  simp only [execOp, sl_bind]
  have e : (#[(0, y)] : Array (Nat × Operand)).map (fun (i, x) => (i, ρ x)) = List.toArray [(0, .agg (List.toArray ws))] := by simp [hρ y _ hy]
  rw [e]
  refine sl_buildSlice (cs := ws) c.out cz.out hz (by omega) (by omega) ?_ fun b hb => ⟨b, hb, rfl, rfl⟩
  unfold Instr.fill
  have e2 : (Value.agg (List.toArray ws)).cells = List.toArray ws := rfl
  simp only [e2]
  rw [if_neg (by simp [hw, hz])]
  rw [array_zip_set]
  unfold Instr.fill
  congr 1
  have key : ∀ (vs pre cs : List Value), vs.length = cs.length → setFrom (List.toArray (pre ++ cs)) pre.length vs = List.toArray (pre ++ vs) := by
    intro vs
    induction vs with
    | nil => intro pre cs h; have : cs = [] := List.eq_nil_of_length_eq_zero (by simpa using h.symm); subst this; rfl
    | cons v vs ih =>
      intro pre cs h
      cases cs with
      | nil => simp at h
      | cons c cs =>
        simp only [setFrom, List.setIfInBounds_toArray]
        rw [List.set_append_right _ _ (Nat.le_refl _)]
        simp only [Nat.sub_self, List.set_cons_zero]
        have := ih (pre ++ [v]) cs (by simpa using h)
        simpa using this
  have := key ws [] zs (by omega)
  simpa using this
end
theorem OwnSl.one {e k n : Nat} {v : Value} {xs : List Value} {cs : List Chunk} (h : OwnSl e k v n xs cs) : v.oneCell' = true := by
  rcases h.2 with ⟨rfl, _⟩ | ⟨b, cap, sp, rfl, _⟩ <;> rfl
theorem Keep.dropL {L l : List Chunk} (cs : List Chunk) (k : Keep L l) : Keep (cs ++ L) l := by
  induction cs with
  | nil => exact k
  | cons c cs ih => exact .drop ih
theorem OwnSl.shape {e k n : Nat} {v : Value} {xs : List Value} {cs : List Chunk} (h : OwnSl e k v n xs cs) : ∃ p cap, v = .slice p n cap := by
  rcases h.2 with ⟨rfl, rfl, _⟩ | ⟨b, cap, sp, rfl, _⟩
  · exact ⟨_, _, rfl⟩
  · exact ⟨_, _, rfl⟩
section
variable {P : Program} {ro : Option Nat} {N : Nat} {E : World} {Q : Exit → Act → World → Prop} {fr : Fr} {ds : List Deferred} {l : List Chunk}
/-- ways that meet again -/
def JoinK (N : Nat) (E : World) {α : Type} (fx : α → Fr) (ds : List Deferred) (lx : α → List Chunk) (pre : α → Prop) (a : Act) (W : World) : Prop :=
  ∃ y, pre y ∧ FSat N (fx y) a ∧ a.defers = ds ∧ Sat E (lx y) W
theorem c_join {α : Type} {c1 c2 : Code} (fx : α → Fr) (lx : α → List Chunk) (pre : α → Prop) (h1 : CodeS P ro N E c1 (Exit.then (JoinK N E fx ds lx pre) Q) fr ds l) (h2 : ∀ x, pre x → CodeS P ro N E c2 Q (fx x) ds (lx x)) : CodeS P ro N E (.seq c1 c2) Q fr ds l :=
  ⟨fun a W hf hds hs => wpIn_seq (wpIn_mono (h1.run a W hf hds hs) fun e a' W' h => by
    cases e with
    | normal => obtain ⟨y, h3, h4, h5, h6⟩ := h; exact (h2 y h3).run a' W' h4 h5 h6
    | _ => exact h)⟩
theorem p_join {α : Type} {fx : α → Fr} {lx : α → List Chunk} {pre : α → Prop} (y : α) (h1 : pre y) (h3 : FSub (fx y) fr) (h4 : Keep l (lx y)) : PostS N E (Exit.then (JoinK N E fx ds lx pre) Q) .normal fr ds l :=
  ⟨fun a W hf hds hs => ⟨y, h1, hf.sub h3.spec, hds, h4.sat hs⟩⟩
end
end Go.Proofs.YtgafamgacpglcaaGreat


/- Parts of slices, clear, append in place. Laws of my own, no program's. -/
set_option linter.unusedVariables false
set_option linter.unusedSimpArgs false
namespace Go.Proofs.YtgafamgacpglcaaGreat
open Go.RowKit

theorem zeroCells_list (zs : List Value) (n : Nat) : (Builtin.zeroCells (List.toArray zs) n).toList = (List.replicate n zs).flatten := by
  apply List.ext_getElem?
  intro j
  unfold Builtin.zeroCells
  have hl : (List.replicate n zs).flatten.length = n * zs.length := by simp
  by_cases hj : j < n * zs.length
  · have hk0 : 0 < zs.length := Nat.pos_of_ne_zero fun e => by rw [e] at hj; simp at hj
    have : (List.replicate n zs).flatten[j]? = zs[j % zs.length]? := by
      clear hl
      induction n generalizing j with
      | zero => omega
      | succ n ih =>
        rw [List.replicate_succ, List.flatten_cons]
        by_cases hjk : j < zs.length
        · rw [List.getElem?_append_left (by omega), Nat.mod_eq_of_lt hjk]
        · rw [List.getElem?_append_right (by omega), ih (j - zs.length) (by have := Nat.succ_mul n zs.length; simp only [Nat.succ_eq_add_one] at this; omega), ← Nat.mod_eq_sub_mod (by omega)]
    simp only [Array.toList_map, Array.toList_range, List.getElem?_map, List.size_toArray, List.getElem?_range hj, Option.map_some]
    rw [this]
    have hlt : j % zs.length < zs.length := Nat.mod_lt _ hk0
    simp [List.getElem?_eq_getElem hlt, List.getElem!_eq_getElem?_getD]
  · rw [List.getElem?_eq_none (by simp; omega), List.getElem?_eq_none (by rw [hl]; omega)]
/-- a bound of a slice expression -/
inductive Bnd (fr : Fr) : Option Operand → Nat → Nat → Prop
  | none {d : Nat} : Bnd fr none d d
  | some {o : Operand} {d r : Nat} {k : IntKind} {i : Int} : ev fr o = some (.int k i) → 0 ≤ i → i.toNat = r → Bnd fr (some o) d r

section
variable {P : Program} {ro : Option Nat} {N : Nat} {fr : Fr} {R l : List Chunk} {K : Value → List Chunk → Prop} {d : Option Nat} {ty : TypeId} {pos : String} {aft : Array Edge} {g : Option (Nat × Bool)} {x y z : Operand} {v u w : Value} {b off : Nat} {t t2 : TypeId}

theorem sl_sliceBound {Q : Nat → List Chunk → Prop} {k : IntKind} {i : Int} {y r : Nat} {code : BoundsCode} (h0 : 0 ≤ i) (hr : i.toNat = r) (hy : r ≤ y) : sl P (Instr.sliceBound (.int k i) y code) l Q ↔ Q r l := by
  unfold Instr.sliceBound
  simp only [asIntOf, sl_bind, sl_pure]
  rw [if_pos ⟨h0, by omega⟩, sl_pure, hr]
theorem sl_sliceBounds {Q : Nat × Nat × Nat → List Chunk → Prop} {ρ : Operand → Value} (hρ : Agrees fr ρ) {lo hi mx : Option Operand} {n cap l0 h0 m0 : Nat} (hl : Bnd fr lo 0 l0) (hh : Bnd fr hi n h0) (hm : Bnd fr mx cap m0) (hno : mx.isSome = true → hi.isSome = true) (h1 : l0 ≤ h0) (h2 : h0 ≤ m0) (h3 : m0 ≤ cap) :
    sl P (Instr.sliceBounds true n cap (lo.map ρ) (hi.map ρ) (mx.map ρ)) l Q ↔ Q (l0, h0, m0) l := by
  unfold Instr.sliceBounds
  cases hm with
  | none =>
    cases hh with
    | none =>
      cases hl with
      | none => simp only [Option.map_none, sl_bind, sl_pure]
      | some e i0 ir =>
        simp only [Option.map_none, Option.map_some, sl_bind, sl_pure, hρ _ _ e]
        rw [sl_sliceBound i0 ir h1]
    | some e i0 ir =>
      cases hl with
      | none =>
        simp only [Option.map_none, Option.map_some, sl_bind, sl_pure, hρ _ _ e]
        rw [sl_sliceBound i0 ir h2]
      | some e' i0' ir' =>
        simp only [Option.map_none, Option.map_some, sl_bind, sl_pure, hρ _ _ e, hρ _ _ e']
        rw [sl_sliceBound i0 ir h2, sl_sliceBound i0' ir' h1]
  | some em m0' mr =>
    cases hh with
    | none => simp at hno
    | some e i0 ir =>
      cases hl with
      | none =>
        simp only [Option.map_none, Option.map_some, sl_bind, sl_pure, hρ _ _ e, hρ _ _ em]
        rw [sl_sliceBound m0' mr h3, sl_sliceBound i0 ir h2]
      | some e' i0' ir' =>
        simp only [Option.map_none, Option.map_some, sl_bind, sl_pure, hρ _ _ e, hρ _ _ e', hρ _ _ em]
        rw [sl_sliceBound m0' mr h3, sl_sliceBound i0 ir h2, sl_sliceBound i0' ir' h1]
theorem q_slice {T e k yb : Nat} {lo hi mx : Option Operand} {n cap l0 h0 m0 off' n' c' : Nat} (hx : ev fr x = some (.slice (some ⟨b, off, none⟩) n cap)) [c : ST P T e k yb] (hl : Bnd fr lo 0 l0) (hh : Bnd fr hi n h0) (hm : Bnd fr mx cap m0) (hno : mx.isSome = true → hi.isSome = true) (h1 : l0 ≤ h0) (h2 : h0 ≤ m0) (h3 : m0 ≤ cap)
    (ho : (if m0 = l0 then off else off + l0 * k) = off') (hn : h0 - l0 = n') (hc : m0 - l0 = c') : OpQ P ro N fr R ⟨d, .slice T x lo hi mx, ty, pos, aft, g⟩ (.slice (some ⟨b, off', none⟩) n' c') := opQ_of_sl rfl fun ρ l hρ _ => by
  obtain ⟨inf, u1, u2, u3, _⟩ := stV_spec c.out
  subst ho hn hc
  simp only [execOp, hρ x _ hx]
  rw [sl_bind]
  unfold Instr.sliceAt
  rw [sl_under u1]
  show sl P (Instr.slice T _ _ _ _) l _
  unfold Instr.slice
  rw [sl_under u1]
  simp only [sl_bind]
  rw [sl_sliceBounds hρ hl hh hm hno h1 h2 h3]
  simp only
  rw [sl_sizeOf' u2]
  simp only [sl_pure, u3]
  refine ⟨?_, trivial⟩
  split <;> simp [addr_add]
theorem e_clear {T e k yb m cp : Nat} {zs : List Value} {cs : Array Value} {ct : TypeId} {l' : List Chunk} (hx : ev fr x = some (.slice (some ⟨b, off, none⟩) m cp)) [c : ST P T e k yb] [cz : ZV P e zs] (hm : 0 < m) (h1 : ∀ v, v ∈ zs → v.oneCell' = true) (hu : Upd l b (.cells cs ct (0, 0)) (.cells (setFrom cs off (List.replicate m zs).flatten) ct (0, 0)) l') (hlt : off + m * zs.length ≤ cs.size) : OpE P ro N fr l ⟨d, .call { callee := .builtin .clear, args := #[x], argTypes := #[T] }, ty, pos, aft, g⟩ (fun v' l2 => v' = .tuple #[] ∧ l2 = l') := opE_of_sl rfl fun ρ hρ => by
  obtain ⟨inf, u1, u2, u3, _⟩ := stV_spec c.out
  obtain ⟨i, zv, z1, z2, z3⟩ := zvV_spec cz.out
  rw [u2] at z1; cases z1
  obtain ⟨m, rfl⟩ : ∃ m', m = m' + 1 := ⟨m - 1, by omega⟩
  simp only [execOp, resolve, sl_bind, sl_pure, invoke, builtin, List.map_toArray, List.map_cons, List.map_nil, hρ x _ hx]
  unfold Builtin.clear_
  simp only [List.getElem?_toArray, List.getElem?_cons_zero, sl_bind]
  rw [sl_under' u1]
  simp only [sl_bind, zeroValue]
  rw [← sl_bind, sl_info u2, z2]
  simp only [sl_pure]
  have hz : zv.cells = List.toArray zs := by rw [← z3]
  have hzz : (Builtin.zeroCells zv.cells (m + 1)).toList = (List.replicate (m + 1) zs).flatten := by rw [hz]; exact zeroCells_list zs (m + 1)
  rw [hzz]
  have := sl_storeCells (P := P) (b := b) (off := off) (f := fun v => (pure (.tuple #[]) : Sem Value)) (Q := fun a l2 => NextK P (fun v' l2 => v' = .tuple #[] ∧ l2 = l') (Next.value a) l2) (List.replicate (m + 1) zs).flatten 0 cs l l' (by
    intro v hv
    rw [List.mem_flatten] at hv
    obtain ⟨r, hr, hv⟩ := hv
    rw [List.eq_of_mem_replicate hr] at hv
    exact h1 v hv) (by simpa using hlt) hu ⟨rfl, rfl⟩
  rw [sl_bind] at this
  exact this
theorem t_eh {ops : Array Oper} {Q : Exit → Act → World → Prop} {rest : List Oper} {ds : List Deferred} {E : World} {o : Oper} {d : Nat} (h : OpE P ro N fr l o K) (hw : gst ops fr o.guard = some true) (hd : o.dst = some d) (hb : Nat.blt d N = true) (hk : ∀ v l', K v l' → OpsS P ro N E ops Q rest ((d, v) :: fr) ds l') : OpsS P ro N E ops Q (o :: rest) fr ds l := by
  rcases gst_some hw with ⟨h1, _⟩ | ⟨j, b, oj, dj, b', h1, h2, h3, h4, h5⟩
  · exact t_e h h1 hd hb hk
  · have : b' = b := by simpa using h5
    subst this
    exact t_ge h h1 h2 h3 h4 hd hb hk
/-- a slice of several elements of one cell each -/
theorem e_litN {T e yb n : Nat} {z0 : Value} {ps : List (Nat × Operand)} {pvs : List (Nat × Value)} {cs : List Value} (hps : evps fr ps = some pvs) (hn0 : 0 < n) (hn : n ≤ 16777216) [c : ST P T e 1 yb] [cz : ZV P e [z0]] (hfill : Instr.fill (fun i => some (i * 1, 1)) (List.toArray (List.replicate n [z0]).flatten) pvs = some (List.toArray cs)) :
    OpE P ro N fr l ⟨d, .buildSlice T n ps.toArray, ty, pos, aft, g⟩ (fun v' l' => ∃ b, (∀ c, c ∈ l → c.1 ≠ b) ∧ v' = .slice (some ⟨b, 0, none⟩) n n ∧ l' = (b, .cells (List.toArray cs) e (0, 0)) :: l) := opE_of_sl rfl fun ρ hρ => by
  simp only [execOp, sl_bind]
  have e : ps.toArray.map (fun (i, x) => (i, ρ x)) = List.toArray pvs := by rw [← hρ.parts hps]; simp
  rw [e]
  exact sl_buildSlice (cs := cs) c.out cz.out rfl (by omega) (by omega) hfill fun b hb => ⟨b, hb, rfl, rfl⟩
/-- a row of numbers as a slice of its own -/
theorem OwnSl.lit {e n : Nat} {b : Nat} {xs : List Value} (h0 : 0 < n) (hl : xs.length = n) (hm : n ≤ 1000000) : OwnSl e 1 (.slice (some ⟨b, 0, none⟩) n n) n xs [(b, .cells (List.toArray xs) e (0, 0))] :=
  ⟨by omega, .inr ⟨b, n, [], rfl, by simp, by omega, by unfold maxLen; omega, by simp [hl]⟩⟩
end
end Go.Proofs.YtgafamgacpglcaaGreat


/- Maps whose keys are integers: look up, set, delete, range. Empty literals; slices beside nil. Laws of my own, no program's. -/
set_option linter.unusedVariables false
set_option linter.unusedSimpArgs false
namespace Go.Proofs.YtgafamgacpglcaaGreat
open Go.RowKit

/-- an entry: key, value, stamp -/
abbrev Ent := Int × Value × Nat
def mkE (k : IntKind) (x : Ent) : MapEntry := { key := .int k x.1, val := x.2.1, born := x.2.2 }
abbrev mapO (k : IntKind) (es : List Ent) (clock : Nat) : Obj := .map (List.toArray (es.map (mkE k))) clock
def zoV (P : Program) (t : Nat) : Option Value := match P.info? t with
  | some i => i.zero
  | none => none
class ZO (P : Program) (t : Nat) (z : outParam Value) : Prop where out : zoV P t = some z
def findE (a : Int) : List Ent → Nat → Option (Nat × Value)
  | [], _ => none
  | e :: es, i => if a = e.1 then some (i, e.2.1) else findE a es (i + 1)
def getE (a : Int) (es : List Ent) : Option Value := (findE a es 0).map Prod.snd
def setE (a : Int) (v : Value) (clock : Nat) (es : List Ent) : List Ent × Nat := match findE a es 0 with
  | some (i, _) => (es.modify i fun x => (x.1, v, x.2.2), clock)
  | none => (es ++ [(a, v, clock)], clock + 1)
def delE (a : Int) (es : List Ent) : List Ent := match findE a es 0 with
  | some (i, _) => es.eraseIdx i
  | none => es
theorem findE_none {a : Int} : ∀ {es : List Ent} {i : Nat}, findE a es i = none ↔ ∀ e ∈ es, e.1 ≠ a
  | [], i => by simp [findE]
  | e :: es, i => by
    unfold findE
    split
    · rename_i h; subst h; simp
    · rename_i h; rw [findE_none]; simp only [List.mem_cons, forall_eq_or_imp]; exact ⟨fun h2 => ⟨fun e' => h e'.symm, h2⟩, fun h2 => h2.2⟩
theorem findE_some {a : Int} : ∀ {es : List Ent} {i k : Nat} {v : Value}, findE a es i = some (k, v) → i ≤ k ∧ ∃ e, es[k - i]? = some e ∧ e.1 = a ∧ e.2.1 = v ∧ ∀ j, j < k - i → ∀ e', es[j]? = some e' → e'.1 ≠ a
  | [], i, k, v, h => by simp [findE] at h
  | e :: es, i, k, v, h => by
    unfold findE at h
    split at h
    · rename_i ha
      cases h
      exact ⟨Nat.le_refl _, e, by simp, ha.symm, rfl, fun j hj => by omega⟩
    · rename_i ha
      obtain ⟨h1, e', h2, h3, h4, h5⟩ := findE_some h
      refine ⟨by omega, e', ?_, h3, h4, fun j hj e2 he2 => ?_⟩
      · rw [show k - i = (k - (i + 1)) + 1 by omega]; simpa using h2
      · cases j with
        | zero => simp only [List.getElem?_cons_zero, Option.some.injEq] at he2; subst he2; exact fun e' => ha e'.symm
        | succ j => exact h5 j (by omega) e2 (by simpa using he2)
theorem findNow_mk (k : IntKind) (a : Int) : ∀ (es : List Ent) (i : Nat), Instr.findNow (.int k) (.int k a) (es.map (mkE k)) i = some (findE a es i)
  | [], i => rfl
  | e :: es, i => by
    rw [List.map_cons]
    unfold Instr.findNow
    simp only [mkE, Instr.sameNow, if_true]
    unfold findE
    by_cases h : a = e.1
    · rw [show (a == e.1) = true by simpa using h, if_pos h]
    · rw [show (a == e.1) = false by simpa using h, if_neg h]
      exact findNow_mk k a es (i + 1)
section
variable {P : Program} {ro : Option Nat} {N : Nat} {fr : Fr} {R l : List Chunk} {d : Option Nat} {ty : TypeId} {pos : String} {aft : Array Edge} {g : Option (Nat × Bool)} {x y z : Operand} {v u w : Value} {b m : Nat} {t t2 T kt et : TypeId} {k : IntKind} {a : Int} {es : List Ent} {clock : Nat}
theorem mtV_spec {T k e : Nat} (h : mtV P T = some (k, e)) : P.underlying T = some (.map k e) := by
  unfold mtV at h; split at h <;> simp_all
theorem itV_spec {t : Nat} {k : IntKind} (h : itV P t = some k) : P.underlying t = some (.int k) := by
  unfold itV at h; split at h <;> simp_all
theorem sl_pure' {α : Type} {Q : α → List Chunk → Prop} (a : α) : sl P (Sem.pure a) l Q ↔ Q a l := Iff.rfl
theorem sl_choose {α : Type} {Q : α → List Chunk → Prop} {f : Nat → Sem α} {q : Question} : sl P (choose q >>= f) l Q ↔ ∀ t, sl P (f (if q.forced = true then 0 else q.cut t)) l Q := Iff.rfl
theorem sl_checkKey {Q : Unit → List Chunk → Prop} {empty : Bool} {n : Nat} (h : itV P kt = some k) : sl P (Instr.checkKey empty (n + 1) kt (.int k a)) l Q ↔ Q () l := by
  unfold Instr.checkKey
  rw [sl_under (itV_spec h)]
  exact Iff.rfl
theorem sl_findKey {Q : Option (Nat × Value) → List Chunk → Prop} (h : itV P kt = some k) : sl P (Instr.findKey kt (.int k a) (es.map (mkE k))) l Q ↔ Q (findE a es 0) l := by
  unfold Instr.findKey
  rw [sl_under (itV_spec h), findNow_mk]
  exact Iff.rfl
theorem sl_zero {Q : Value → List Chunk → Prop} {zv : Value} (h : zoV P et = some zv) : sl P (zeroValue et) l Q ↔ Q zv l := by
  unfold zoV at h
  split at h
  · rename_i i hi
    unfold zeroValue
    rw [sl_info hi, h]
    exact Iff.rfl
  · cases h
theorem q_lookup {zv : Value} (hx : ev fr x = some (.map (some m))) (hy : ev fr y = some (.int k a)) [c : MT P T kt et] [ci : IT P kt k] [cz : ZO P et zv] (hm : (m, mapO k es clock) ∈ R) : OpQ P ro N fr R ⟨d, .lookup T x y false, ty, pos, aft, g⟩ ((getE a es).getD zv) := opQ_of_sl rfl fun ρ l hρ hR => by
  simp only [execOp, hρ x _ hx, hρ y _ hy, sl_bind]
  unfold Instr.lookup
  rw [sl_under (mtV_spec c.out)]
  simp only [sl_bind]
  refine ⟨_, hR _ hm, rfl, ?_⟩
  simp only [sl_pure, sl_pure', sl_bind]
  rw [sl_checkKey ci.out, sl_findKey ci.out]
  unfold getE
  cases h : findE a es 0 with
  | none => simp only [sl_bind]; rw [sl_zero cz.out]; exact ⟨rfl, rfl⟩
  | some p => exact ⟨rfl, rfl⟩
theorem q_lookup2 {zv : Value} (hx : ev fr x = some (.map (some m))) (hy : ev fr y = some (.int k a)) [c : MT P T kt et] [ci : IT P kt k] [cz : ZO P et zv] (hm : (m, mapO k es clock) ∈ R) : OpQ P ro N fr R ⟨d, .lookup T x y true, ty, pos, aft, g⟩ (.tuple #[(getE a es).getD zv, .bool (getE a es).isSome]) := opQ_of_sl rfl fun ρ l hρ hR => by
  simp only [execOp, hρ x _ hx, hρ y _ hy, sl_bind]
  unfold Instr.lookup
  rw [sl_under (mtV_spec c.out)]
  simp only [sl_bind]
  refine ⟨_, hR _ hm, rfl, ?_⟩
  simp only [sl_pure, sl_pure', sl_bind]
  rw [sl_checkKey ci.out, sl_findKey ci.out]
  unfold getE
  cases h : findE a es 0 with
  | none => simp only [sl_bind]; rw [sl_zero cz.out]; exact ⟨rfl, rfl⟩
  | some p => exact ⟨rfl, rfl⟩
theorem e_makeMap : OpE P ro N fr l ⟨d, .makeMap T none, ty, pos, aft, g⟩ (fun v' l' => ∃ b, (∀ c, c ∈ l → c.1 ≠ b) ∧ v' = .map (some b) ∧ l' = (b, .map #[] 0) :: l) := opE_of_sl rfl fun ρ hρ => by
  simp only [execOp, sl_bind]
  unfold Instr.makeMap
  simp only [Option.map_none, sl_bind, sl_pure]
  intro b hb
  exact ⟨b, hb, rfl, rfl⟩
theorem sl_keyStays {Q : Value → List Chunk → Prop} {a : Int} : sl P (Instr.keyThatStays (.int k a) (.int k a)) l Q ↔ Q (.int k a) l := by
  unfold Instr.keyThatStays
  rw [if_pos (by simp [Instr.sameBits])]
  exact Iff.rfl
theorem modify_key (es : List Ent) (i : Nat) (v : Value) (e : Ent) (he : es[i]? = some e) : (List.toArray (es.map (mkE k))).modify i (fun x => { key := .int k e.1, val := v, born := x.born }) = List.toArray ((es.modify i fun x => (x.1, v, x.2.2)).map (mkE k)) := by
  apply Array.toList_inj.1
  rw [Array.toList_modify]
  simp only
  apply List.ext_getElem?
  intro j
  rw [List.getElem?_modify, List.getElem?_map, List.getElem?_map, List.getElem?_modify]
  by_cases h : i = j
  · subst h
    rw [he]; simp [mkE]
  · cases es[j]? <;> simp [h]
theorem e_mapUpdate {l' : List Chunk} (hx : ev fr x = some (.map (some m))) (hy : ev fr y = some (.int k a)) (hz : ev fr z = some v) [c : MT P T kt et] [ci : IT P kt k] (hu : Upd l m (mapO k es clock) (mapO k (setE a v clock es).1 (setE a v clock es).2) l') :
    OpE P ro N fr l ⟨d, .mapUpdate T x y z, ty, pos, aft, g⟩ (fun v' l2 => v' = undef ∧ l2 = l') := opE_of_sl rfl fun ρ hρ => by
  simp only [execOp, hρ x _ hx, hρ y _ hy, hρ z _ hz]
  rw [sl_bind]
  unfold Instr.mapUpdate
  rw [sl_under (mtV_spec c.out)]
  simp only [sl_bind]
  refine ⟨_, hu.mem, rfl, ?_⟩
  simp only [sl_pure, sl_pure', sl_bind]
  rw [sl_checkKey ci.out, sl_findKey ci.out]
  unfold setE at hu
  cases h : findE a es 0 with
  | none =>
    rw [h] at hu
    simp only at hu ⊢
    refine ⟨mapO k es clock, l', ?_, rfl, ⟨rfl, rfl⟩⟩
    have e : (List.toArray (es.map (mkE k))).push { key := .int k a, val := v, born := clock } = List.toArray ((es ++ [(a, v, clock)]).map (mkE k)) := by simp [mkE]
    rw [e]
    exact hu
  | some p =>
    obtain ⟨i, u⟩ := p
    rw [h] at hu
    simp only at hu ⊢
    obtain ⟨_, e, he, h1, _, _⟩ := findE_some h
    rw [Nat.sub_zero] at he
    subst h1
    have hk : (((List.toArray (es.map (mkE k)))[i]?).map (·.key)).getD (.int k e.1) = .int k e.1 := by simp [he, mkE]
    simp only [sl_bind]
    rw [hk, sl_keyStays]
    refine ⟨mapO k es clock, l', ?_, rfl, ⟨rfl, rfl⟩⟩
    rw [modify_key es i v e he]
    exact hu
theorem e_delete {l' : List Chunk} {T2 : TypeId} (hx : ev fr x = some (.map (some m))) (hy : ev fr y = some (.int k a)) [c : MT P T kt et] [ci : IT P kt k] (hu : Upd l m (mapO k es clock) (mapO k (delE a es) clock) l') :
    OpE P ro N fr l ⟨d, .call { callee := .builtin .delete, args := #[x, y], argTypes := #[T, T2] }, ty, pos, aft, g⟩ (fun v' l2 => v' = .tuple #[] ∧ l2 = l') := opE_of_sl rfl fun ρ hρ => by
  simp only [execOp, resolve, sl_bind, sl_pure, invoke, builtin, List.map_toArray, List.map_cons, List.map_nil, hρ x _ hx, hρ y _ hy]
  unfold Builtin.delete_
  simp only [List.getElem?_toArray, List.getElem?_cons_zero, List.getElem?_cons_succ, sl_bind]
  rw [sl_under' (mtV_spec c.out)]
  simp only [sl_bind]
  refine ⟨_, hu.mem, rfl, ?_⟩
  simp only [sl_pure, sl_pure', sl_bind]
  rw [sl_checkKey ci.out, sl_findKey ci.out]
  unfold delE at hu
  cases h : findE a es 0 with
  | none =>
    rw [h] at hu
    exact ⟨mapO k es clock, l', hu, rfl, ⟨rfl, rfl⟩⟩
  | some p =>
    obtain ⟨i, u⟩ := p
    rw [h] at hu
    refine ⟨mapO k es clock, l', ?_, rfl, ⟨rfl, rfl⟩⟩
    have e : (List.toArray (es.map (mkE k))).eraseIdxIfInBounds i = List.toArray ((es.eraseIdx i).map (mkE k)) := by
      apply Array.toList_inj.1
      simp only [List.eraseIdxIfInBounds_toArray]
      rw [List.eraseIdx_eq_take_drop_succ, List.eraseIdx_eq_take_drop_succ, List.map_append, List.map_take, List.map_drop]
    rw [e]
    exact hu
theorem q_len_map {T : TypeId} (hx : ev fr x = some (.map (some m))) [c : MT P T kt et] (hm : (m, mapO k es clock) ∈ R) : OpQ P ro N fr R ⟨d, .call { callee := .builtin .len, args := #[x], argTypes := #[T] }, ty, pos, aft, g⟩ (.int .i64 es.length) := opQ_of_sl rfl fun ρ l hρ hR => by
  simp only [execOp, resolve, sl_bind, sl_pure, invoke, builtin, List.map_toArray, List.map_cons, List.map_nil, hρ x _ hx]
  unfold Builtin.len_
  simp only [List.getElem?_toArray, List.getElem?_cons_zero, sl_bind]
  rw [sl_under' (mtV_spec c.out)]
  simp only [sl_bind]
  refine ⟨_, hR _ hm, rfl, ?_⟩
  simp [goInt, sl_pure, sl_pure']
theorem e_range (hx : ev fr x = some (.map (some m))) [c : MT P T kt et] (hm : (m, mapO k es clock) ∈ l) : OpE P ro N fr l ⟨d, .range T x, ty, pos, aft, g⟩ (fun v' l' => ∃ b, (∀ c, c ∈ l → c.1 ≠ b) ∧ v' = .pointer (some ⟨b, 0, none⟩) ∧ l' = (b, .mapIter (some m) clock #[] clock) :: l) := opE_of_sl rfl fun ρ hρ => by
  simp only [execOp, hρ x _ hx, sl_bind]
  unfold Instr.range
  rw [sl_bind, sl_under' (mtV_spec c.out)]
  simp only [sl_bind]
  refine ⟨_, hm, rfl, ?_⟩
  simp only [sl_pure, sl_pure', sl_bind]
  intro b hb
  exact ⟨b, hb, rfl, rfl⟩
/-- a step through a map that holds nothing new -/
theorem e_next {F : List Chunk} {since last : Nat} {seen : Array Nat} (hx : ev fr x = some (.pointer (some ⟨b, 0, none⟩))) (hm : (m, mapO k es clock) ∈ F) (hold : ∀ e ∈ es, e.2.2 < since) (hsl : since ≤ last) :
    OpE P ro N fr ((b, .mapIter (some m) since seen last) :: F) ⟨d, .next x false, ty, pos, aft, g⟩ (fun v' l' => (v' = .tuple #[.bool false] ∧ l' = (b, .mapIter (some m) since seen last) :: F ∧ ∀ e ∈ es, e.2.2 ∈ seen.toList) ∨
      ∃ e ∈ es, e.2.2 ∉ seen.toList ∧ v' = .tuple #[.bool true, .int k e.1, e.2.1] ∧ l' = (b, .mapIter (some m) since (seen.push e.2.2) clock) :: F) := opE_of_sl rfl fun ρ hρ => by
  simp only [execOp, hρ x _ hx, sl_bind]
  unfold Instr.next
  simp only [sl_bind]
  refine ⟨_, List.mem_cons_self, rfl, ?_⟩
  simp only [sl_pure, sl_pure', sl_bind]
  refine ⟨_, List.mem_cons_of_mem _ hm, rfl, ?_⟩
  simp only [sl_pure, sl_pure', sl_bind]
  have hmem : ∀ y : MapEntry, y ∈ es.map (mkE k) → y.born < since := fun y hy => by
    rw [List.mem_map] at hy
    obtain ⟨e, he, rfl⟩ := hy
    exact hold e he
  have hany : (!seen.isEmpty && !(List.toArray (es.map (mkE k))).isEmpty && (List.toArray (es.map (mkE k))).all (fun e => decide (e.born ≥ last))) = false := by
    cases hes : es with
    | nil => simp
    | cons e0 r =>
      have := hold e0 (by rw [hes]; exact List.mem_cons_self)
      have hlt : ¬ last ≤ e0.2.2 := by omega
      simp [mkE, hlt]
  rw [hany]
  simp only [Bool.false_eq_true, if_false]
  obtain ⟨L, hL⟩ : ∃ L : List Ent, L = es.filter fun e => !seen.contains e.2.2 := ⟨_, rfl⟩
  have eL : (List.toArray (es.map (mkE k))).filter (fun e => !seen.contains e.born) = List.toArray (L.map (mkE k)) := by
    apply Array.toList_inj.1
    rw [Array.toList_filter]
    simp only [hL, List.filter_map]
    congr 1
  have hLm : ∀ y : MapEntry, y ∈ L.map (mkE k) → y.born < since := fun y hy => by
    rw [List.mem_map] at hy
    obtain ⟨e, he, rfl⟩ := hy
    rw [hL] at he
    exact hold e (List.mem_filter.1 he).1
  rw [eL]
  have e1 : (List.toArray (L.map (mkE k))).filter (fun x => decide (x.born < since)) = List.toArray (L.map (mkE k)) := Array.filter_eq_self.2 fun y hy => by simpa using hLm y (by simpa using hy)
  have e2 : (List.toArray (L.map (mkE k))).filter (fun x => decide (x.born ≥ since)) = #[] := by
    rw [Array.filter_eq_empty_iff]
    intro y hy
    have := hLm y (by simpa using hy)
    simp; omega
  simp only [e1, e2, Array.append_empty]
  rw [sl_choose]
  intro tp
  cases hLL : L with
  | nil =>
    have hnil : es.filter (fun e => !seen.contains e.2.2) = [] := by rw [← hL, hLL]
    have hq : (Question.mapNext 1).forced = true := by simp [Question.forced]
    simp [hq]
    refine .inl ⟨rfl, rfl, fun e1 e2 e3 he => ?_⟩
    have := List.filter_eq_nil_iff.1 hnil (e1, e2, e3) he
    simpa using this
  | cons e0 r =>
    have hne : (List.toArray ((e0 :: r).map (mkE k))).isEmpty = false := by simp
    simp only [hne, Bool.false_eq_true, if_false, Array.empty_append, Array.size_map]
    obtain ⟨j, hj, hjlt⟩ : ∃ j, (if (Question.mapNext (List.toArray ((e0 :: r).map (mkE k))).size).forced = true then 0 else (Question.mapNext (List.toArray ((e0 :: r).map (mkE k))).size).cut tp) = j ∧ j < (e0 :: r).length := by
      refine ⟨_, rfl, ?_⟩
      split
      · simp
      · simp only [Question.cut, List.size_toArray, List.length_map]
        exact Nat.mod_lt _ (by simp)
    rw [hj]
    have hget : ((List.toArray ((e0 :: r).map (mkE k))).map some)[j]? = some (some (mkE k (e0 :: r)[j])) := by
      rw [Array.getElem?_map, List.getElem?_toArray, List.getElem?_map, List.getElem?_eq_getElem hjlt]; rfl
    rw [hget]
    have hin : (e0 :: r)[j] ∈ L := by rw [hLL]; exact List.getElem_mem hjlt
    rw [hL] at hin
    obtain ⟨hi1, hi2⟩ := List.mem_filter.1 hin
    refine ⟨.mapIter (some m) since seen last, _, .here, rfl, .inr ⟨_, hi1, by simpa using hi2, rfl, rfl⟩⟩
theorem find_born : ∀ {es : List Ent} {e : Ent}, e ∈ es → (es.map (·.2.2)).Nodup → (es.map (mkE k)).find? (fun x => x.born == e.2.2) = some (mkE k e)
  | [], e, h, _ => by cases h
  | e0 :: es, e, h, hn => by
    rw [List.map_cons, List.nodup_cons] at hn
    rw [List.map_cons, List.find?_cons]
    rcases List.mem_cons.1 h with rfl | h
    · simp [mkE]
    · have hne : ((mkE k e0).born == e.2.2) = false := by
        have : e0.2.2 ≠ e.2.2 := fun h2 => hn.1 (by rw [h2]; exact List.mem_map.2 ⟨e, h, rfl⟩)
        simpa [mkE] using this
      rw [hne]
      exact find_born h hn.2
theorem q_entry {since : Nat} {seen : Array Nat} {e : Ent} (hx : ev fr x = some (.pointer (some ⟨b, 0, none⟩))) (hi : (b, .mapIter (some m) since (seen.push e.2.2) clock) ∈ R) (hm : (m, mapO k es clock) ∈ R) (he : e ∈ es) (hn : (es.map (·.2.2)).Nodup) :
    OpQ P ro N fr R ⟨d, .entry x, ty, pos, aft, g⟩ (.tuple #[.int k e.1, e.2.1]) := opQ_of_sl rfl fun ρ l hρ hR => by
  simp only [execOp, hρ x _ hx, sl_bind]
  unfold Instr.entry
  simp only [sl_bind]
  refine ⟨_, hR _ hi, rfl, ?_⟩
  simp only [sl_pure, sl_pure', Array.back?_push, sl_bind]
  refine ⟨_, hR _ hm, rfl, ?_⟩
  have hf : (List.toArray (es.map (mkE k))).find? (·.born == e.2.2) = some (mkE k e) := by rw [← Array.find?_toList]; exact find_born he hn
  simp only [sl_pure, sl_pure', bne_self_eq_false, Bool.false_eq_true, if_false, hf]
  exact ⟨rfl, trivial⟩
/-! slices beside nil, empty literals, nothing appended -/
theorem q_eqnilsl {p : Option Addr} {n cap e kk yb : Nat} (hx : ev fr x = some (.slice p n cap)) (hy : ev fr y = some (.slice none 0 0)) [c : ST P t e kk yb] : OpQ P ro N fr R ⟨d, .binOp .eql t x y t2, ty, pos, aft, g⟩ (.bool p.isNone) := opQ_of_sl rfl fun ρ l hρ _ => by
  obtain ⟨inf, u1, _⟩ := stV_spec c.out
  simp only [execOp, hρ x _ hx, hρ y _ hy, sl_bind, eqGuard_sl, sl_pure, binOp]
  unfold Op.equal Op.maxDepth Op.equalIn
  rw [sl_under u1]
  cases p <;> exact ⟨rfl, rfl⟩
theorem q_nenilsl {p : Option Addr} {n cap e kk yb : Nat} (hx : ev fr x = some (.slice p n cap)) (hy : ev fr y = some (.slice none 0 0)) [c : ST P t e kk yb] : OpQ P ro N fr R ⟨d, .binOp .neq t x y t2, ty, pos, aft, g⟩ (.bool p.isSome) := opQ_of_sl rfl fun ρ l hρ _ => by
  obtain ⟨inf, u1, _⟩ := stV_spec c.out
  simp only [execOp, hρ x _ hx, hρ y _ hy, sl_bind, eqGuard_sl, sl_pure, binOp]
  unfold Op.equal Op.maxDepth Op.equalIn
  rw [sl_under u1]
  cases p <;> exact ⟨rfl, rfl⟩
end
end Go.Proofs.YtgafamgacpglcaaGreat

