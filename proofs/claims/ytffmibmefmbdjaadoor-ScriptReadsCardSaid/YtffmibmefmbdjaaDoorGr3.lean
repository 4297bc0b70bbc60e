/- Slices that are owned: made, appended to. Laws of my own, no program's. Parts of slices, clear, append in place. Laws of my own, no program's. Maps whose keys are integers: look up, set, delete, range. Empty literals; slices beside nil. Laws of my own, no program's. Copies of slices; one element appended. Laws of my own, no program's. What came in, read as data, opened down to its numbers and bools: structs and arrays of any depth, slices of them. == of structs and arrays of numbers and bools. Laws of my own, no program's. Pointers compared; maps whose keys are flat structs. Laws of my own, no program's. Laws that the statement's proof leans on. -/
import Derived.Test.YtffmibmefmbdjaaDoorGr2
import Derived.Laws.AppendOwn
import Derived.WalkKit
import Derived.ProofKit
import Derived.OpenShut
import Derived.ChangeOld
import Derived.Below
import Derived.Deep.Slices
import Derived.LaidEqlPtr
/- Slices that are owned: made, appended to. Laws of my own, no program's. -/
set_option linter.unusedVariables false
set_option linter.unusedSimpArgs false
namespace Go.Proofs.YtffmibmefmbdjaaDoor
open Go.RowKit

/-- v is a slice of n elements of k cells each, xs, and owns the blocks cs -/
def OwnSl (e k : Nat) (v : Value) (n : Nat) (xs : List Value) (cs : List Chunk) : Prop :=
  xs.length = n * k ∧ ((v = .slice none 0 0 ∧ n = 0 ∧ cs = []) ∨ (∃ b cap sp, v = .slice (some ⟨b, 0, none⟩) n cap ∧ cs = [(b, .cells (List.toArray (xs ++ sp)) e (0, 0))] ∧ n ≤ cap ∧ cap ≤ maxLen ∧ (xs ++ sp).length = cap * k))
theorem OwnSl.nil (e k : Nat) : OwnSl e k (.slice none 0 0) 0 [] [] := ⟨by simp, .inl ⟨rfl, rfl, rfl⟩⟩

section
variable {P : Program} {ro : Option Nat} {N : Nat} {fr : Fr} {R l : List Chunk} {K : Value → List Chunk → Prop} {d : Option Nat} {ty : TypeId} {pos : String} {aft : Array Edge} {g : Option (Nat × Bool)} {x y z : Operand} {v u w : Value} {b off : Nat} {t t2 : TypeId}

theorem Sat.row {E W : World} {cs cs' : Array Value} {e : TypeId} {fz : Nat × Nat} {F : List Chunk} (h : Sat E ((b, .cells cs e fz) :: F) W) : Sat E ((b, .cells cs' e fz) :: F) (W.setRow b cs') := by
  refine ⟨h.os, h.tape, h.output, h.nodup, fun c hc => ?_⟩
  rcases List.mem_cons.1 hc with rfl | hc'
  · exact setRow_heap W b cs cs' e fz (h.has _ List.mem_cons_self)
  · have hn := h.nodup
    rw [List.map_cons, List.nodup_cons] at hn
    have hne : c.1 ≠ b := fun e => hn.1 (List.mem_map.2 ⟨c, hc', e⟩)
    rw [setRow_other W b c.1 cs' hne]
    exact h.has c (List.mem_cons_of_mem _ hc')
theorem ce_append {s x : Operand} {T e k yb n m cp : Nat} {xs news zs : List Value} {cs F : List Chunk} {cl : Array Value} {ct : TypeId} {fz : Nat × Nat} (hx : ev fr s = some v) (hy : ev fr x = some (.slice (some ⟨b, off, none⟩) m cp)) [c : ST P T e k yb] [cz : ZV P e zs] (hzs : zs.length = k)
    (hown : OwnSl e k v n xs cs) (hm : (b, Obj.cells cl ct fz) ∈ cs ++ F) (hnews : ∀ j u, news[j]? = some u → cl[off + j]? = some u) (hnl : news.length = m * k) (h1 : ∀ u ∈ news, u.oneCell' = true) (h63 : n + m ≤ maxLen) (hby : (n + m) * yb ≤ 140737488355328) :
    OpE P ro N fr (cs ++ F) ⟨d, .call { callee := .builtin .append, args := #[s, x], argTypes := #[T, T] }, ty, pos, aft, g⟩ (fun v' l' => ∃ cs', OwnSl e k v' (n + m) (xs ++ news) cs' ∧ l' = cs' ++ F) := by
  refine ⟨rfl, fun E a W hf hs => ?_⟩
  have hρ := hf.agrees
  obtain ⟨inf, u1, u2, u3, u4⟩ := stV_spec c.out
  obtain ⟨inf', zv, z1, z2, z3⟩ := zvV_spec cz.out
  rw [u2] at z1
  cases z1
  have hex : execOp a.eval ⟨d, .call { callee := .builtin .append, args := #[s, x], argTypes := #[T, T] }, ty, pos, aft, g⟩ = (do pure (.value (← Builtin.append_ #[T, T] ty #[v, .slice (some ⟨b, off, none⟩) m cp])) : Sem Next) := by
    simp [execOp, resolve, hρ s _ hx, hρ x _ hy, invoke, builtin]
  unfold OpVal
  rw [hex, Sem.run_bind]
  have hnw : ∀ j u, news[j]? = some u → W.cell? ((⟨b, off, none⟩ : Addr).add j) = some u := fun j u hj => by rw [addr_add, hs.cell hm]; exact hnews j u hj
  have hn' : news.length = m * inf.size := by rw [u3]; exact hnl
  have hmx : n + m ≤ 9223372036854775807 := by simp only [maxLen] at h63; omega
  have hlen : (xs ++ news).length = (n + m) * k := by rw [List.length_append, hown.1, hnl, Nat.add_mul]
  -- what a new row holds
  have fresh : ∀ (old : Nat) (W0 : World), Sat E F W0 → W0.heap = W.heap → ∃ cs', OwnSl e k (.slice (some ⟨W.heap.size, 0, none⟩) (n + m) (grownCap W (n + m) old e)) (n + m) (xs ++ news) cs' ∧ Sat E (cs' ++ F) (W0.drew.alloc (.cells (List.toArray (xs ++ news) ++ Builtin.zeroCells zv.cells (grownCap W (n + m) old e - (n + m))) e)) := by
    intro old W0 hs0 hh
    refine ⟨_, ⟨hlen, .inr ⟨W.heap.size, _, (Builtin.zeroCells zv.cells (grownCap W (n + m) old e - (n + m))).toList, rfl, rfl, grownCap_ge _ _ _ _, grownCap_le_maxLen _ _ _ _ h63, ?_⟩⟩, ?_⟩
    · rw [List.length_append, hlen, Array.length_toList, size_zeroCells]
      have hzz : zv.cells.size = k := by rw [← hzs, ← z3]; simp
      rw [hzz, ← Nat.add_mul]
      congr 1
      have := grownCap_ge W (n + m) old e
      omega
    · have h2 := hs0.drew.alloc (.cells (List.toArray (xs ++ news) ++ Builtin.zeroCells zv.cells (grownCap W (n + m) old e - (n + m))) e)
      have e1 : W0.drew.heap.size = W.heap.size := by show W0.heap.size = _; rw [hh]
      rw [e1] at h2
      have e2 : List.toArray (xs ++ news ++ (Builtin.zeroCells zv.cells (grownCap W (n + m) old e - (n + m))).toList) = List.toArray (xs ++ news) ++ Builtin.zeroCells zv.cells (grownCap W (n + m) old e - (n + m)) := by
        apply Array.toList_inj.1; simp
      rw [e2]
      exact h2
  rcases hown.2 with ⟨rfl, rfl, rfl⟩ | ⟨gb, cap, sp, rfl, rfl, hnc, hcm, hcl⟩
  · have hx0 : xs = [] := List.eq_nil_of_length_eq_zero (by simpa using hown.1)
    subst hx0
    by_cases hm0 : m = 0
    · subst hm0
      have hn0 : news = [] := List.eq_nil_of_length_eq_zero (by simpa using hnl)
      subst hn0
      have hr : (Builtin.append_ #[T, T] ty #[.slice none 0 0, .slice (some ⟨b, off, none⟩) 0 cp]).run P W = .ok (.slice none 0 0) W := by
        simp [Builtin.append_, run_underlying u1, sizeOf, typeInfo, u2, Builtin.lenOf, Builtin.firstCells, loadCells, loadCellsFrom]
      rw [hr]
      exact ⟨_, ⟨[], OwnSl.nil e k, rfl⟩, hs⟩
    · have hr := run_append_nil (P := P) W T ty e inf zv u1 u2 z2 ⟨b, off, none⟩ m cp news hn' hnw (by omega) (by omega) (by rw [u4]; simp only [Nat.zero_add] at hby; omega)
      rw [hr]
      obtain ⟨cs', k1, k2⟩ := fresh 0 W hs rfl
      simp only [Nat.zero_add, List.nil_append] at k1 k2
      refine ⟨_, ⟨cs', ?_, rfl⟩, k2⟩
      simpa using k1
  · by_cases hroom : n + m ≤ cap
    · have hg := hs.has (gb, _) (List.mem_append_left _ List.mem_cons_self)
      have hr := run_append_room (P := P) W T ty e inf u1 u2 gb n cap (List.toArray (xs ++ sp)) hg ⟨b, off, none⟩ m cp news hn' hnw h1 hroom (by
        rw [hn', u3, ← Nat.add_mul]
        simp only [List.size_toArray]
        rw [hcl]
        exact Nat.mul_le_mul_right _ hroom)
      rw [hr]
      have e1 : (List.toArray (xs ++ sp)).toList.take (n * inf.size) = xs := by
        rw [u3, ← hown.1]
        show (xs ++ sp).take xs.length = xs
        simp
      rw [e1]
      refine ⟨_, ⟨_, ⟨hlen, .inr ⟨gb, cap, (List.toArray (xs ++ sp)).toList.drop (n * inf.size + news.length), rfl, rfl, hroom, hcm, ?_⟩⟩, rfl⟩, ?_⟩
      · have h3 : (xs ++ sp).length = cap * k := hcl
        have h4 : n * k + news.length ≤ cap * k := by rw [hnl, ← Nat.add_mul]; exact Nat.mul_le_mul_right _ hroom
        rw [List.length_append, hlen, List.length_drop]
        show (n + m) * k + ((xs ++ sp).length - (n * inf.size + news.length)) = cap * k
        rw [h3, u3, hnl, ← Nat.add_mul]
        have := Nat.mul_le_mul_right k hroom
        omega
      · exact hs.row
    · have hs' : Sat E F W := hs.tail
      have hold : ∀ j u, xs[j]? = some u → W.cell? ((⟨gb, 0, none⟩ : Addr).add j) = some u := fun j u hj => by
        rw [addr_add, hs.cell (List.mem_append_left _ List.mem_cons_self), Nat.zero_add]
        have hlt := (List.getElem?_eq_some_iff.1 hj).1
        simp only [List.getElem?_toArray]
        rw [List.getElem?_append_left hlt]
        exact hj
      have hr := run_append_grow (P := P) W T ty e inf zv u1 u2 z2 ⟨gb, 0, none⟩ n cap xs (by rw [u3]; exact hown.1) hold ⟨b, off, none⟩ m cp news hn' hnw (by omega) (by omega) (growslice_fits (by omega) (by rw [u4]; exact hby))
      rw [hr]
      obtain ⟨cs', k1, k2⟩ := fresh cap W hs' rfl
      refine ⟨_, ⟨cs', k1, rfl⟩, ?_⟩
      have e3 : xs.toArray ++ news.toArray = List.toArray (xs ++ news) := by simp
      rw [e3]
      exact k2

theorem sl_buildSlice {T e k yb n : Nat} {ps : List (Nat × Value)} {zs cs : List Value} {Q : Value → List Chunk → Prop} (c : stV P T = some (e, k, yb)) (cz : zvV P e = some zs) (hzs : zs.length = k) (hk : 0 < n * k) (hsm : n * k ≤ 16777216)
    (hfill : Instr.fill (fun i => some (i * k, k)) (List.toArray (List.replicate n zs).flatten) ps = some (List.toArray cs)) (hQ : ∀ b, (∀ c, c ∈ l → c.1 ≠ b) → Q (.slice (some ⟨b, 0, none⟩) n n) ((b, .cells (List.toArray cs) e (0, 0)) :: l)) :
    sl P (Instr.buildSlice T n (List.toArray ps)) l Q := by
  obtain ⟨inf, u1, u2, u3, u4⟩ := stV_spec c
  obtain ⟨inf', zv, z1, z2, z3⟩ := zvV_spec cz
  rw [u2] at z1; cases z1
  unfold Instr.buildSlice
  rw [sl_under u1]
  simp only
  rw [sl_sizeOf u2, u3]
  rw [if_neg (by omega)]
  simp only [show ¬ n * k = 0 by omega, if_false, sl_bind, zeroValue]
  rw [← sl_bind, sl_info u2, z2]
  simp only [sl_pure]
  have hzv : zv.cells = List.toArray zs := by rw [← z3]
  have hcells : (Array.range (n * k)).map (fun j => zv.cells[j % zv.cells.size]!) = List.toArray (List.replicate n zs).flatten := by
    have hk0 : 0 < k := Nat.pos_of_ne_zero fun e => by subst e; simp at hk
    apply Array.toList_inj.1
    apply List.ext_getElem?
    intro j
    rw [hzv]
    have hl : (List.replicate n zs).flatten.length = n * k := by simp [hzs]
    by_cases hj : j < n * k
    · have : (List.replicate n zs).flatten[j]? = zs[j % k]? := by
        clear hfill hQ hl hsm hk
        induction n generalizing j with
        | zero => omega
        | succ n ih =>
          rw [List.replicate_succ, List.flatten_cons]
          by_cases hjk : j < k
          · rw [List.getElem?_append_left (by omega), Nat.mod_eq_of_lt hjk]
          · rw [List.getElem?_append_right (by omega), hzs, ih (j - k) (by have := Nat.succ_mul n k; simp only [Nat.succ_eq_add_one] at this; omega), ← Nat.mod_eq_sub_mod (by omega)]
      simp only [Array.toList_map, Array.toList_range, List.getElem?_map, List.getElem?_range hj, Option.map_some]
      rw [this]
      have hlt : j % k < zs.length := by rw [hzs]; exact Nat.mod_lt _ hk0
      simp [hzs, List.getElem?_eq_getElem hlt, List.getElem!_eq_getElem?_getD]
    · rw [List.getElem?_eq_none (by simp; omega), List.getElem?_eq_none (by rw [hl]; omega)]
  rw [hcells, hfill]
  simp only [newRow, sl_bind]
  intro b hb
  exact hQ b hb
/-- a slice of one element of one cell -/
theorem e_lit1 {T e yb : Nat} {y : Operand} {z0 : Value} (hy : ev fr y = some v) (h1 : v.oneCell' = true) [c : ST P T e 1 yb] [cz : ZV P e [z0]] : OpE P ro N fr l ⟨d, .buildSlice T 1 #[(0, y)], ty, pos, aft, g⟩ (fun v' l' => ∃ b, (∀ c, c ∈ l → c.1 ≠ b) ∧ v' = .slice (some ⟨b, 0, none⟩) 1 1 ∧ l' = (b, .cells (List.toArray [v]) e (0, 0)) :: l) := opE_of_sl rfl fun ρ hρ => by
  simp only [execOp, sl_bind]
  have e : (#[(0, y)] : Array (Nat × Operand)).map (fun (i, x) => (i, ρ x)) = List.toArray [(0, v)] := by simp [hρ y _ hy]
  rw [e]
  refine sl_buildSlice (cs := [v]) c.out cz.out rfl (by omega) (by omega) ?_ fun b hb => ⟨b, hb, rfl, rfl⟩
  simp [Instr.fill, oc1_cells h1]
/-- a slice of one element that is a struct -/
theorem e_litA {T e k yb : Nat} {y : Operand} {zs ws : List Value} (hy : ev fr y = some (.agg (List.toArray ws))) [c : ST P T e k yb] [cz : ZV P e zs] (hz : zs.length = k) (hw : ws.length = k) (hk : 0 < k) (hk2 : k ≤ 16777216) : OpE P ro N fr l ⟨d, .buildSlice T 1 #[(0, y)], ty, pos, aft, g⟩ (fun v' l' => ∃ b, (∀ c, c ∈ l → c.1 ≠ b) ∧ v' = .slice (some ⟨b, 0, none⟩) 1 1 ∧ l' = (b, .cells (List.toArray ws) e (0, 0)) :: l) := opE_of_sl rfl fun ρ hρ => by
  simp only [execOp, sl_bind]
  have e : (#[(0, y)] : Array (Nat × Operand)).map (fun (i, x) => (i, ρ x)) = List.toArray [(0, .agg (List.toArray ws))] := by simp [hρ y _ hy]
  rw [e]
  refine sl_buildSlice (cs := ws) c.out cz.out hz (by omega) (by omega) ?_ fun b hb => ⟨b, hb, rfl, rfl⟩
  unfold Instr.fill
  have e2 : (Value.agg (List.toArray ws)).cells = List.toArray ws := rfl
  simp only [e2]
  rw [if_neg (by simp [hw, hz])]
  rw [array_zip_set]
  unfold Instr.fill
  congr 1
  have key : ∀ (vs pre cs : List Value), vs.length = cs.length → setFrom (List.toArray (pre ++ cs)) pre.length vs = List.toArray (pre ++ vs) := by
    intro vs
    induction vs with
    | nil => intro pre cs h; have : cs = [] := List.eq_nil_of_length_eq_zero (by simpa using h.symm); subst this; rfl
    | cons v vs ih =>
      intro pre cs h
      cases cs with
      | nil => simp at h
      | cons c cs =>
        simp only [setFrom, List.setIfInBounds_toArray]
        rw [List.set_append_right _ _ (Nat.le_refl _)]
        simp only [Nat.sub_self, List.set_cons_zero]
        have := ih (pre ++ [v]) cs (by simpa using h)
        simpa using this
  have := key ws [] zs (by omega)
  simpa using this
end
theorem OwnSl.one {e k n : Nat} {v : Value} {xs : List Value} {cs : List Chunk} (h : OwnSl e k v n xs cs) : v.oneCell' = true := by
  rcases h.2 with ⟨rfl, _⟩ | ⟨b, cap, sp, rfl, _⟩ <;> rfl
theorem Keep.dropL {L l : List Chunk} (cs : List Chunk) (k : Keep L l) : Keep (cs ++ L) l := by
  induction cs with
  | nil => exact k
  | cons c cs ih => exact .drop ih
theorem OwnSl.shape {e k n : Nat} {v : Value} {xs : List Value} {cs : List Chunk} (h : OwnSl e k v n xs cs) : ∃ p cap, v = .slice p n cap := by
  rcases h.2 with ⟨rfl, rfl, _⟩ | ⟨b, cap, sp, rfl, _⟩
  · exact ⟨_, _, rfl⟩
  · exact ⟨_, _, rfl⟩
section
variable {P : Program} {ro : Option Nat} {N : Nat} {E : World} {Q : Exit → Act → World → Prop} {fr : Fr} {ds : List Deferred} {l : List Chunk}
/-- ways that meet again -/
def JoinK (N : Nat) (E : World) {α : Type} (fx : α → Fr) (ds : List Deferred) (lx : α → List Chunk) (pre : α → Prop) (a : Act) (W : World) : Prop :=
  ∃ y, pre y ∧ FSat N (fx y) a ∧ a.defers = ds ∧ Sat E (lx y) W
theorem c_join {α : Type} {c1 c2 : Code} (fx : α → Fr) (lx : α → List Chunk) (pre : α → Prop) (h1 : CodeS P ro N E c1 (Exit.then (JoinK N E fx ds lx pre) Q) fr ds l) (h2 : ∀ x, pre x → CodeS P ro N E c2 Q (fx x) ds (lx x)) : CodeS P ro N E (.seq c1 c2) Q fr ds l :=
  ⟨fun a W hf hds hs => wpIn_seq (wpIn_mono (h1.run a W hf hds hs) fun e a' W' h => by
    cases e with
    | normal => obtain ⟨y, h3, h4, h5, h6⟩ := h; exact (h2 y h3).run a' W' h4 h5 h6
    | _ => exact h)⟩
theorem p_join {α : Type} {fx : α → Fr} {lx : α → List Chunk} {pre : α → Prop} (y : α) (h1 : pre y) (h3 : FSub (fx y) fr) (h4 : Keep l (lx y)) : PostS N E (Exit.then (JoinK N E fx ds lx pre) Q) .normal fr ds l :=
  ⟨fun a W hf hds hs => ⟨y, h1, hf.sub h3.spec, hds, h4.sat hs⟩⟩
end
theorem acts_cells {cs : Array Value} {k : Nat} {x y z : Value} (h : k + 3 ≤ cs.size) (e : cs.extract k (k + 3) = List.toArray [x, y, z]) : cs[k]? = some x ∧ cs[k + 1]? = some y ∧ cs[k + 2]? = some z := by
  have f : ∀ j, j < 3 → cs[k + j]? = [x, y, z][j]? := fun j hj => by
    have := congrArg (fun c => c[j]?) e
    simp only [Array.getElem?_extract, List.getElem?_toArray] at this
    rw [if_pos (by omega)] at this
    exact this
  exact ⟨f 0 (by omega), f 1 (by omega), f 2 (by omega)⟩

end Go.Proofs.YtffmibmefmbdjaaDoor

/- Parts of slices, clear, append in place. Laws of my own, no program's. -/
set_option linter.unusedVariables false
set_option linter.unusedSimpArgs false
namespace Go.Proofs.YtffmibmefmbdjaaDoor
open Go.RowKit

theorem zeroCells_list (zs : List Value) (n : Nat) : (Builtin.zeroCells (List.toArray zs) n).toList = (List.replicate n zs).flatten := by
  apply List.ext_getElem?
  intro j
  unfold Builtin.zeroCells
  have hl : (List.replicate n zs).flatten.length = n * zs.length := by simp
  by_cases hj : j < n * zs.length
  · have hk0 : 0 < zs.length := Nat.pos_of_ne_zero fun e => by rw [e] at hj; simp at hj
    have : (List.replicate n zs).flatten[j]? = zs[j % zs.length]? := by
      clear hl
      induction n generalizing j with
      | zero => omega
      | succ n ih =>
        rw [List.replicate_succ, List.flatten_cons]
        by_cases hjk : j < zs.length
        · rw [List.getElem?_append_left (by omega), Nat.mod_eq_of_lt hjk]
        · rw [List.getElem?_append_right (by omega), ih (j - zs.length) (by have := Nat.succ_mul n zs.length; simp only [Nat.succ_eq_add_one] at this; omega), ← Nat.mod_eq_sub_mod (by omega)]
    simp only [Array.toList_map, Array.toList_range, List.getElem?_map, List.size_toArray, List.getElem?_range hj, Option.map_some]
    rw [this]
    have hlt : j % zs.length < zs.length := Nat.mod_lt _ hk0
    simp [List.getElem?_eq_getElem hlt, List.getElem!_eq_getElem?_getD]
  · rw [List.getElem?_eq_none (by simp; omega), List.getElem?_eq_none (by rw [hl]; omega)]
/-- a bound of a slice expression -/
inductive Bnd (fr : Fr) : Option Operand → Nat → Nat → Prop
  | none {d : Nat} : Bnd fr none d d
  | some {o : Operand} {d r : Nat} {k : IntKind} {i : Int} : ev fr o = some (.int k i) → 0 ≤ i → i.toNat = r → Bnd fr (some o) d r

section
variable {P : Program} {ro : Option Nat} {N : Nat} {fr : Fr} {R l : List Chunk} {K : Value → List Chunk → Prop} {d : Option Nat} {ty : TypeId} {pos : String} {aft : Array Edge} {g : Option (Nat × Bool)} {x y z : Operand} {v u w : Value} {b off : Nat} {t t2 : TypeId}

theorem sl_sliceBound {Q : Nat → List Chunk → Prop} {k : IntKind} {i : Int} {y r : Nat} {code : BoundsCode} (h0 : 0 ≤ i) (hr : i.toNat = r) (hy : r ≤ y) : sl P (Instr.sliceBound (.int k i) y code) l Q ↔ Q r l := by
  unfold Instr.sliceBound
  simp only [asIntOf, sl_bind, sl_pure]
  rw [if_pos ⟨h0, by omega⟩, sl_pure, hr]
theorem sl_sliceBounds {Q : Nat × Nat × Nat → List Chunk → Prop} {ρ : Operand → Value} (hρ : Agrees fr ρ) {lo hi mx : Option Operand} {n cap l0 h0 m0 : Nat} (hl : Bnd fr lo 0 l0) (hh : Bnd fr hi n h0) (hm : Bnd fr mx cap m0) (hno : mx.isSome = true → hi.isSome = true) (h1 : l0 ≤ h0) (h2 : h0 ≤ m0) (h3 : m0 ≤ cap) :
    sl P (Instr.sliceBounds true n cap (lo.map ρ) (hi.map ρ) (mx.map ρ)) l Q ↔ Q (l0, h0, m0) l := by
  unfold Instr.sliceBounds
  cases hm with
  | none =>
    cases hh with
    | none =>
      cases hl with
      | none => simp only [Option.map_none, sl_bind, sl_pure]
      | some e i0 ir =>
        simp only [Option.map_none, Option.map_some, sl_bind, sl_pure, hρ _ _ e]
        rw [sl_sliceBound i0 ir h1]
    | some e i0 ir =>
      cases hl with
      | none =>
        simp only [Option.map_none, Option.map_some, sl_bind, sl_pure, hρ _ _ e]
        rw [sl_sliceBound i0 ir h2]
      | some e' i0' ir' =>
        simp only [Option.map_none, Option.map_some, sl_bind, sl_pure, hρ _ _ e, hρ _ _ e']
        rw [sl_sliceBound i0 ir h2, sl_sliceBound i0' ir' h1]
  | some em m0' mr =>
    cases hh with
    | none => simp at hno
    | some e i0 ir =>
      cases hl with
      | none =>
        simp only [Option.map_none, Option.map_some, sl_bind, sl_pure, hρ _ _ e, hρ _ _ em]
        rw [sl_sliceBound m0' mr h3, sl_sliceBound i0 ir h2]
      | some e' i0' ir' =>
        simp only [Option.map_none, Option.map_some, sl_bind, sl_pure, hρ _ _ e, hρ _ _ e', hρ _ _ em]
        rw [sl_sliceBound m0' mr h3, sl_sliceBound i0 ir h2, sl_sliceBound i0' ir' h1]
theorem q_slice {T e k yb : Nat} {lo hi mx : Option Operand} {n cap l0 h0 m0 off' n' c' : Nat} (hx : ev fr x = some (.slice (some ⟨b, off, none⟩) n cap)) [c : ST P T e k yb] (hl : Bnd fr lo 0 l0) (hh : Bnd fr hi n h0) (hm : Bnd fr mx cap m0) (hno : mx.isSome = true → hi.isSome = true) (h1 : l0 ≤ h0) (h2 : h0 ≤ m0) (h3 : m0 ≤ cap)
    (ho : (if m0 = l0 then off else off + l0 * k) = off') (hn : h0 - l0 = n') (hc : m0 - l0 = c') : OpQ P ro N fr R ⟨d, .slice T x lo hi mx, ty, pos, aft, g⟩ (.slice (some ⟨b, off', none⟩) n' c') := opQ_of_sl rfl fun ρ l hρ _ => by
  obtain ⟨inf, u1, u2, u3, _⟩ := stV_spec c.out
  subst ho hn hc
  simp only [execOp, hρ x _ hx]
  rw [sl_bind]
  unfold Instr.sliceAt
  rw [sl_under u1]
  show sl P (Instr.slice T _ _ _ _) l _
  unfold Instr.slice
  rw [sl_under u1]
  simp only [sl_bind]
  rw [sl_sliceBounds hρ hl hh hm hno h1 h2 h3]
  simp only
  rw [sl_sizeOf' u2]
  simp only [sl_pure, u3]
  refine ⟨?_, trivial⟩
  split <;> simp [addr_add]
theorem e_clear {T e k yb m cp : Nat} {zs : List Value} {cs : Array Value} {ct : TypeId} {l' : List Chunk} (hx : ev fr x = some (.slice (some ⟨b, off, none⟩) m cp)) [c : ST P T e k yb] [cz : ZV P e zs] (hm : 0 < m) (h1 : ∀ v, v ∈ zs → v.oneCell' = true) (hu : Upd l b (.cells cs ct (0, 0)) (.cells (setFrom cs off (List.replicate m zs).flatten) ct (0, 0)) l') (hlt : off + m * zs.length ≤ cs.size) : OpE P ro N fr l ⟨d, .call { callee := .builtin .clear, args := #[x], argTypes := #[T] }, ty, pos, aft, g⟩ (fun v' l2 => v' = .tuple #[] ∧ l2 = l') := opE_of_sl rfl fun ρ hρ => by
  obtain ⟨inf, u1, u2, u3, _⟩ := stV_spec c.out
  obtain ⟨i, zv, z1, z2, z3⟩ := zvV_spec cz.out
  rw [u2] at z1; cases z1
  obtain ⟨m, rfl⟩ : ∃ m', m = m' + 1 := ⟨m - 1, by omega⟩
  simp only [execOp, resolve, sl_bind, sl_pure, invoke, builtin, List.map_toArray, List.map_cons, List.map_nil, hρ x _ hx]
  unfold Builtin.clear_
  simp only [List.getElem?_toArray, List.getElem?_cons_zero, sl_bind]
  rw [sl_under' u1]
  simp only [sl_bind, zeroValue]
  rw [← sl_bind, sl_info u2, z2]
  simp only [sl_pure]
  have hz : zv.cells = List.toArray zs := by rw [← z3]
  have hzz : (Builtin.zeroCells zv.cells (m + 1)).toList = (List.replicate (m + 1) zs).flatten := by rw [hz]; exact zeroCells_list zs (m + 1)
  rw [hzz]
  have := sl_storeCells (P := P) (b := b) (off := off) (f := fun v => (pure (.tuple #[]) : Sem Value)) (Q := fun a l2 => NextK P (fun v' l2 => v' = .tuple #[] ∧ l2 = l') (Next.value a) l2) (List.replicate (m + 1) zs).flatten 0 cs l l' (by
    intro v hv
    rw [List.mem_flatten] at hv
    obtain ⟨r, hr, hv⟩ := hv
    rw [List.eq_of_mem_replicate hr] at hv
    exact h1 v hv) (by simpa using hlt) hu ⟨rfl, rfl⟩
  rw [sl_bind] at this
  exact this
theorem e_appendR {s x : Operand} {T e k yb n cap m cp gb : Nat} {news : List Value} {F : List Chunk} {cl cur : Array Value} {ct : TypeId} {fz : Nat × Nat} (hs : ev fr s = some (.slice (some ⟨gb, 0, none⟩) n cap)) (hx : ev fr x = some (.slice (some ⟨b, off, none⟩) m cp)) [c : ST P T e k yb]
    (hm : (b, Obj.cells cl ct fz) ∈ (gb, Obj.cells cur e (0, 0)) :: F) (hnews : ∀ j u, news[j]? = some u → cl[off + j]? = some u) (hnl : news.length = m * k) (h1 : ∀ u ∈ news, u.oneCell' = true) (hroom : n + m ≤ cap) (hfit : n * k + news.length ≤ cur.size) :
    OpE P ro N fr ((gb, .cells cur e (0, 0)) :: F) ⟨d, .call { callee := .builtin .append, args := #[s, x], argTypes := #[T, T] }, ty, pos, aft, g⟩ (fun v' l' => v' = .slice (some ⟨gb, 0, none⟩) (n + m) cap ∧ l' = (gb, .cells (cur.toList.take (n * k) ++ news ++ cur.toList.drop (n * k + news.length)).toArray e (0, 0)) :: F) := by
  refine ⟨rfl, fun E a W hf hs' => ?_⟩
  have hρ := hf.agrees
  obtain ⟨inf, u1, u2, u3, u4⟩ := stV_spec c.out
  have hex : execOp a.eval ⟨d, .call { callee := .builtin .append, args := #[s, x], argTypes := #[T, T] }, ty, pos, aft, g⟩ = (do pure (.value (← Builtin.append_ #[T, T] ty #[.slice (some ⟨gb, 0, none⟩) n cap, .slice (some ⟨b, off, none⟩) m cp])) : Sem Next) := by
    simp [execOp, resolve, hρ s _ hs, hρ x _ hx, invoke, builtin]
  unfold OpVal
  rw [hex, Sem.run_bind]
  have hg := hs'.has (gb, _) List.mem_cons_self
  have hr := run_append_room (P := P) W T ty e inf u1 u2 gb n cap cur hg ⟨b, off, none⟩ m cp news (by rw [u3]; exact hnl) (fun j u hj => by rw [addr_add, hs'.cell hm]; exact hnews j u hj) h1 hroom (by rw [u3]; exact hfit)
  rw [hr]
  rw [u3]
  exact ⟨_, ⟨rfl, rfl⟩, hs'.row⟩
theorem t_eh {ops : Array Oper} {Q : Exit → Act → World → Prop} {rest : List Oper} {ds : List Deferred} {E : World} {o : Oper} {d : Nat} (h : OpE P ro N fr l o K) (hw : gst ops fr o.guard = some true) (hd : o.dst = some d) (hb : Nat.blt d N = true) (hk : ∀ v l', K v l' → OpsS P ro N E ops Q rest ((d, v) :: fr) ds l') : OpsS P ro N E ops Q (o :: rest) fr ds l := by
  rcases gst_some hw with ⟨h1, _⟩ | ⟨j, b, oj, dj, b', h1, h2, h3, h4, h5⟩
  · exact t_e h h1 hd hb hk
  · have : b' = b := by simpa using h5
    subst this
    exact t_ge h h1 h2 h3 h4 hd hb hk
/-- a slice of several elements of one cell each -/
theorem e_litN {T e yb n : Nat} {z0 : Value} {ps : List (Nat × Operand)} {pvs : List (Nat × Value)} {cs : List Value} (hps : evps fr ps = some pvs) (hn0 : 0 < n) (hn : n ≤ 16777216) [c : ST P T e 1 yb] [cz : ZV P e [z0]] (hfill : Instr.fill (fun i => some (i * 1, 1)) (List.toArray (List.replicate n [z0]).flatten) pvs = some (List.toArray cs)) :
    OpE P ro N fr l ⟨d, .buildSlice T n ps.toArray, ty, pos, aft, g⟩ (fun v' l' => ∃ b, (∀ c, c ∈ l → c.1 ≠ b) ∧ v' = .slice (some ⟨b, 0, none⟩) n n ∧ l' = (b, .cells (List.toArray cs) e (0, 0)) :: l) := opE_of_sl rfl fun ρ hρ => by
  simp only [execOp, sl_bind]
  have e : ps.toArray.map (fun (i, x) => (i, ρ x)) = List.toArray pvs := by rw [← hρ.parts hps]; simp
  rw [e]
  exact sl_buildSlice (cs := cs) c.out cz.out rfl (by omega) (by omega) hfill fun b hb => ⟨b, hb, rfl, rfl⟩
/-- a row of numbers as a slice of its own -/
theorem OwnSl.lit {e n : Nat} {b : Nat} {xs : List Value} (h0 : 0 < n) (hl : xs.length = n) (hm : n ≤ 1000000) : OwnSl e 1 (.slice (some ⟨b, 0, none⟩) n n) n xs [(b, .cells (List.toArray xs) e (0, 0))] :=
  ⟨by omega, .inr ⟨b, n, [], rfl, by simp, by omega, by unfold maxLen; omega, by simp [hl]⟩⟩
end
theorem ptr_off {fr : Fr} {x : Operand} {b o o' : Nat} (h : ev fr x = some (.pointer (some ⟨b, o, none⟩))) (e : o = o') : ev fr x = some (.pointer (some ⟨b, o', none⟩)) := by subst e; exact h
end Go.Proofs.YtffmibmefmbdjaaDoor

/- Maps whose keys are integers: look up, set, delete, range. Empty literals; slices beside nil. Laws of my own, no program's. -/
set_option linter.unusedVariables false
set_option linter.unusedSimpArgs false
namespace Go.Proofs.YtffmibmefmbdjaaDoor
open Go.RowKit

/-- an entry: key, value, stamp -/
abbrev Ent := Int × Value × Nat
def mkE (k : IntKind) (x : Ent) : MapEntry := { key := .int k x.1, val := x.2.1, born := x.2.2 }
abbrev mapO (k : IntKind) (es : List Ent) (clock : Nat) : Obj := .map (List.toArray (es.map (mkE k))) clock
def zoV (P : Program) (t : Nat) : Option Value := match P.info? t with
  | some i => i.zero
  | none => none
class ZO (P : Program) (t : Nat) (z : outParam Value) : Prop where out : zoV P t = some z
def findE (a : Int) : List Ent → Nat → Option (Nat × Value)
  | [], _ => none
  | e :: es, i => if a = e.1 then some (i, e.2.1) else findE a es (i + 1)
def getE (a : Int) (es : List Ent) : Option Value := (findE a es 0).map Prod.snd
def setE (a : Int) (v : Value) (clock : Nat) (es : List Ent) : List Ent × Nat := match findE a es 0 with
  | some (i, _) => (es.modify i fun x => (x.1, v, x.2.2), clock)
  | none => (es ++ [(a, v, clock)], clock + 1)
def delE (a : Int) (es : List Ent) : List Ent := match findE a es 0 with
  | some (i, _) => es.eraseIdx i
  | none => es
theorem findE_add (a : Int) : ∀ (es : List Ent) (i : Nat), findE a es i = (findE a es 0).map fun p => (p.1 + i, p.2)
  | [], i => rfl
  | e :: es, i => by
    unfold findE
    split
    · simp
    · rw [findE_add a es (i + 1), findE_add a es (0 + 1)]
      cases findE a es 0 with
      | none => rfl
      | some p => simp; omega
theorem findE_none {a : Int} : ∀ {es : List Ent} {i : Nat}, findE a es i = none ↔ ∀ e ∈ es, e.1 ≠ a
  | [], i => by simp [findE]
  | e :: es, i => by
    unfold findE
    split
    · rename_i h; subst h; simp
    · rename_i h; rw [findE_none]; simp only [List.mem_cons, forall_eq_or_imp]; exact ⟨fun h2 => ⟨fun e' => h e'.symm, h2⟩, fun h2 => h2.2⟩
theorem findE_some {a : Int} : ∀ {es : List Ent} {i k : Nat} {v : Value}, findE a es i = some (k, v) → i ≤ k ∧ ∃ e, es[k - i]? = some e ∧ e.1 = a ∧ e.2.1 = v ∧ ∀ j, j < k - i → ∀ e', es[j]? = some e' → e'.1 ≠ a
  | [], i, k, v, h => by simp [findE] at h
  | e :: es, i, k, v, h => by
    unfold findE at h
    split at h
    · rename_i ha
      cases h
      exact ⟨Nat.le_refl _, e, by simp, ha.symm, rfl, fun j hj => by omega⟩
    · rename_i ha
      obtain ⟨h1, e', h2, h3, h4, h5⟩ := findE_some h
      refine ⟨by omega, e', ?_, h3, h4, fun j hj e2 he2 => ?_⟩
      · rw [show k - i = (k - (i + 1)) + 1 by omega]; simpa using h2
      · cases j with
        | zero => simp only [List.getElem?_cons_zero, Option.some.injEq] at he2; subst he2; exact fun e' => ha e'.symm
        | succ j => exact h5 j (by omega) e2 (by simpa using he2)
theorem findNow_mk (k : IntKind) (a : Int) : ∀ (es : List Ent) (i : Nat), Instr.findNow (.int k) (.int k a) (es.map (mkE k)) i = some (findE a es i)
  | [], i => rfl
  | e :: es, i => by
    rw [List.map_cons]
    unfold Instr.findNow
    simp only [mkE, Instr.sameNow, if_true]
    unfold findE
    by_cases h : a = e.1
    · rw [show (a == e.1) = true by simpa using h, if_pos h]
    · rw [show (a == e.1) = false by simpa using h, if_neg h]
      exact findNow_mk k a es (i + 1)
section
variable {P : Program} {ro : Option Nat} {N : Nat} {fr : Fr} {R l : List Chunk} {d : Option Nat} {ty : TypeId} {pos : String} {aft : Array Edge} {g : Option (Nat × Bool)} {x y z : Operand} {v u w : Value} {b m : Nat} {t t2 T kt et : TypeId} {k : IntKind} {a : Int} {es : List Ent} {clock : Nat}
theorem mtV_spec {T k e : Nat} (h : mtV P T = some (k, e)) : P.underlying T = some (.map k e) := by
  unfold mtV at h; split at h <;> simp_all
theorem itV_spec {t : Nat} {k : IntKind} (h : itV P t = some k) : P.underlying t = some (.int k) := by
  unfold itV at h; split at h <;> simp_all
theorem sl_pure' {α : Type} {Q : α → List Chunk → Prop} (a : α) : sl P (Sem.pure a) l Q ↔ Q a l := Iff.rfl
theorem sl_choose {α : Type} {Q : α → List Chunk → Prop} {f : Nat → Sem α} {q : Question} : sl P (choose q >>= f) l Q ↔ ∀ t, sl P (f (if q.forced = true then 0 else q.cut t)) l Q := Iff.rfl
theorem sl_checkKey {Q : Unit → List Chunk → Prop} {empty : Bool} {n : Nat} (h : itV P kt = some k) : sl P (Instr.checkKey empty (n + 1) kt (.int k a)) l Q ↔ Q () l := by
  unfold Instr.checkKey
  rw [sl_under (itV_spec h)]
  exact Iff.rfl
theorem sl_findKey {Q : Option (Nat × Value) → List Chunk → Prop} (h : itV P kt = some k) : sl P (Instr.findKey kt (.int k a) (es.map (mkE k))) l Q ↔ Q (findE a es 0) l := by
  unfold Instr.findKey
  rw [sl_under (itV_spec h), findNow_mk]
  exact Iff.rfl
theorem sl_zero {Q : Value → List Chunk → Prop} {zv : Value} (h : zoV P et = some zv) : sl P (zeroValue et) l Q ↔ Q zv l := by
  unfold zoV at h
  split at h
  · rename_i i hi
    unfold zeroValue
    rw [sl_info hi, h]
    exact Iff.rfl
  · cases h
theorem q_lookup {zv : Value} (hx : ev fr x = some (.map (some m))) (hy : ev fr y = some (.int k a)) [c : MT P T kt et] [ci : IT P kt k] [cz : ZO P et zv] (hm : (m, mapO k es clock) ∈ R) : OpQ P ro N fr R ⟨d, .lookup T x y false, ty, pos, aft, g⟩ ((getE a es).getD zv) := opQ_of_sl rfl fun ρ l hρ hR => by
  simp only [execOp, hρ x _ hx, hρ y _ hy, sl_bind]
  unfold Instr.lookup
  rw [sl_under (mtV_spec c.out)]
  simp only [sl_bind]
  refine ⟨_, hR _ hm, rfl, ?_⟩
  simp only [sl_pure, sl_pure', sl_bind]
  rw [sl_checkKey ci.out, sl_findKey ci.out]
  unfold getE
  cases h : findE a es 0 with
  | none => simp only [sl_bind]; rw [sl_zero cz.out]; exact ⟨rfl, rfl⟩
  | some p => exact ⟨rfl, rfl⟩
theorem q_lookup2 {zv : Value} (hx : ev fr x = some (.map (some m))) (hy : ev fr y = some (.int k a)) [c : MT P T kt et] [ci : IT P kt k] [cz : ZO P et zv] (hm : (m, mapO k es clock) ∈ R) : OpQ P ro N fr R ⟨d, .lookup T x y true, ty, pos, aft, g⟩ (.tuple #[(getE a es).getD zv, .bool (getE a es).isSome]) := opQ_of_sl rfl fun ρ l hρ hR => by
  simp only [execOp, hρ x _ hx, hρ y _ hy, sl_bind]
  unfold Instr.lookup
  rw [sl_under (mtV_spec c.out)]
  simp only [sl_bind]
  refine ⟨_, hR _ hm, rfl, ?_⟩
  simp only [sl_pure, sl_pure', sl_bind]
  rw [sl_checkKey ci.out, sl_findKey ci.out]
  unfold getE
  cases h : findE a es 0 with
  | none => simp only [sl_bind]; rw [sl_zero cz.out]; exact ⟨rfl, rfl⟩
  | some p => exact ⟨rfl, rfl⟩
theorem e_makeMap : OpE P ro N fr l ⟨d, .makeMap T none, ty, pos, aft, g⟩ (fun v' l' => ∃ b, (∀ c, c ∈ l → c.1 ≠ b) ∧ v' = .map (some b) ∧ l' = (b, .map #[] 0) :: l) := opE_of_sl rfl fun ρ hρ => by
  simp only [execOp, sl_bind]
  unfold Instr.makeMap
  simp only [Option.map_none, sl_bind, sl_pure]
  intro b hb
  exact ⟨b, hb, rfl, rfl⟩
theorem sl_keyStays {Q : Value → List Chunk → Prop} {a : Int} : sl P (Instr.keyThatStays (.int k a) (.int k a)) l Q ↔ Q (.int k a) l := by
  unfold Instr.keyThatStays
  rw [if_pos (by simp [Instr.sameBits])]
  exact Iff.rfl
theorem modify_key (es : List Ent) (i : Nat) (v : Value) (e : Ent) (he : es[i]? = some e) : (List.toArray (es.map (mkE k))).modify i (fun x => { key := .int k e.1, val := v, born := x.born }) = List.toArray ((es.modify i fun x => (x.1, v, x.2.2)).map (mkE k)) := by
  apply Array.toList_inj.1
  rw [Array.toList_modify]
  simp only
  apply List.ext_getElem?
  intro j
  rw [List.getElem?_modify, List.getElem?_map, List.getElem?_map, List.getElem?_modify]
  by_cases h : i = j
  · subst h
    rw [he]; simp [mkE]
  · cases es[j]? <;> simp [h]
theorem e_mapUpdate {l' : List Chunk} (hx : ev fr x = some (.map (some m))) (hy : ev fr y = some (.int k a)) (hz : ev fr z = some v) [c : MT P T kt et] [ci : IT P kt k] (hu : Upd l m (mapO k es clock) (mapO k (setE a v clock es).1 (setE a v clock es).2) l') :
    OpE P ro N fr l ⟨d, .mapUpdate T x y z, ty, pos, aft, g⟩ (fun v' l2 => v' = undef ∧ l2 = l') := opE_of_sl rfl fun ρ hρ => by
  simp only [execOp, hρ x _ hx, hρ y _ hy, hρ z _ hz]
  rw [sl_bind]
  unfold Instr.mapUpdate
  rw [sl_under (mtV_spec c.out)]
  simp only [sl_bind]
  refine ⟨_, hu.mem, rfl, ?_⟩
  simp only [sl_pure, sl_pure', sl_bind]
  rw [sl_checkKey ci.out, sl_findKey ci.out]
  unfold setE at hu
  cases h : findE a es 0 with
  | none =>
    rw [h] at hu
    simp only at hu ⊢
    refine ⟨mapO k es clock, l', ?_, rfl, ⟨rfl, rfl⟩⟩
    have e : (List.toArray (es.map (mkE k))).push { key := .int k a, val := v, born := clock } = List.toArray ((es ++ [(a, v, clock)]).map (mkE k)) := by simp [mkE]
    rw [e]
    exact hu
  | some p =>
    obtain ⟨i, u⟩ := p
    rw [h] at hu
    simp only at hu ⊢
    obtain ⟨_, e, he, h1, _, _⟩ := findE_some h
    rw [Nat.sub_zero] at he
    subst h1
    have hk : (((List.toArray (es.map (mkE k)))[i]?).map (·.key)).getD (.int k e.1) = .int k e.1 := by simp [he, mkE]
    simp only [sl_bind]
    rw [hk, sl_keyStays]
    refine ⟨mapO k es clock, l', ?_, rfl, ⟨rfl, rfl⟩⟩
    rw [modify_key es i v e he]
    exact hu
theorem e_delete {l' : List Chunk} {T2 : TypeId} (hx : ev fr x = some (.map (some m))) (hy : ev fr y = some (.int k a)) [c : MT P T kt et] [ci : IT P kt k] (hu : Upd l m (mapO k es clock) (mapO k (delE a es) clock) l') :
    OpE P ro N fr l ⟨d, .call { callee := .builtin .delete, args := #[x, y], argTypes := #[T, T2] }, ty, pos, aft, g⟩ (fun v' l2 => v' = .tuple #[] ∧ l2 = l') := opE_of_sl rfl fun ρ hρ => by
  simp only [execOp, resolve, sl_bind, sl_pure, invoke, builtin, List.map_toArray, List.map_cons, List.map_nil, hρ x _ hx, hρ y _ hy]
  unfold Builtin.delete_
  simp only [List.getElem?_toArray, List.getElem?_cons_zero, List.getElem?_cons_succ, sl_bind]
  rw [sl_under' (mtV_spec c.out)]
  simp only [sl_bind]
  refine ⟨_, hu.mem, rfl, ?_⟩
  simp only [sl_pure, sl_pure', sl_bind]
  rw [sl_checkKey ci.out, sl_findKey ci.out]
  unfold delE at hu
  cases h : findE a es 0 with
  | none =>
    rw [h] at hu
    exact ⟨mapO k es clock, l', hu, rfl, ⟨rfl, rfl⟩⟩
  | some p =>
    obtain ⟨i, u⟩ := p
    rw [h] at hu
    refine ⟨mapO k es clock, l', ?_, rfl, ⟨rfl, rfl⟩⟩
    have e : (List.toArray (es.map (mkE k))).eraseIdxIfInBounds i = List.toArray ((es.eraseIdx i).map (mkE k)) := by
      apply Array.toList_inj.1
      simp only [List.eraseIdxIfInBounds_toArray]
      rw [List.eraseIdx_eq_take_drop_succ, List.eraseIdx_eq_take_drop_succ, List.map_append, List.map_take, List.map_drop]
    rw [e]
    exact hu
theorem q_len_map {T : TypeId} (hx : ev fr x = some (.map (some m))) [c : MT P T kt et] (hm : (m, mapO k es clock) ∈ R) : OpQ P ro N fr R ⟨d, .call { callee := .builtin .len, args := #[x], argTypes := #[T] }, ty, pos, aft, g⟩ (.int .i64 es.length) := opQ_of_sl rfl fun ρ l hρ hR => by
  simp only [execOp, resolve, sl_bind, sl_pure, invoke, builtin, List.map_toArray, List.map_cons, List.map_nil, hρ x _ hx]
  unfold Builtin.len_
  simp only [List.getElem?_toArray, List.getElem?_cons_zero, sl_bind]
  rw [sl_under' (mtV_spec c.out)]
  simp only [sl_bind]
  refine ⟨_, hR _ hm, rfl, ?_⟩
  simp [goInt, sl_pure, sl_pure']
theorem e_range (hx : ev fr x = some (.map (some m))) [c : MT P T kt et] (hm : (m, mapO k es clock) ∈ l) : OpE P ro N fr l ⟨d, .range T x, ty, pos, aft, g⟩ (fun v' l' => ∃ b, (∀ c, c ∈ l → c.1 ≠ b) ∧ v' = .pointer (some ⟨b, 0, none⟩) ∧ l' = (b, .mapIter (some m) clock #[] clock) :: l) := opE_of_sl rfl fun ρ hρ => by
  simp only [execOp, hρ x _ hx, sl_bind]
  unfold Instr.range
  rw [sl_bind, sl_under' (mtV_spec c.out)]
  simp only [sl_bind]
  refine ⟨_, hm, rfl, ?_⟩
  simp only [sl_pure, sl_pure', sl_bind]
  intro b hb
  exact ⟨b, hb, rfl, rfl⟩
/-- a step through a map that holds nothing new -/
theorem e_next {F : List Chunk} {since last : Nat} {seen : Array Nat} (hx : ev fr x = some (.pointer (some ⟨b, 0, none⟩))) (hm : (m, mapO k es clock) ∈ F) (hold : ∀ e ∈ es, e.2.2 < since) (hsl : since ≤ last) :
    OpE P ro N fr ((b, .mapIter (some m) since seen last) :: F) ⟨d, .next x false, ty, pos, aft, g⟩ (fun v' l' => (v' = .tuple #[.bool false] ∧ l' = (b, .mapIter (some m) since seen last) :: F ∧ ∀ e ∈ es, e.2.2 ∈ seen.toList) ∨
      ∃ e ∈ es, e.2.2 ∉ seen.toList ∧ v' = .tuple #[.bool true, .int k e.1, e.2.1] ∧ l' = (b, .mapIter (some m) since (seen.push e.2.2) clock) :: F) := opE_of_sl rfl fun ρ hρ => by
  simp only [execOp, hρ x _ hx, sl_bind]
  unfold Instr.next
  simp only [sl_bind]
  refine ⟨_, List.mem_cons_self, rfl, ?_⟩
  simp only [sl_pure, sl_pure', sl_bind]
  refine ⟨_, List.mem_cons_of_mem _ hm, rfl, ?_⟩
  simp only [sl_pure, sl_pure', sl_bind]
  have hmem : ∀ y : MapEntry, y ∈ es.map (mkE k) → y.born < since := fun y hy => by
    rw [List.mem_map] at hy
    obtain ⟨e, he, rfl⟩ := hy
    exact hold e he
  have hany : (!seen.isEmpty && !(List.toArray (es.map (mkE k))).isEmpty && (List.toArray (es.map (mkE k))).all (fun e => decide (e.born ≥ last))) = false := by
    cases hes : es with
    | nil => simp
    | cons e0 r =>
      have := hold e0 (by rw [hes]; exact List.mem_cons_self)
      have hlt : ¬ last ≤ e0.2.2 := by omega
      simp [mkE, hlt]
  rw [hany]
  simp only [Bool.false_eq_true, if_false]
  obtain ⟨L, hL⟩ : ∃ L : List Ent, L = es.filter fun e => !seen.contains e.2.2 := ⟨_, rfl⟩
  have eL : (List.toArray (es.map (mkE k))).filter (fun e => !seen.contains e.born) = List.toArray (L.map (mkE k)) := by
    apply Array.toList_inj.1
    rw [Array.toList_filter]
    simp only [hL, List.filter_map]
    congr 1
  have hLm : ∀ y : MapEntry, y ∈ L.map (mkE k) → y.born < since := fun y hy => by
    rw [List.mem_map] at hy
    obtain ⟨e, he, rfl⟩ := hy
    rw [hL] at he
    exact hold e (List.mem_filter.1 he).1
  rw [eL]
  have e1 : (List.toArray (L.map (mkE k))).filter (fun x => decide (x.born < since)) = List.toArray (L.map (mkE k)) := Array.filter_eq_self.2 fun y hy => by simpa using hLm y (by simpa using hy)
  have e2 : (List.toArray (L.map (mkE k))).filter (fun x => decide (x.born ≥ since)) = #[] := by
    rw [Array.filter_eq_empty_iff]
    intro y hy
    have := hLm y (by simpa using hy)
    simp; omega
  simp only [e1, e2, Array.append_empty]
  rw [sl_choose]
  intro tp
  cases hLL : L with
  | nil =>
    have hnil : es.filter (fun e => !seen.contains e.2.2) = [] := by rw [← hL, hLL]
    have hq : (Question.mapNext 1).forced = true := by simp [Question.forced]
    simp [hq]
    refine .inl ⟨rfl, rfl, fun e1 e2 e3 he => ?_⟩
    have := List.filter_eq_nil_iff.1 hnil (e1, e2, e3) he
    simpa using this
  | cons e0 r =>
    have hne : (List.toArray ((e0 :: r).map (mkE k))).isEmpty = false := by simp
    simp only [hne, Bool.false_eq_true, if_false, Array.empty_append, Array.size_map]
    obtain ⟨j, hj, hjlt⟩ : ∃ j, (if (Question.mapNext (List.toArray ((e0 :: r).map (mkE k))).size).forced = true then 0 else (Question.mapNext (List.toArray ((e0 :: r).map (mkE k))).size).cut tp) = j ∧ j < (e0 :: r).length := by
      refine ⟨_, rfl, ?_⟩
      split
      · simp
      · simp only [Question.cut, List.size_toArray, List.length_map]
        exact Nat.mod_lt _ (by simp)
    rw [hj]
    have hget : ((List.toArray ((e0 :: r).map (mkE k))).map some)[j]? = some (some (mkE k (e0 :: r)[j])) := by
      rw [Array.getElem?_map, List.getElem?_toArray, List.getElem?_map, List.getElem?_eq_getElem hjlt]; rfl
    rw [hget]
    have hin : (e0 :: r)[j] ∈ L := by rw [hLL]; exact List.getElem_mem hjlt
    rw [hL] at hin
    obtain ⟨hi1, hi2⟩ := List.mem_filter.1 hin
    refine ⟨.mapIter (some m) since seen last, _, .here, rfl, .inr ⟨_, hi1, by simpa using hi2, rfl, rfl⟩⟩
theorem find_born : ∀ {es : List Ent} {e : Ent}, e ∈ es → (es.map (·.2.2)).Nodup → (es.map (mkE k)).find? (fun x => x.born == e.2.2) = some (mkE k e)
  | [], e, h, _ => by cases h
  | e0 :: es, e, h, hn => by
    rw [List.map_cons, List.nodup_cons] at hn
    rw [List.map_cons, List.find?_cons]
    rcases List.mem_cons.1 h with rfl | h
    · simp [mkE]
    · have hne : ((mkE k e0).born == e.2.2) = false := by
        have : e0.2.2 ≠ e.2.2 := fun h2 => hn.1 (by rw [h2]; exact List.mem_map.2 ⟨e, h, rfl⟩)
        simpa [mkE] using this
      rw [hne]
      exact find_born h hn.2
theorem q_entry {since : Nat} {seen : Array Nat} {e : Ent} (hx : ev fr x = some (.pointer (some ⟨b, 0, none⟩))) (hi : (b, .mapIter (some m) since (seen.push e.2.2) clock) ∈ R) (hm : (m, mapO k es clock) ∈ R) (he : e ∈ es) (hn : (es.map (·.2.2)).Nodup) :
    OpQ P ro N fr R ⟨d, .entry x, ty, pos, aft, g⟩ (.tuple #[.int k e.1, e.2.1]) := opQ_of_sl rfl fun ρ l hρ hR => by
  simp only [execOp, hρ x _ hx, sl_bind]
  unfold Instr.entry
  simp only [sl_bind]
  refine ⟨_, hR _ hi, rfl, ?_⟩
  simp only [sl_pure, sl_pure', Array.back?_push, sl_bind]
  refine ⟨_, hR _ hm, rfl, ?_⟩
  have hf : (List.toArray (es.map (mkE k))).find? (·.born == e.2.2) = some (mkE k e) := by rw [← Array.find?_toList]; exact find_born he hn
  simp only [sl_pure, sl_pure', bne_self_eq_false, Bool.false_eq_true, if_false, hf]
  exact ⟨rfl, trivial⟩
/-! slices beside nil, empty literals, nothing appended -/
theorem q_eqnilsl {p : Option Addr} {n cap e kk yb : Nat} (hx : ev fr x = some (.slice p n cap)) (hy : ev fr y = some (.slice none 0 0)) [c : ST P t e kk yb] : OpQ P ro N fr R ⟨d, .binOp .eql t x y t2, ty, pos, aft, g⟩ (.bool p.isNone) := opQ_of_sl rfl fun ρ l hρ _ => by
  obtain ⟨inf, u1, _⟩ := stV_spec c.out
  simp only [execOp, hρ x _ hx, hρ y _ hy, sl_bind, eqGuard_sl, sl_pure, binOp]
  unfold Op.equal Op.maxDepth Op.equalIn
  rw [sl_under u1]
  cases p <;> exact ⟨rfl, rfl⟩
theorem q_nenilsl {p : Option Addr} {n cap e kk yb : Nat} (hx : ev fr x = some (.slice p n cap)) (hy : ev fr y = some (.slice none 0 0)) [c : ST P t e kk yb] : OpQ P ro N fr R ⟨d, .binOp .neq t x y t2, ty, pos, aft, g⟩ (.bool p.isSome) := opQ_of_sl rfl fun ρ l hρ _ => by
  obtain ⟨inf, u1, _⟩ := stV_spec c.out
  simp only [execOp, hρ x _ hx, hρ y _ hy, sl_bind, eqGuard_sl, sl_pure, binOp]
  unfold Op.equal Op.maxDepth Op.equalIn
  rw [sl_under u1]
  cases p <;> exact ⟨rfl, rfl⟩
theorem e_lit0 {T e kk yb : Nat} [c : ST P T e kk yb] : OpE P ro N fr l ⟨d, .buildSlice T 0 #[], ty, pos, aft, g⟩ (fun v' l' => ∃ b, (∀ c, c ∈ l → c.1 ≠ b) ∧ v' = .slice (some ⟨b, 0, none⟩) 0 0 ∧ l' = (b, .cells #[] e (0, 0)) :: l) := opE_of_sl rfl fun ρ hρ => by
  obtain ⟨inf, u1, u2, _⟩ := stV_spec c.out
  simp only [execOp, sl_bind]
  unfold Instr.buildSlice
  rw [sl_under u1]
  simp only
  rw [sl_sizeOf u2]
  simp only [Nat.zero_mul, if_true, sl_bind]
  rw [if_neg (by omega)]
  have hf : Instr.fill (fun i => some (i * inf.size, inf.size)) (Array.map (fun x => (#[] : Array Value)[x % (#[] : Array Value).size]!) (Array.range 0)) ((#[] : Array (Nat × Operand)).map fun x => (x.1, ρ x.2)).toList = some #[] := by simp [Instr.fill]
  simp only [sl_pure, sl_bind, newRow]
  rw [hf]
  simp only [sl_pure, sl_bind]
  intro b hb
  exact ⟨b, hb, rfl, rfl⟩
theorem OwnSl.empty {e k : Nat} {b : Nat} : OwnSl e k (.slice (some ⟨b, 0, none⟩) 0 0) 0 [] [(b, .cells #[] e (0, 0))] :=
  ⟨by simp, .inr ⟨b, 0, [], rfl, rfl, by omega, by unfold maxLen; omega, by simp⟩⟩
theorem q_appendNil {s : Operand} {p : Option Addr} {T e kk yb n cap : Nat} (hs : ev fr s = some (.slice p n cap)) (hx : ev fr x = some (.slice none 0 0)) [c : ST P T e kk yb] (hn : n ≤ cap) :
    OpQ P ro N fr R ⟨d, .call { callee := .builtin .append, args := #[s, x], argTypes := #[T, T] }, ty, pos, aft, g⟩ (.slice p n cap) := opQ_of_sl rfl fun ρ l hρ _ => by
  obtain ⟨inf, u1, u2, _⟩ := stV_spec c.out
  simp only [execOp, resolve, sl_bind, sl_pure, invoke, builtin, List.map_toArray, List.map_cons, List.map_nil, hρ s _ hs, hρ x _ hx]
  unfold Builtin.append_
  simp only [List.getElem?_toArray, List.getElem?_cons_zero, List.getElem?_cons_succ, sl_bind]
  rw [sl_under' u1]
  simp only
  rw [sl_sizeOf u2]
  simp only [sl_bind]
  rw [sl_under' u1]
  simp only [sl_pure, Bool.false_eq_true, if_false, Builtin.lenOf, Bool.not_false, if_true, Nat.add_zero, if_pos hn, sl_bind, Builtin.firstCells]
  cases p with
  | none => exact ⟨rfl, rfl⟩
  | some a => exact ⟨rfl, rfl⟩
end
end Go.Proofs.YtffmibmefmbdjaaDoor

/- Copies of slices; one element appended. Laws of my own, no program's. -/
set_option linter.unusedVariables false
set_option linter.unusedSimpArgs false
namespace Go.Proofs.YtffmibmefmbdjaaDoor
open Go.RowKit

theorem OpE.re {P : Program} {ro : Option Nat} {N : Nat} {fr : Fr} {l l2 : List Chunk} {o : Oper} {K K' : Value → List Chunk → Prop} (k : Keep l l2) (h : OpE P ro N fr l2 o K) (hk : ∀ v l', K v l' → ∃ l3, Keep l' l3 ∧ K' v l3) : OpE P ro N fr l o K' :=
  ⟨h.nodef, fun E a W hf hs => (h.val E a W hf (k.sat hs)).mono fun v W' ⟨l', h1, h2⟩ => by
    obtain ⟨l3, h3, h4⟩ := hk v l' h1
    exact ⟨l3, h4, h3.sat h2⟩⟩
theorem Fn.re {P : Program} {f : FuncId} {args : List Value} {l l2 : List Chunk} {K K' : Value → List Chunk → Prop} (k : Keep l l2) (h : Fn P f args l2 K) (hk : ∀ v l', K v l' → ∃ l3, Keep l' l3 ∧ K' v l3) : Fn P f args l K' :=
  ⟨fun E W hs => (h.run E W (k.sat hs)).mono fun e W' he => by
    obtain ⟨v, l', h1, h2, h3⟩ := he
    obtain ⟨l3, h4, h5⟩ := hk v l' h2
    exact ⟨v, l3, h1, h5, h4.sat h3⟩⟩
theorem Fn.mv {P : Program} {f : FuncId} {args : List Value} {x : Chunk} {A F : List Chunk} {Kv : Value → Prop} {I : List Chunk → Prop} (h : Fn P f args (A ++ (x :: F)) fun v l' => Kv v ∧ ∃ A', I A' ∧ l' = A' ++ (x :: F)) :
    Fn P f args (x :: (A ++ F)) fun v l' => Kv v ∧ ∃ A', I A' ∧ l' = x :: (A' ++ F) :=
  Fn.re (Keep.of_perm List.perm_middle.symm) h fun v l' ⟨h1, A', h2, h3⟩ => ⟨_, by rw [h3]; exact Keep.of_perm List.perm_middle, h1, A', h2, rfl⟩
theorem Fn.mv2 {P : Program} {f : FuncId} {args : List Value} {x : Chunk} {A B F : List Chunk} {Kv : Value → Prop} {I : List Chunk → Prop} (h : Fn P f args (B ++ (x :: (A ++ F))) fun v l' => Kv v ∧ ∃ B', I B' ∧ l' = B' ++ (x :: (A ++ F))) :
    Fn P f args (x :: (A ++ (B ++ F))) fun v l' => Kv v ∧ ∃ B', I B' ∧ l' = x :: (A ++ (B' ++ F)) :=
  Fn.re (Keep.of_perm (((List.perm_append_comm_assoc A B F).cons x).trans List.perm_middle.symm)) h fun v l' ⟨h1, B', h2, h3⟩ => ⟨_, by rw [h3]; exact Keep.of_perm (List.perm_middle.trans ((List.perm_append_comm_assoc B' A F).cons x)), h1, B', h2, rfl⟩
theorem keep_swap (x : Chunk) (c0 c2 F : List Chunk) : Keep (c2 ++ x :: (c0 ++ F)) (x :: (c2 ++ F)) :=
  ⟨c0, (List.perm_middle.trans ((List.perm_append_comm_assoc c2 c0 F).cons x)).trans List.perm_middle.symm⟩
theorem keep_mid (c M r Z : List Chunk) : Keep (c ++ (M ++ (r ++ Z))) (M ++ (c ++ Z)) :=
  ⟨r, (((List.perm_append_comm_assoc M r Z).append_left c).trans (List.perm_append_comm_assoc c r _)).trans ((List.perm_append_comm_assoc c M Z).append_left r)⟩
theorem upd_pre {l l' : List Chunk} {b : Nat} {o o' : Obj} (h : Upd l b o o' l') : ∀ (c : List Chunk), Upd (c ++ l) b o o' (c ++ l')
  | [] => h
  | x :: c => .there (upd_pre h c)
section
variable {P : Program} {ro : Option Nat} {N : Nat} {fr : Fr} {R l : List Chunk} {d : Option Nat} {ty : TypeId} {pos : String} {aft : Array Edge} {g : Option (Nat × Bool)} {x y z s : Operand} {v u w : Value} {b : Nat}
/-- append to nil: a copy of its own -/
theorem e_copy {T e k yb n : Nat} {xs zs : List Value} {cs : List Chunk} (hs : ev fr s = some (.slice none 0 0)) (hx : ev fr x = some v) [c : ST P T e k yb] [cz : ZV P e zs] (hzs : zs.length = k) (ho : OwnSl e k v n xs cs) (hsub : ∀ c, c ∈ cs → c ∈ l) (h1 : ∀ u ∈ xs, u.oneCell' = true) (hn : n ≤ 1000000) (hby : yb ≤ 1000) :
    OpE P ro N fr l ⟨d, .call { callee := .builtin .append, args := #[s, x], argTypes := #[T, T] }, ty, pos, aft, g⟩ (fun v' l' => ∃ c2, OwnSl e k v' n xs c2 ∧ l' = c2 ++ l) := by
  obtain ⟨hlen, h⟩ := ho
  rcases h with ⟨rfl, rfl, rfl⟩ | ⟨gb, cap, sp, rfl, rfl, hnc, hcm, hcl⟩
  · refine ((q_appendNil (R := l) hs hx (Nat.le_refl _)).run l fun _ h => h).mono ?_
    rintro _ _ ⟨rfl, rfl⟩
    exact ⟨[], ⟨hlen, .inl ⟨rfl, rfl, rfl⟩⟩, rfl⟩
  · have hb : (0 + n) * yb ≤ 140737488355328 := by
      have := Nat.mul_le_mul hn hby
      rw [Nat.zero_add]; omega
    refine (ce_append (xs := []) (cs := []) (F := l) (news := xs) (zs := zs) (cl := List.toArray (xs ++ sp)) hs hx hzs (OwnSl.nil e k) (hsub _ List.mem_cons_self) (fun j u hj => ?_) hlen h1 (by unfold maxLen; omega) hb).mono ?_
    · have hlt := (List.getElem?_eq_some_iff.1 hj).1
      rw [Nat.zero_add, List.getElem?_toArray, List.getElem?_append_left hlt]; exact hj
    · rintro v' l' ⟨c2, ho2, rfl⟩
      rw [List.nil_append, Nat.zero_add] at ho2
      exact ⟨c2, ho2, rfl⟩
/-- one element appended, its literal dropped; X stands ahead -/
theorem e_appX {T e k yb n bl : Nat} {xs ws zs : List Value} {X cs F : List Chunk} (hx : ev fr s = some v) (hy : ev fr x = some (.slice (some ⟨bl, 0, none⟩) 1 1)) [c : ST P T e k yb] [cz : ZV P e zs] (hzs : zs.length = k) (hown : OwnSl e k v n xs cs) (hw : ws.length = k) (h1 : ∀ u ∈ ws, u.oneCell' = true) (hn : n ≤ 1000000) (hby : yb ≤ 1000) :
    OpE P ro N fr ((bl, .cells (List.toArray ws) e (0, 0)) :: (X ++ (cs ++ F))) ⟨d, .call { callee := .builtin .append, args := #[s, x], argTypes := #[T, T] }, ty, pos, aft, g⟩ (fun v' l' => ∃ c2, OwnSl e k v' (n + 1) (xs ++ ws) c2 ∧ l' = X ++ (c2 ++ F)) := by
  have hpm : ((bl, Obj.cells (List.toArray ws) e (0, 0)) :: (X ++ (cs ++ F))).Perm (cs ++ (((bl, Obj.cells (List.toArray ws) e (0, 0)) :: X) ++ F)) :=
    List.perm_append_comm_assoc ((bl, Obj.cells (List.toArray ws) e (0, 0)) :: X) cs F
  have hb : (n + 1) * yb ≤ 140737488355328 := by
    have := Nat.mul_le_mul (show n + 1 ≤ 1000001 by omega) hby
    omega
  refine OpE.re (Keep.of_perm hpm) (ce_append (m := 1) (xs := xs) (news := ws) (zs := zs) hx hy hzs hown (List.mem_append_right _ List.mem_cons_self) (fun j u hj => by simpa using hj) (by rw [hw, Nat.one_mul]) h1 (by unfold maxLen; omega) hb) ?_
  rintro v' _ ⟨c2, ho, rfl⟩
  exact ⟨_, Keep.trans (Keep.of_perm (List.perm_append_comm_assoc c2 ((bl, Obj.cells (List.toArray ws) e (0, 0)) :: X) F)) (.drop .refl), c2, ho, rfl⟩
/-- one element appended where the literal stands behind the old blocks -/
theorem e_appY {T e k yb n bl : Nat} {xs ws zs : List Value} {cs F : List Chunk} (hx : ev fr s = some v) (hy : ev fr x = some (.slice (some ⟨bl, 0, none⟩) 1 1)) [c : ST P T e k yb] [cz : ZV P e zs] (hzs : zs.length = k) (hown : OwnSl e k v n xs cs) (hw : ws.length = k) (h1 : ∀ u ∈ ws, u.oneCell' = true) (hn : n ≤ 1000000) (hby : yb ≤ 1000) :
    OpE P ro N fr (cs ++ ((bl, .cells (List.toArray ws) e (0, 0)) :: F)) ⟨d, .call { callee := .builtin .append, args := #[s, x], argTypes := #[T, T] }, ty, pos, aft, g⟩ (fun v' l' => ∃ c2, OwnSl e k v' (n + 1) (xs ++ ws) c2 ∧ l' = c2 ++ F) := by
  refine OpE.re (Keep.of_perm List.perm_middle) (e_appX (X := []) (F := F) hx hy hzs hown hw h1 hn hby) ?_
  rintro v' _ ⟨c2, ho, rfl⟩
  exact ⟨_, .refl, c2, ho, rfl⟩
theorem yielded_un {ops : Array Oper} {a : Act} {j d : Nat} {oj : Oper} (hf : FSat N fr a) (hj : ops[j]? = some oj) (hd : oj.dst = some d) (hb : flook fr d = some undef) : yielded ops a.tmps j = none := by
  have := hf.at_ d _ hb
  simp [yielded, hj, hd, this, undef]
/-- an operation whose guard's own operation was passed over is passed over -/
theorem t_hu {ops : Array Oper} {Q : Exit → Act → World → Prop} {rest : List Oper} {ds : List Deferred} {E : World} {o oj : Oper} {d j dj : Nat} {bw : Bool} (hw : o.guard = some (j, bw)) (hj : ops[j]? = some oj) (hjd : oj.dst = some dj) (hb : flook fr dj = some undef) (hd : o.dst = some d) (hbl : Nat.blt d N = true) (hk : OpsS P ro N E ops Q rest ((d, undef) :: fr) ds l) : OpsS P ro N E ops Q (o :: rest) fr ds l :=
  ⟨fun a W hf hds hs => by
    have hy := yielded_un hf hj hjd hb
    refine wpListIn_step fun K' hK' => ?_
    rw [if_neg (by simp [Region.wanted, hw, hy])]
    refine ⟨fun _ _ => trivial, hK' _ _ (hk.run _ _ ?_ ((put_defers _ _ _).trans hds) hs)⟩
    have := hf.put (d := o.dst) undef (by rw [hd]; exact hbl)
    rw [hd] at this ⊢
    exact this⟩
end
end Go.Proofs.YtffmibmefmbdjaaDoor

/- What came in, read as data, opened down to its numbers and bools: structs and arrays of any depth, slices of them. -/
set_option linter.unusedVariables false
set_option linter.unusedSimpArgs false
namespace Go.Proofs.YtffmibmefmbdjaaDoor
open Go.ChangeShapes Go.WideShapes Go.ChangeAt Go.RowKit Go.Deep

/-- a cell holds a number of a kind, or a bool -/
def CellIs : Option IntKind → Value → Prop
  | some k, v => ∃ a : Int, v = .int k a ∧ (Lit.int k a).wf = true
  | none, v => ∃ b : Bool, v = .bool b
def AllIs : List (Option IntKind) → List Value → Prop
  | [], cs => cs = []
  | k :: ks, cs => ∃ c r, cs = c :: r ∧ CellIs k c ∧ AllIs ks r
theorem AllIs.append {a b : List (Option IntKind)} {x y : List Value} (h : AllIs a x) (k : AllIs b y) : AllIs (a ++ b) (x ++ y) := by
  induction a generalizing x with
  | nil => cases h; exact k
  | cons q a ih => obtain ⟨c, r, rfl, h1, h2⟩ := h; exact ⟨c, r ++ y, rfl, h1, ih h2⟩
theorem AllIs.len {a : List (Option IntKind)} {x : List Value} (h : AllIs a x) : x.length = a.length := by
  induction a generalizing x with
  | nil => cases h; rfl
  | cons q a ih => obtain ⟨c, r, rfl, h1, h2⟩ := h; simp [ih h2]

/-- the cells of a type, where it is made of numbers and bools alone -/
def flatK (P : Program) : Nat → TypeId → Option (List (Option IntKind))
  | 0, _ => none
  | n + 1, t =>
    match P.underlying t with
    | some (.int k) => some [some k]
    | some .bool => some [none]
    | some (.struct fs) => fs.toList.foldl (fun acc f => acc.bind fun l => (flatK P n f.type).bind fun ks => if f.offset = l.length ∧ ks.length = P.cellsOf f.type then some (l ++ ks) else none) (some []) |>.bind fun ks => if ks.length = P.cellsOf t then some ks else none
    | some (.array len e) => (flatK P n e).bind fun ks => if ks.length = P.cellsOf e ∧ len * P.cellsOf e = P.cellsOf t then some ((List.replicate len ks).flatten) else none
    | _ => none

theorem foldl_none {α β : Type} (g : List α → β → Option (List α)) (fs : List β) : fs.foldl (fun acc f => acc.bind fun l => g l f) none = none := by
  induction fs with
  | nil => rfl
  | cons f fs ih => simpa using ih

theorem cells_of_cell0 {w : World} {a : Addr} {v : Value} (h : w.cell? a = some v) : a.block < w.heap.size ∧ True := by
  refine ⟨?_, trivial⟩
  unfold World.cell? at h
  split at h
  · rename_i ho; exact (Array.getElem?_eq_some_iff.1 ho).1
  · cases h

section
variable {H : Type} {enc : TypeId × Value → H} {P : Program} {w : World} {base : Nat} {spare : Nat → Bool} {held : Bool}

theorem flat_fields (n m : Nat) (ih : ∀ (t : TypeId) (m : Nat) (cs : List Value) (x : DataW H × List MemPlace) (ks : List (Option IntKind)), DataW.trod enc P w base spare held m t cs = some x → flatK P n t = some ks → AllIs ks cs) (cs : List Value) :
    ∀ (fs : List Field) (l ks : List (Option IntKind)), (∀ f ∈ fs, ∃ x, DataW.trod enc P w base spare held m f.type ((cs.drop f.offset).take (P.cellsOf f.type)) = some x) →
      AllIs l (cs.take l.length) → fs.foldl (fun acc f => acc.bind fun l => (flatK P n f.type).bind fun ks => if f.offset = l.length ∧ ks.length = P.cellsOf f.type then some (l ++ ks) else none) (some l) = some ks → AllIs ks (cs.take ks.length) := by
  intro fs
  induction fs with
  | nil => intro l ks _ hl h; simp at h; subst h; exact hl
  | cons f fs ihf =>
    intro l ks hx hl h
    simp only [List.foldl_cons, Option.bind_some] at h
    cases hk : flatK P n f.type with
    | none => rw [hk] at h; simp only [Option.bind_none] at h; rw [foldl_none] at h; cases h
    | some kf =>
      rw [hk] at h
      simp only [Option.bind_some] at h
      by_cases hc : f.offset = l.length ∧ kf.length = P.cellsOf f.type
      · rw [if_pos hc] at h
        refine ihf _ _ (fun g hg => hx g (List.mem_cons_of_mem _ hg)) ?_ h
        obtain ⟨x, hxf⟩ := hx f List.mem_cons_self
        have := ih f.type m _ x kf hxf hk
        rw [List.length_append, List.take_add, ← hc.1]
        rw [← hc.2] at this
        rw [hc.1] at this ⊢
        exact hl.append this
      · rw [if_neg hc, foldl_none] at h; cases h

theorem flat_rows (n m : Nat) (e : TypeId) (ks : List (Option IntKind)) (ih : ∀ (cs : List Value) (x : DataW H × List MemPlace), DataW.trod enc P w base spare held m e cs = some x → AllIs ks cs) (cs : List Value) (hk : ks.length = P.cellsOf e) :
    ∀ (k : Nat), (∀ i, i < k → ∃ x, DataW.trod enc P w base spare held m e ((cs.drop (i * P.cellsOf e)).take (P.cellsOf e)) = some x) → AllIs ((List.replicate k ks).flatten) (cs.take (k * P.cellsOf e)) := by
  intro k
  induction k with
  | zero => intro _; simp [AllIs]
  | succ k ihk =>
    intro h
    have h1 := ihk (fun i hi => h i (by omega))
    obtain ⟨x, hx⟩ := h k (by omega)
    have h2 := ih _ x hx
    rw [Nat.succ_mul, List.take_add, List.replicate_succ', List.flatten_append]
    simpa using h1.append h2

theorem flat_open : ∀ (n : Nat) (t : TypeId) (m : Nat) (cs : List Value) (x : DataW H × List MemPlace) (ks : List (Option IntKind)), DataW.trod enc P w base spare held m t cs = some x → flatK P n t = some ks → AllIs ks cs := by
  intro n
  induction n with
  | zero => intro t m cs x ks _ h; simp [flatK] at h
  | succ n ih =>
    intro t m cs x ks hx h
    unfold flatK at h
    split at h
    · rename_i k ht
      obtain ⟨a, rfl, _, wa⟩ := DataW.trod_int ht hx
      cases h
      exact ⟨_, _, rfl, ⟨a, rfl, wa⟩, rfl⟩
    · rename_i ht
      obtain ⟨b, rfl, _⟩ := DataW.trod_bool ht hx
      cases h
      exact ⟨_, _, rfl, ⟨b, rfl⟩, rfl⟩
    · rename_i fs ht
      obtain ⟨xs, m', _, _, hl, hlen, hf⟩ := DataW.trod_struct ht hx
      obtain ⟨k0, hk0, hk1⟩ := Option.bind_eq_some_iff.1 h
      by_cases hc : k0.length = P.cellsOf t
      · rw [if_pos hc] at hk1
        cases hk1
        have := flat_fields n m' ih cs fs.toList [] ks (fun f hfm => by
          obtain ⟨i, hi, he⟩ := List.getElem_of_mem hfm
          have h0 := hf i f (by rw [← Array.getElem?_toList]; exact List.getElem?_eq_some_iff.2 ⟨hi, he⟩)
          have hix : i < xs.length := by rw [hlen]; simpa using hi
          exact ⟨xs[i], by rw [h0]; exact List.getElem?_eq_getElem hix⟩) rfl hk0
        rwa [hc, ← hl, List.take_length] at this
      · rw [if_neg hc] at hk1; cases hk1
    · rename_i len e ht
      obtain ⟨xs, m', _, _, hl, hlen, hf⟩ := DataW.trod_array ht hx
      cases hk : flatK P n e with
      | none => rw [hk] at h; cases h
      | some ke =>
        rw [hk] at h
        simp only [Option.bind_some] at h
        by_cases hc : ke.length = P.cellsOf e ∧ len * P.cellsOf e = P.cellsOf t
        · rw [if_pos hc] at h
          cases h
          have := flat_rows n m' e ke (fun cs' x' hx' => ih e m' cs' x' ke hx' hk) cs hc.1 len (fun i hi => by
            have h0 := hf i hi
            have hix : i < xs.length := by omega
            exact ⟨xs[i], by rw [h0]; exact List.getElem?_eq_getElem hix⟩)
          rwa [hc.2, ← hl, List.take_length] at this
        · rw [if_neg hc] at h; cases h
    · cases h

/-- a struct or an array by value -/
theorem open_flat {r : Reach} {b0 : Nat} {t : TypeId} {v : Value} {d : DataW H} {p : List MemPlace} {ks : List (Option IntKind)} (n : Nat)
    (hag : (match P.underlying t with | some (.struct _) | some (.array _ _) => true | _ => false) = true) (hk : flatK P n t = some ks)
    (hv : Value.okWide P w r b0 t v) (h : DataW.Trod enc P w base spare held t v d p) : ∃ cs : List Value, v = .agg cs.toArray ∧ AllIs ks cs := by
  obtain ⟨cs, rfl⟩ : ∃ cs, v = .agg cs := by
    unfold Value.okWide at hv
    split at hv
    · obtain ⟨cs, h1, _⟩ := hv; exact ⟨cs, h1⟩
    · obtain ⟨cs, h1, _⟩ := hv; exact ⟨cs, h1⟩
    · rename_i h1 h2
      split at hag
      · rename_i hu; exact absurd hu (h1 _)
      · rename_i hu; exact absurd hu (h2 _ _)
      · cases hag
  obtain ⟨fuel, hf⟩ := h
  simp only [Value.cells] at hf
  exact ⟨cs.toList, by simp, flat_open n t fuel _ _ ks hf hk⟩

/-- a slice of such: nil, or so many rows of cells -/
structure IsRows (ks : List (Option IntKind)) (w : World) (a : Option Addr) (len cap : Nat) (rows : List (List Value)) : Prop where
  nil : a = none → len = 0 ∧ cap = 0
  le : len ≤ cap
  max : cap ≤ maxLen
  size : rows.length = len
  all : ∀ r ∈ rows, AllIs ks r
  at_ : 0 < len → ∃ b off, a = some ⟨b, off, none⟩ ∧ b < w.heap.size ∧ ∀ i j, i < len → j < ks.length → w.cell? ⟨b, off + i * ks.length + j, none⟩ = (rows[i]?.getD [])[j]?

theorem open_rows {r : Reach} {b0 : Nat} {t e : TypeId} {v : Value} {d : DataW H} {p : List MemPlace} {ks : List (Option IntKind)} (n : Nat)
    (ht : P.underlying t = some (.slice e)) (hk : flatK P n e = some ks) (hkl : ks.length = P.cellsOf e) (hpos : 0 < P.cellsOf e)
    (hv : Value.okWide P w r b0 t v) (h : DataW.Trod enc P w base spare held t v d p) :
    ∃ a len cap rows, v = .slice a len cap ∧ IsRows ks w a len cap rows := by
  obtain ⟨a0, len, cap, rfl⟩ := okWide_slice ht hv
  obtain ⟨fuel, hf⟩ := h
  simp only [Value.cells] at hf
  rcases open_slice ht hf with ⟨hcs, _⟩ | ⟨a, len', cap', m, n', D, Pl, hcs, hb, hl, hm, hmm, _, hel⟩
  · simp at hcs
    obtain ⟨rfl, rfl, rfl⟩ := hcs
    exact ⟨none, 0, 0, [], rfl, ⟨fun _ => ⟨rfl, rfl⟩, Nat.le_refl _, Nat.zero_le _, rfl, by simp, by simp⟩⟩
  · simp at hcs
    obtain ⟨rfl, rfl, rfl⟩ := hcs
    have hlm : len ≤ m := by rw [hmm]; split <;> omega
    have hch : ∀ i, i < len → ∃ cs', w.cells? base (a.add (i * P.cellsOf e)) (P.cellsOf e) = some cs' ∧ AllIs ks cs' := fun i hi => by
      obtain ⟨cs', h1, h2⟩ := hel i (by omega)
      exact ⟨cs', h1, flat_open n e n' cs' _ ks h2 hk⟩
    refine ⟨some a, len, cap, (List.range len).map fun i => (w.cells? base (a.add (i * P.cellsOf e)) (P.cellsOf e)).getD [], rfl, ⟨by simp, hl, hm, by simp, ?_, ?_⟩⟩
    · intro r hr
      obtain ⟨i, hi, rfl⟩ := List.mem_map.1 hr
      obtain ⟨cs', h1, h2⟩ := hch i (by simpa using hi)
      rw [h1]; exact h2
    · intro h0
      obtain ⟨cs0, h1, h2⟩ := hch 0 h0
      obtain ⟨_, hl0, hc0⟩ := World.cells?_some h1
      have hc00 := hc0 0 hpos
      have hlen0 : 0 < cs0.length := by omega
      rw [List.getElem?_eq_getElem hlen0] at hc00
      have hsp := World.cell?_spot hc00
      obtain ⟨b, off, spot⟩ := a
      simp [Addr.add] at hsp
      subst hsp
      refine ⟨b, off, rfl, ?_, fun i j hi hj => ?_⟩
      · have := (cells_of_cell0 hc00).1
        simpa [Addr.add] using this
      · obtain ⟨cs', h1, h2⟩ := hch i hi
        obtain ⟨_, hl1, hc1⟩ := World.cells?_some h1
        have := hc1 j (by omega)
        simp only [List.getElem?_map, List.getElem?_range hi, Option.map_some, Option.getD_some, h1]
        rw [← this, hkl]
        congr 1
        unfold Addr.add
        by_cases hi0 : i * P.cellsOf e = 0
        · rw [if_pos hi0, hi0]
          by_cases hj0 : j = 0
          · rw [if_pos hj0]; simp [hj0]
          · rw [if_neg hj0]; simp
        · rw [if_neg hi0]
          by_cases hj0 : j = 0
          · rw [if_pos hj0]; simp [hj0]
          · rw [if_neg hj0]
end
end Go.Proofs.YtffmibmefmbdjaaDoor

/- == of structs and arrays of numbers and bools. Laws of my own, no program's. -/
set_option linter.unusedVariables false
set_option linter.unusedSimpArgs false
namespace Go.Proofs.YtffmibmefmbdjaaDoor
open Go.RowKit

def CellK : Option IntKind → Value → Prop
  | some k, v => ∃ a : Int, v = .int k a
  | none, v => ∃ b : Bool, v = .bool b
def AllK : List (Option IntKind) → List Value → Prop
  | [], cs => cs = []
  | k :: ks, cs => ∃ c r, cs = c :: r ∧ CellK k c ∧ AllK ks r
theorem AllK.len {a : List (Option IntKind)} {x : List Value} (h : AllK a x) : x.length = a.length := by
  induction a generalizing x with
  | nil => cases h; rfl
  | cons q a ih => obtain ⟨c, r, rfl, h1, h2⟩ := h; simp [ih h2]
def aggT (P : Program) (t : TypeId) : Bool := match P.underlying t with
  | some (.struct _) | some (.array _ _) => true
  | _ => false
/-- the kinds of the cells of a type that == compares cell by cell -/
def eqK (P : Program) : Nat → TypeId → Option (List (Option IntKind))
  | 0, _ => none
  | n + 1, t => match P.underlying t with
    | some (.int k) => some [some k]
    | some .bool => some [none]
    | some (.struct fs) => if P.stoodInHeld t then none else
      fs.toList.foldl (fun acc f => acc.bind fun l => (eqK P n f.type).bind fun ks => if f.offset = l.length ∧ f.name ≠ "_" ∧ (P.info? f.type).map (·.size) = some ks.length then some (l ++ ks) else none) (some [])
    | some (.array len e) => (eqK P n e).bind fun ks => if (P.info? e).map (·.size) = some ks.length then some (List.replicate len ks).flatten else none
    | _ => none
def valOf (P : Program) (t : TypeId) (xs : List Value) : Value := if aggT P t then .agg xs.toArray else xs.headD undef

section
variable {P : Program}
variable {t : TypeId} {α : Type} {f : Value → Sem α} {l : List Chunk} {Q : α → List Chunk → Prop}
theorem sl_pieceA {d : TypeDesc} {inf : TypeInfo} (hu : P.underlying t = some d) (ha : isAggD d = true) (hi : P.info? t = some inf) (cs : List Value) (off : Nat) :
    sl P (part t cs.toArray off >>= f) l Q ↔ sl P (f (.agg ((cs.drop off).take inf.size).toArray)) l Q := by
  unfold part
  rw [sl_bind, sl_isAgg hu, ha]
  simp only [if_true]
  rw [sl_sizeOf hi]
  have e : cs.toArray.extract off (off + inf.size) = ((cs.drop off).take inf.size).toArray := by
    apply Array.toList_inj.1
    rw [Array.toList_extract, List.extract_eq_take_drop]
    simp
  rw [e]
  exact Iff.rfl
theorem sl_pieceS {d : TypeDesc} {v : Value} (hu : P.underlying t = some d) (ha : isAggD d = false) (cs : List Value) (off : Nat) (hv : cs[off]? = some v) :
    sl P (part t cs.toArray off >>= f) l Q ↔ sl P (f v) l Q := by
  unfold part
  rw [sl_bind, sl_isAgg hu, ha]
  simp only [Bool.false_eq_true, if_false, List.getElem?_toArray, hv]
  exact Iff.rfl
def eqCell : Value → Value → Bool
  | .int _ a, .int _ b => a == b
  | .bool a, .bool b => a == b
  | _, _ => false
def eqCells : List Value → List Value → Bool
  | x :: xs, y :: ys => eqCell x y && eqCells xs ys
  | _, _ => true
theorem eqCells_append : ∀ (a b c d : List Value), a.length = b.length → eqCells (a ++ c) (b ++ d) = (eqCells a b && eqCells c d)
  | [], [], c, d, _ => by simp [eqCells]
  | x :: a, y :: b, c, d, h => by simp only [List.cons_append, eqCells, eqCells_append a b c d (by simpa using h), Bool.and_assoc]
theorem eqCells_self : ∀ {ks : List (Option IntKind)} {a : List Value}, AllK ks a → eqCells a a = true
  | [], a, h => by cases h; rfl
  | none :: ks, a, h => by obtain ⟨c, r, rfl, ⟨b, rfl⟩, h2⟩ := h; simp [eqCells, eqCell, eqCells_self h2]
  | some k :: ks, a, h => by obtain ⟨c, r, rfl, ⟨b, rfl⟩, h2⟩ := h; simp [eqCells, eqCell, eqCells_self h2]
theorem sl_for {β : Type} (r : β → Bool) (body : β → Option Bool × Unit → Sem (ForInStep (Option Bool × Unit))) (k : Option Bool × Unit → Sem Bool) (k1 : k (none, ()) = pure true) (k2 : k (some false, ()) = pure false) {Q : Bool → List Chunk → Prop} {l : List Chunk} : ∀ (xs : List β), (∀ x ∈ xs, ∀ (Q : ForInStep (Option Bool × Unit) → List Chunk → Prop) l, sl P (body x (none, ())) l Q ↔ Q (if r x then .yield (none, ()) else .done (some false, ())) l) →
    (sl P (forIn xs ((none : Option Bool), ()) body >>= k) l Q ↔ Q (xs.all r) l)
  | [], _ => by simp only [List.forIn_nil, sl_bind, sl_pure, List.all_nil, k1]
  | x :: xs, h => by
    rw [sl_bind, List.forIn_cons, sl_bind, h x List.mem_cons_self, List.all_cons]
    cases hr : r x with
    | true =>
      simp only [if_true, Bool.true_and]
      rw [← sl_bind]
      exact sl_for r body k k1 k2 xs fun y hy => h y (List.mem_cons_of_mem _ hy)
    | false =>
      simp only [Bool.false_eq_true, if_false, Bool.false_and, sl_pure, k2]
theorem AllK.take_left {a b : List (Option IntKind)} {x : List Value} (h : AllK (a ++ b) x) : AllK a (x.take a.length) := by
  induction a generalizing x with
  | nil => simp [AllK]
  | cons k a ih => obtain ⟨c, r, rfl, h1, h2⟩ := h; exact ⟨c, r.take a.length, by simp, h1, ih h2⟩
theorem AllK.drop_left {a b : List (Option IntKind)} {x : List Value} (h : AllK (a ++ b) x) : AllK b (x.drop a.length) := by
  induction a generalizing x with
  | nil => simpa using h
  | cons k a ih => obtain ⟨c, r, rfl, h1, h2⟩ := h; simpa using ih h2
theorem eqCells_split (xs ys : List Value) (m : Nat) (h : xs.length = ys.length) : eqCells xs ys = (eqCells (xs.take m) (ys.take m) && eqCells (xs.drop m) (ys.drop m)) := by
  rw [← eqCells_append _ _ _ _ (by simp [h]), List.take_append_drop, List.take_append_drop]
def sizeT (P : Program) (t : TypeId) : Nat := ((P.info? t).map (·.size)).getD 0
def pieceEq (P : Program) (xs ys : List Value) (f : Field) : Bool := eqCells ((xs.drop f.offset).take (sizeT P f.type)) ((ys.drop f.offset).take (sizeT P f.type))
structure PieceOk (P : Program) (n : Nat) (xs ys : List Value) (f : Field) (kf : List (Option IntKind)) : Prop where
  kinds : eqK P n f.type = some kf
  named : f.name ≠ "_"
  size : (P.info? f.type).map (·.size) = some kf.length
  x : AllK kf ((xs.drop f.offset).take kf.length)
  y : AllK kf ((ys.drop f.offset).take kf.length)
theorem eqK_fields (n : Nat) (xs ys : List Value) : ∀ (fs : List Field) (l ks : List (Option IntKind)),
    fs.foldl (fun acc f => acc.bind fun l => (eqK P n f.type).bind fun ks => if f.offset = l.length ∧ f.name ≠ "_" ∧ (P.info? f.type).map (·.size) = some ks.length then some (l ++ ks) else none) (some l) = some ks →
    ∃ rest, ks = l ++ rest ∧ (AllK ks xs → AllK ks ys → (∀ f ∈ fs, ∃ kf, PieceOk P n xs ys f kf) ∧ eqCells (xs.drop l.length) (ys.drop l.length) = fs.all (pieceEq P xs ys)) := by
  intro fs
  induction fs with
  | nil =>
    intro l ks h
    simp only [List.foldl_nil, Option.some.injEq] at h
    subst h
    refine ⟨[], by simp, fun hx hy => ⟨by simp, ?_⟩⟩
    rw [List.drop_of_length_le (by rw [hx.len]; exact Nat.le_refl _), List.drop_of_length_le (by rw [hy.len]; exact Nat.le_refl _)]
    rfl
  | cons f fs ih =>
    intro l ks h
    simp only [List.foldl_cons, Option.bind_some] at h
    cases hk : eqK P n f.type with
    | none => rw [hk] at h; simp only [Option.bind_none] at h; rw [foldl_none] at h; cases h
    | some kf =>
      rw [hk] at h
      simp only [Option.bind_some] at h
      by_cases hc : f.offset = l.length ∧ f.name ≠ "_" ∧ (P.info? f.type).map (·.size) = some kf.length
      · rw [if_pos hc] at h
        obtain ⟨rest, hr, hrest⟩ := ih _ _ h
        refine ⟨kf ++ rest, by rw [hr, List.append_assoc], fun hx hy => ?_⟩
        obtain ⟨g1, g2⟩ := hrest hx hy
        have hx1 : AllK kf ((xs.drop f.offset).take kf.length) := by rw [hc.1]; rw [hr, List.append_assoc] at hx; exact hx.drop_left.take_left
        have hy1 : AllK kf ((ys.drop f.offset).take kf.length) := by rw [hc.1]; rw [hr, List.append_assoc] at hy; exact hy.drop_left.take_left
        refine ⟨fun g hg => ?_, ?_⟩
        · rcases List.mem_cons.1 hg with rfl | hg
          · exact ⟨kf, hk, hc.2.1, hc.2.2, hx1, hy1⟩
          · exact g1 g hg
        · rw [List.all_cons, ← g2, eqCells_split _ _ kf.length (by simp [hx.len, hy.len])]
          simp only [pieceEq, sizeT, hc.2.2, Option.getD_some, hc.1, List.drop_drop, List.length_append]
      · rw [if_neg hc, foldl_none] at h; cases h
theorem sl_piece {n : Nat} {t : TypeId} {α : Type} {f : Value → Sem α} {l : List Chunk} {Q : α → List Chunk → Prop} {kf : List (Option IntKind)} (h : eqK P n t = some kf) (hs : (P.info? t).map (·.size) = some kf.length) (cs : List Value) (off : Nat) (hx : AllK kf ((cs.drop off).take kf.length)) :
    sl P (part t cs.toArray off >>= f) l Q ↔ sl P (f (valOf P t ((cs.drop off).take kf.length))) l Q := by
  have hi : ∃ inf, P.info? t = some inf ∧ inf.size = kf.length := by
    cases hh : P.info? t with
    | none => rw [hh] at hs; cases hs
    | some inf => rw [hh] at hs; exact ⟨inf, rfl, by simpa using hs⟩
  obtain ⟨inf, hi1, hi2⟩ := hi
  have scal : ∀ {d : TypeDesc} {k : Option IntKind}, P.underlying t = some d → isAggD d = false → aggT P t = false → kf = [k] → (sl P (part t cs.toArray off >>= f) l Q ↔ sl P (f (valOf P t ((cs.drop off).take kf.length))) l Q) := by
    intro d k hu ha hb hkf
    subst hkf
    obtain ⟨c, r, e1, _, e2⟩ := hx
    have hg : cs[off]? = some c := by
      have := congrArg (fun z => z[0]?) e1
      simpa using this
    rw [sl_pieceS hu ha cs off hg]
    unfold valOf
    rw [hb, e1]
    exact Iff.rfl
  have agg : ∀ {d : TypeDesc}, P.underlying t = some d → isAggD d = true → aggT P t = true → (sl P (part t cs.toArray off >>= f) l Q ↔ sl P (f (valOf P t ((cs.drop off).take kf.length))) l Q) := by
    intro d hu ha hb
    rw [sl_pieceA hu ha hi1 cs off, hi2]
    unfold valOf
    rw [hb]
    exact Iff.rfl
  cases n with
  | zero => cases h
  | succ n =>
    unfold eqK at h
    split at h
    · rename_i k hu; cases h; exact scal hu rfl (by unfold aggT; rw [hu]) rfl
    · rename_i hu; cases h; exact scal hu rfl (by unfold aggT; rw [hu]) rfl
    · rename_i fs hu; exact agg hu rfl (by unfold aggT; rw [hu])
    · rename_i len e hu; exact agg hu rfl (by unfold aggT; rw [hu])
    · cases h
theorem eqK_rows (kf : List (Option IntKind)) : ∀ (len : Nat) (xs ys : List Value), AllK (List.replicate len kf).flatten xs → AllK (List.replicate len kf).flatten ys →
    (∀ i, i < len → AllK kf ((xs.drop (i * kf.length)).take kf.length) ∧ AllK kf ((ys.drop (i * kf.length)).take kf.length)) ∧
      eqCells xs ys = (List.range' 0 len).all fun i => eqCells ((xs.drop (i * kf.length)).take kf.length) ((ys.drop (i * kf.length)).take kf.length) := by
  intro len
  induction len with
  | zero => intro xs ys hx hy; cases hx; cases hy; exact ⟨fun i hi => by omega, rfl⟩
  | succ len ih =>
    intro xs ys hx hy
    rw [List.replicate_succ, List.flatten_cons] at hx hy
    obtain ⟨h1, h2⟩ := ih _ _ hx.drop_left hy.drop_left
    have sh : ∀ i (z : List Value), (z.drop kf.length).drop (i * kf.length) = z.drop ((i + 1) * kf.length) := fun i z => by rw [List.drop_drop]; congr 1; rw [Nat.succ_mul]; omega
    refine ⟨fun i hi => ?_, ?_⟩
    · cases i with
      | zero => simpa using And.intro hx.take_left hy.take_left
      | succ i => have := h1 i (by omega); rw [sh, sh] at this; exact this
    · rw [eqCells_split _ _ kf.length (by rw [hx.len, hy.len]), h2, List.range'_succ, List.all_cons]
      congr 1
      · simp
      · have e : List.range' (0 + 1) len = (List.range' 0 len).map (· + 1) := by simp [List.range'_eq_map_range, Function.comp_def, Nat.add_comm]
        rw [e, List.all_map]
        congr 1
        funext i
        simp only [Function.comp, sh]
theorem sl_eqIn : ∀ (n d : Nat) (t : TypeId) (ks : List (Option IntKind)), eqK P n t = some ks → n ≤ d → ∀ (xs ys : List Value), AllK ks xs → AllK ks ys → ∀ (Q : Bool → List Chunk → Prop) (l : List Chunk),
    (sl P (Op.equalIn d t (valOf P t xs) (valOf P t ys)) l Q ↔ Q (eqCells xs ys) l) := by
  intro n
  induction n with
  | zero => intro d t ks h; cases h
  | succ n ih =>
    intro d t ks h hd xs ys hx hy Q l
    obtain ⟨d, rfl⟩ : ∃ e, d = e + 1 := ⟨d - 1, by omega⟩
    unfold eqK at h
    split at h
    · rename_i k hu
      cases h
      obtain ⟨_, _, rfl, ⟨a, rfl⟩, rfl⟩ := hx
      obtain ⟨_, _, rfl, ⟨b, rfl⟩, rfl⟩ := hy
      simp only [valOf, aggT, hu, Bool.false_eq_true, if_false, List.headD_cons]
      unfold Op.equalIn
      rw [sl_under hu]
      simp [eqCells, eqCell, sl_pure]
    · rename_i hu
      cases h
      obtain ⟨_, _, rfl, ⟨a, rfl⟩, rfl⟩ := hx
      obtain ⟨_, _, rfl, ⟨b, rfl⟩, rfl⟩ := hy
      simp only [valOf, aggT, hu, Bool.false_eq_true, if_false, List.headD_cons]
      unfold Op.equalIn
      rw [sl_under hu]
      simp [eqCells, eqCell, sl_pure]
    · rename_i fs hu
      by_cases hst : P.stoodInHeld t = true
      · rw [if_pos hst] at h; cases h
      rw [if_neg hst] at h
      obtain ⟨rest, hr, hrest⟩ := eqK_fields n xs ys fs.toList [] ks h
      obtain ⟨g1, g2⟩ := hrest hx hy
      simp only [List.length_nil, List.drop_zero] at g2
      have hag : aggT P t = true := by unfold aggT; rw [hu]
      simp only [valOf, hag, if_true]
      unfold Op.equalIn
      rw [sl_under hu]
      simp only
      rw [sl_program, Bool.eq_false_iff.2 hst]
      simp only [Bool.false_eq_true, if_false]
      rw [g2, ← Array.forIn_toList]
      refine sl_for (pieceEq P xs ys) _ _ rfl rfl fs.toList fun f hf Q l => ?_
      obtain ⟨kf, ok⟩ := g1 f hf
      rw [if_pos ok.named, sl_piece ok.kinds ok.size xs f.offset ok.x, sl_piece ok.kinds ok.size ys f.offset ok.y, sl_bind, ih d f.type kf ok.kinds (by omega) _ _ ok.x ok.y]
      simp only [pieceEq, sizeT, ok.size, Option.getD_some]
      cases eqCells (List.take kf.length (List.drop f.offset xs)) (List.take kf.length (List.drop f.offset ys)) <;> simp [sl_pure]
    · rename_i len e hu
      obtain ⟨kf, hk, hk2⟩ := Option.bind_eq_some_iff.1 h
      by_cases hs : (P.info? e).map (·.size) = some kf.length
      · rw [if_pos hs] at hk2
        cases hk2
        obtain ⟨g1, g2⟩ := eqK_rows kf len xs ys hx hy
        have hag : aggT P t = true := by unfold aggT; rw [hu]
        have hi : ∃ inf, P.info? e = some inf ∧ inf.size = kf.length := by
          cases hh : P.info? e with
          | none => rw [hh] at hs; cases hs
          | some inf => rw [hh] at hs; exact ⟨inf, rfl, by simpa using hs⟩
        obtain ⟨inf, hi1, hi2⟩ := hi
        simp only [valOf, hag, if_true]
        unfold Op.equalIn
        rw [sl_under hu]
        simp only
        rw [sl_sizeOf hi1, hi2, g2]
        rw [Std.Legacy.Range.forIn_eq_forIn_range']
        have hsz : Std.Legacy.Range.size [:len] = len := by simp [Std.Legacy.Range.size]
        rw [hsz]
        refine sl_for (fun i => eqCells ((xs.drop (i * kf.length)).take kf.length) ((ys.drop (i * kf.length)).take kf.length)) _ _ rfl rfl (List.range' 0 len) fun i hf Q l => ?_
        have hil : i < len := by have := List.mem_range'_1.1 hf; omega
        obtain ⟨o1, o2⟩ := g1 i hil
        rw [sl_piece hk hs xs _ o1, sl_piece hk hs ys _ o2, sl_bind, ih d e kf hk (by omega) _ _ o1 o2]
        cases eqCells (List.take kf.length (List.drop (i * kf.length) xs)) (List.take kf.length (List.drop (i * kf.length) ys)) <;> simp [sl_pure]
      · rw [if_neg hs] at hk2; cases hk2
    · cases h
def eqV (P : Program) (t : TypeId) : Option (List (Option IntKind)) := if aggT P t = true ∧ P.eqGuardType P.depth t = false then eqK P 20 t else none
class EQ (P : Program) (t : Nat) (ks : outParam (List (Option IntKind))) : Prop where out : eqV P t = some ks
theorem eqV_spec {t : TypeId} {ks : List (Option IntKind)} (h : eqV P t = some ks) : aggT P t = true ∧ P.eqGuardType P.depth t = false ∧ eqK P 20 t = some ks := by
  unfold eqV at h
  split at h
  · rename_i hc; exact ⟨hc.1, hc.2, h⟩
  · cases h
variable {ro : Option Nat} {N : Nat} {fr : Fr} {R : List Chunk} {d : Option Nat} {ty : TypeId} {pos : String} {aft : Array Edge} {g : Option (Nat × Bool)} {x y : Operand} {t t2 : TypeId} {xs ys : List Value} {ks : List (Option IntKind)}
theorem sl_eqGuard {op : BinOp} {xa ya : Array Value} {α : Type} {f : Unit → Sem α} {l : List Chunk} {Q : α → List Chunk → Prop} (hg : P.eqGuardType P.depth t = false) : sl P (eqGuard op t x y (.agg xa) (.agg ya) >>= f) l Q ↔ sl P (f ()) l Q := by
  have key : ∀ bb : Bool, sl P ((if (!bb) = true then (pure () : Sem Unit) else do
      let p ← program
      let q ← program
      if (!p.eqGuardType q.depth t) = true then pure () else do
        let r ← Op.eqGuardIn Op.maxDepth t (.agg xa) (.agg ya)
        if r = true then unsupported (Unsupported.noEntry "binop/eql: two nil values of an interface type with methods, in a part of a struct or an array") else pure ()) >>= f) l Q ↔ sl P (f ()) l Q := by
    intro bb
    cases bb with
    | false => exact Iff.rfl
    | true =>
      rw [sl_bind]
      simp only [Bool.not_true, Bool.false_eq_true, if_false]
      rw [sl_program, sl_program, hg]
      exact Iff.rfl
  unfold eqGuard
  split
  · exact key true
  · exact key true
  · exact key false
theorem q_eqagg [c : EQ P t ks] (hx : ev fr x = some (.agg (List.toArray xs))) (hy : ev fr y = some (.agg (List.toArray ys))) (kx : AllK ks xs) (ky : AllK ks ys) : OpQ P ro N fr R ⟨d, .binOp .eql t x y t2, ty, pos, aft, g⟩ (.bool (eqCells xs ys)) := opQ_of_sl rfl fun ρ l hρ _ => by
  obtain ⟨e1, e2, e3⟩ := eqV_spec c.out
  simp only [execOp, hρ x _ hx, hρ y _ hy]
  rw [sl_bind, sl_eqGuard e2]
  have h := sl_eqIn 20 Op.maxDepth t ks e3 (by decide) xs ys kx ky
  unfold valOf at h
  rw [e1] at h
  simp only [if_true] at h
  simp only [binOp, Op.equal, sl_bind, h, sl_pure]
  exact ⟨trivial, trivial⟩
theorem q_neagg [c : EQ P t ks] (hx : ev fr x = some (.agg (List.toArray xs))) (hy : ev fr y = some (.agg (List.toArray ys))) (kx : AllK ks xs) (ky : AllK ks ys) : OpQ P ro N fr R ⟨d, .binOp .neq t x y t2, ty, pos, aft, g⟩ (.bool (!eqCells xs ys)) := opQ_of_sl rfl fun ρ l hρ _ => by
  obtain ⟨e1, e2, e3⟩ := eqV_spec c.out
  simp only [execOp, hρ x _ hx, hρ y _ hy]
  rw [sl_bind, sl_eqGuard e2]
  have h := sl_eqIn 20 Op.maxDepth t ks e3 (by decide) xs ys kx ky
  unfold valOf at h
  rw [e1] at h
  simp only [if_true] at h
  simp only [binOp, Op.equal, sl_bind, h, sl_pure]
  exact ⟨trivial, trivial⟩
theorem q_eqself [c : EQ P t ks] (hx : ev fr x = some (.agg (List.toArray xs))) (hy : ev fr y = some (.agg (List.toArray xs))) (kx : AllK ks xs) : OpQ P ro N fr R ⟨d, .binOp .eql t x y t2, ty, pos, aft, g⟩ (.bool true) := by
  have := q_eqagg (P := P) (ro := ro) (N := N) (R := R) (d := d) (ty := ty) (pos := pos) (aft := aft) (g := g) (t2 := t2) (c := c) hx hy kx kx
  rwa [eqCells_self kx] at this
theorem q_neself [c : EQ P t ks] (hx : ev fr x = some (.agg (List.toArray xs))) (hy : ev fr y = some (.agg (List.toArray xs))) (kx : AllK ks xs) : OpQ P ro N fr R ⟨d, .binOp .neq t x y t2, ty, pos, aft, g⟩ (.bool false) := by
  have := q_neagg (P := P) (ro := ro) (N := N) (R := R) (d := d) (ty := ty) (pos := pos) (aft := aft) (g := g) (t2 := t2) (c := c) hx hy kx kx
  rwa [eqCells_self kx] at this
end
def allKb : List (Option IntKind) → List Value → Bool
  | [], [] => true
  | some k :: ks, .int k' _ :: cs => decide (k = k') && allKb ks cs
  | none :: ks, .bool _ :: cs => allKb ks cs
  | _, _ => false
theorem allK_of : ∀ {ks : List (Option IntKind)} {cs : List Value}, allKb ks cs = true → AllK ks cs
  | [], [], _ => rfl
  | some k :: ks, .int k' a :: cs, h => by
    simp only [allKb, Bool.and_eq_true, decide_eq_true_eq] at h
    exact ⟨_, _, rfl, ⟨a, by rw [h.1]⟩, allK_of h.2⟩
  | none :: ks, .bool b :: cs, h => ⟨_, _, rfl, ⟨b, rfl⟩, allK_of h⟩
end Go.Proofs.YtffmibmefmbdjaaDoor

/- Pointers compared; maps whose keys are flat structs. Laws of my own, no program's. -/
set_option linter.unusedVariables false
set_option linter.unusedSimpArgs false
namespace Go.Proofs.YtffmibmefmbdjaaDoor
open Go.RowKit

theorem eqCells_iff : ∀ {ks : List (Option IntKind)} {a b : List Value}, AllK ks a → AllK ks b → (eqCells a b = true ↔ a = b)
  | [], a, b, h, h' => by cases h; cases h'; simp [eqCells]
  | none :: ks, a, b, h, h' => by
    obtain ⟨_, r, rfl, ⟨p, rfl⟩, h2⟩ := h
    obtain ⟨_, r', rfl, ⟨p', rfl⟩, h2'⟩ := h'
    simp [eqCells, eqCell, eqCells_iff h2 h2']
  | some k :: ks, a, b, h, h' => by
    obtain ⟨_, r, rfl, ⟨p, rfl⟩, h2⟩ := h
    obtain ⟨_, r', rfl, ⟨p', rfl⟩, h2'⟩ := h'
    simp [eqCells, eqCell, eqCells_iff h2 h2']
/-- an entry: the key, the value, the stamp -/
abbrev EntS (κ : Type) := κ × Value × Nat
def mkS {κ : Type} (enc : κ → List Value) (x : EntS κ) : MapEntry := { key := .agg (List.toArray (enc x.1)), val := x.2.1, born := x.2.2 }
abbrev mapS {κ : Type} (enc : κ → List Value) (es : List (EntS κ)) (clock : Nat) : Obj := .map (List.toArray (es.map (mkS enc))) clock
theorem modify_mid {α : Type} (f : α → α) (e : α) (B : List α) : ∀ (A : List α), (A ++ e :: B).modify A.length f = A ++ f e :: B
  | [] => rfl
  | x :: A => by rw [List.cons_append, List.length_cons, List.modify_succ_cons, modify_mid f e B A]; rfl
section
variable {κ : Type} [DecidableEq κ]
def findS (a : κ) : List (EntS κ) → Nat → Option (Nat × Value)
  | [], _ => none
  | e :: es, i => if a = e.1 then some (i, e.2.1) else findS a es (i + 1)
def getS (a : κ) (es : List (EntS κ)) : Option Value := (findS a es 0).map Prod.snd
def setS (a : κ) (v : Value) (clock : Nat) (es : List (EntS κ)) : List (EntS κ) × Nat := match findS a es 0 with
  | some (i, _) => (es.modify i fun x => (x.1, v, x.2.2), clock)
  | none => (es ++ [(a, v, clock)], clock + 1)
def delS (a : κ) (es : List (EntS κ)) : List (EntS κ) := match findS a es 0 with
  | some (i, _) => es.eraseIdx i
  | none => es
theorem findS_add (a : κ) : ∀ (es : List (EntS κ)) (i : Nat), findS a es i = (findS a es 0).map fun p => (p.1 + i, p.2)
  | [], i => rfl
  | e :: es, i => by
    unfold findS
    split
    · simp
    · rw [findS_add a es (i + 1), findS_add a es (0 + 1)]
      cases findS a es 0 with
      | none => rfl
      | some p => simp; omega
theorem getS_cons (a : κ) (e : EntS κ) (es : List (EntS κ)) : getS a (e :: es) = if a = e.1 then some e.2.1 else getS a es := by
  unfold getS
  rw [findS]
  split
  · rfl
  · rw [findS_add, Option.map_map]; cases findS a es 0 <;> rfl
theorem findS_some {a : κ} : ∀ {es : List (EntS κ)} {k : Nat} {v : Value}, findS a es 0 = some (k, v) → ∃ A e B, es = A ++ e :: B ∧ A.length = k ∧ e.1 = a ∧ e.2.1 = v ∧ ∀ x ∈ A, x.1 ≠ a
  | [], k, v, h => by cases h
  | e :: es, k, v, h => by
    rw [findS] at h
    split at h
    · rename_i ha
      cases h
      exact ⟨[], e, es, rfl, rfl, ha.symm, rfl, by simp⟩
    · rename_i ha
      rw [findS_add] at h
      cases h2 : findS a es 0 with
      | none => rw [h2] at h; cases h
      | some p =>
        obtain ⟨k', v'⟩ := p
        rw [h2] at h
        cases h
        obtain ⟨A, e', B, h3, h4, h5, h6, h7⟩ := findS_some h2
        refine ⟨e :: A, e', B, by rw [h3]; rfl, by simp [h4], h5, h6, fun x hx => ?_⟩
        rcases List.mem_cons.1 hx with rfl | hx
        · exact fun e' => ha e'.symm
        · exact h7 x hx
theorem findS_none {a : κ} : ∀ {es : List (EntS κ)}, findS a es 0 = none ↔ ∀ e ∈ es, e.1 ≠ a
  | [] => by simp [findS]
  | e :: es => by
    rw [findS]
    split
    · rename_i h; simp [h]
    · rename_i h
      rw [findS_add, Option.map_eq_none_iff, findS_none]
      simp only [List.mem_cons, forall_eq_or_imp]
      exact ⟨fun h2 => ⟨fun e' => h e'.symm, h2⟩, fun h2 => h2.2⟩
theorem getS_append (a : κ) (A B : List (EntS κ)) : getS a (A ++ B) = (getS a A).or (getS a B) := by
  induction A with
  | nil => rfl
  | cons e A ih => rw [List.cons_append, getS_cons, getS_cons, ih]; split <;> rfl
theorem getS_set (a b : κ) (v : Value) (clock : Nat) (es : List (EntS κ)) : getS b (setS a v clock es).1 = if b = a then some v else getS b es := by
  unfold setS
  cases h : findS a es 0 with
  | none =>
    simp only
    rw [getS_append, getS_cons]
    split
    · rename_i e; subst e
      unfold getS; rw [h]; rfl
    · simp [getS, findS]
  | some p =>
    obtain ⟨k, u⟩ := p
    obtain ⟨A, e, B, rfl, rfl, h1, h2, h3⟩ := findS_some h
    simp only
    have hm : (A ++ e :: B).modify A.length (fun x => (x.1, v, x.2.2)) = A ++ (e.1, v, e.2.2) :: B := modify_mid _ e B A
    rw [hm, getS_append, getS_append, getS_cons, getS_cons, h1]
    by_cases e' : b = a
    · have : getS b A = none := by unfold getS; rw [e', findS_none.2 h3]; rfl
      rw [this, if_pos e', if_pos e']; rfl
    · rw [if_neg e', if_neg e', if_neg e']
structure KeysOk (es : List (EntS κ)) (clock : Nat) : Prop where
  keys : (es.map (·.1)).Nodup
  stamps : (es.map (·.2.2)).Nodup
  below : ∀ e ∈ es, e.2.2 < clock
theorem KeysOk.set {es : List (EntS κ)} {clock : Nat} (h : KeysOk es clock) (a : κ) (v : Value) : KeysOk (setS a v clock es).1 (setS a v clock es).2 := by
  unfold setS
  cases hf : findS a es 0 with
  | none =>
    have hn := findS_none.1 hf
    simp only
    refine ⟨?_, ?_, fun e he => ?_⟩
    · rw [List.map_append, List.nodup_append]
      exact ⟨h.keys, by simp, fun x hx y hy e => by
        obtain ⟨z, hz, rfl⟩ := List.mem_map.1 hx
        have : y = a := by simpa using hy
        exact hn z hz (by rw [e, this])⟩
    · rw [List.map_append, List.nodup_append]
      exact ⟨h.stamps, by simp, fun x hx y hy e => by
        obtain ⟨z, hz, rfl⟩ := List.mem_map.1 hx
        have h1 : y = clock := by simpa using hy
        have h2 := h.below z hz
        omega⟩
    · rcases List.mem_append.1 he with he | he
      · exact Nat.lt_succ_of_lt (h.below e he)
      · rw [List.mem_singleton.1 he]; exact Nat.lt_succ_self _
  | some p =>
    obtain ⟨k, u⟩ := p
    obtain ⟨A, e, B, rfl, rfl, h1, h2, h3⟩ := findS_some hf
    have hm : (A ++ e :: B).modify A.length (fun x => (x.1, v, x.2.2)) = A ++ (e.1, v, e.2.2) :: B := modify_mid _ e B A
    simp only
    rw [hm]
    refine ⟨by simpa using h.keys, by simpa using h.stamps, fun x hx => ?_⟩
    rcases List.mem_append.1 hx with hx | hx
    · exact h.below x (List.mem_append_left _ hx)
    · rcases List.mem_cons.1 hx with rfl | hx
      · exact h.below e (List.mem_append_right _ List.mem_cons_self)
      · exact h.below x (List.mem_append_right _ (List.mem_cons_of_mem _ hx))
theorem KeysOk.del {es : List (EntS κ)} {clock : Nat} (h : KeysOk es clock) (a : κ) : KeysOk (delS a es) clock := by
  unfold delS
  split
  · have hs : (es.eraseIdx ‹_›).Sublist es := List.eraseIdx_sublist ..
    exact ⟨h.keys.sublist (hs.map _), h.stamps.sublist (hs.map _), fun e he => h.below e (hs.subset he)⟩
  · exact h
theorem getS_del {es : List (EntS κ)} {clock : Nat} (h : KeysOk es clock) (a b : κ) : getS b (delS a es) = if b = a then none else getS b es := by
  unfold delS
  cases hf : findS a es 0 with
  | none =>
    simp only
    split
    · rename_i e; subst e; unfold getS; rw [hf]; rfl
    · rfl
  | some p =>
    obtain ⟨k, u⟩ := p
    obtain ⟨A, e, B, rfl, rfl, h1, h2, h3⟩ := findS_some hf
    have hk := h.keys
    rw [List.map_append, List.map_cons, List.nodup_append] at hk
    obtain ⟨_, hk2, _⟩ := hk
    rw [List.nodup_cons] at hk2
    have he : (A ++ e :: B).eraseIdx A.length = A ++ B := by
      rw [List.eraseIdx_append_of_length_le (Nat.le_refl _), Nat.sub_self]; rfl
    simp only
    rw [he, getS_append, getS_append, getS_cons, h1]
    by_cases e' : b = a
    · rw [if_pos e']
      have n1 : getS b A = none := by unfold getS; rw [e', findS_none.2 h3]; rfl
      have n2 : getS b B = none := by
        unfold getS
        rw [e', findS_none.2 fun x hx hxe => hk2.1 (List.mem_map.2 ⟨x, hx, by rw [hxe, h1]⟩)]; rfl
      rw [n1, n2]; rfl
    · rw [if_neg e', if_neg e']
end
section
variable {P : Program} {ro : Option Nat} {N : Nat} {fr : Fr} {R l : List Chunk} {d : Option Nat} {ty : TypeId} {pos : String} {aft : Array Edge} {g : Option (Nat × Bool)} {x y z : Operand} {v u w : Value} {b m n : Nat} {t t2 T kt et : TypeId}
/-- pointers to blocks -/
theorem run_eqp {tp te : TypeId} {j : TypeInfo} {p q : Addr} {ca cb : Array Value} {ta tb : TypeId} {W : World} (hp : P.underlying tp = some (.pointer te)) (hte : P.info? te = some j) (hsz : j.size ≠ 0) (ha : W.heap[p.block]? = some (.cells ca ta (0, 0))) (hb : W.heap[q.block]? = some (.cells cb tb (0, 0))) :
    (binOp .eql tp (.pointer (some p)) (.pointer (some q))).run P W = .ok (.bool (decide (p = q))) W := by
  by_cases h : p = q
  · subst h; rw [run_eql_ptr_same W p hp hte, decide_eq_true rfl]
  · rw [run_eql_ptr_other W hp hte hsz h ha hb, decide_eq_false h]
theorem run_nep {tp te : TypeId} {j : TypeInfo} {p q : Addr} {ca cb : Array Value} {ta tb : TypeId} {W : World} (hp : P.underlying tp = some (.pointer te)) (hte : P.info? te = some j) (hsz : j.size ≠ 0) (ha : W.heap[p.block]? = some (.cells ca ta (0, 0))) (hb : W.heap[q.block]? = some (.cells cb tb (0, 0))) :
    (binOp .neq tp (.pointer (some p)) (.pointer (some q))).run P W = .ok (.bool (!decide (p = q))) W := by
  have h : ∀ d : Nat, (Op.equalIn (d + 1) tp (.pointer (some p)) (.pointer (some q))).run P W = .ok (decide (p = q)) W := fun d => by
    by_cases h : p = q
    · subst h; simp [Op.equalIn, run_underlying hp, sizeOf, typeInfo, hte, run_sameAddr_same]
    · simp [Op.equalIn, run_underlying hp, sizeOf, typeInfo, hte, hsz, run_sameAddr_other W h ha hb, h]
  simp only [binOp]
  simp [Op.equal, Op.maxDepth, h 9999]
theorem q_eqptr {e : Nat} {p q : Addr} {ca cb : Array Value} {ta tb : TypeId} (hx : ev fr x = some (.pointer (some p))) (hy : ev fr y = some (.pointer (some q))) [c : PT P t e] [oc : AG P e n] (hsz : n ≠ 0) (ha : (p.block, Obj.cells ca ta (0, 0)) ∈ R) (hb : (q.block, Obj.cells cb tb (0, 0)) ∈ R) :
    OpQ P ro N fr R ⟨d, .binOp .eql t x y t2, ty, pos, aft, g⟩ (.bool (decide (p = q))) := ⟨fun l hR => ⟨rfl, fun E a W hf hs => by
  have hρ := hf.agrees
  obtain ⟨uu, inf, _, _, hi, hz⟩ := agV_spec oc.out
  have hex : execOp a.eval ⟨d, .binOp .eql t x y t2, ty, pos, aft, g⟩ = (do pure (.value (← binOp .eql t (.pointer (some p)) (.pointer (some q)))) : Sem Next) := by
    simp only [execOp, hρ x _ hx, hρ y _ hy, eqGuard_ptr, pure_bind]
  unfold OpVal
  rw [hex, Sem.run_bind, run_eqp (ptV_spec c.out) hi (by rw [hz]; exact hsz) (hs.has _ (hR _ ha)) (hs.has _ (hR _ hb))]
  exact ⟨l, ⟨rfl, rfl⟩, hs⟩⟩⟩
theorem q_neptr {e : Nat} {p q : Addr} {ca cb : Array Value} {ta tb : TypeId} (hx : ev fr x = some (.pointer (some p))) (hy : ev fr y = some (.pointer (some q))) [c : PT P t e] [oc : AG P e n] (hsz : n ≠ 0) (ha : (p.block, Obj.cells ca ta (0, 0)) ∈ R) (hb : (q.block, Obj.cells cb tb (0, 0)) ∈ R) :
    OpQ P ro N fr R ⟨d, .binOp .neq t x y t2, ty, pos, aft, g⟩ (.bool (!decide (p = q))) := ⟨fun l hR => ⟨rfl, fun E a W hf hs => by
  have hρ := hf.agrees
  obtain ⟨uu, inf, _, _, hi, hz⟩ := agV_spec oc.out
  have hex : execOp a.eval ⟨d, .binOp .neq t x y t2, ty, pos, aft, g⟩ = (do pure (.value (← binOp .neq t (.pointer (some p)) (.pointer (some q)))) : Sem Next) := by
    simp only [execOp, hρ x _ hx, hρ y _ hy, eqGuard_ptr, pure_bind]
  unfold OpVal
  rw [hex, Sem.run_bind, run_nep (ptV_spec c.out) hi (by rw [hz]; exact hsz) (hs.has _ (hR _ ha)) (hs.has _ (hR _ hb))]
  exact ⟨l, ⟨rfl, rfl⟩, hs⟩⟩⟩
end
end Go.Proofs.YtffmibmefmbdjaaDoor
