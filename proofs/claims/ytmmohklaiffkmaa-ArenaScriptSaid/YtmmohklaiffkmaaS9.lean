/- Slices that are owned: made, appended to. Laws of my own, no program's. -/
import Derived.Test.YtmmohklaiffkmaaS8
import Derived.Laws.AppendOwn
set_option linter.unusedVariables false
set_option linter.unusedSimpArgs false
namespace Go.Proofs.Ytmmohklaiffkmaa
open Go.RowKit

/-- v is a slice of n elements of k cells each, xs, and owns the blocks cs -/
def OwnSl (e k : Nat) (v : Value) (n : Nat) (xs : List Value) (cs : List Chunk) : Prop :=
  xs.length = n * k ∧ ((v = .slice none 0 0 ∧ n = 0 ∧ cs = []) ∨ (∃ b cap sp, v = .slice (some ⟨b, 0, none⟩) n cap ∧ cs = [(b, .cells (List.toArray (xs ++ sp)) e (0, 0))] ∧ n ≤ cap ∧ cap ≤ maxLen ∧ (xs ++ sp).length = cap * k))
theorem OwnSl.nil (e k : Nat) : OwnSl e k (.slice none 0 0) 0 [] [] := ⟨by simp, .inl ⟨rfl, rfl, rfl⟩⟩

section
variable {P : Program} {ro : Option Nat} {N : Nat} {fr : Fr} {R l : List Chunk} {K : Value → List Chunk → Prop} {d : Option Nat} {ty : TypeId} {pos : String} {aft : Array Edge} {g : Option (Nat × Bool)} {x y z : Operand} {v u w : Value} {b off : Nat} {t t2 : TypeId}

theorem Sat.row {E W : World} {cs cs' : Array Value} {e : TypeId} {fz : Nat × Nat} {F : List Chunk} (h : Sat E ((b, .cells cs e fz) :: F) W) : Sat E ((b, .cells cs' e fz) :: F) (W.setRow b cs') := by
  refine ⟨h.os, h.tape, h.output, h.nodup, fun c hc => ?_⟩
  rcases List.mem_cons.1 hc with rfl | hc'
  · exact setRow_heap W b cs cs' e fz (h.has _ List.mem_cons_self)
  · have hn := h.nodup
    rw [List.map_cons, List.nodup_cons] at hn
    have hne : c.1 ≠ b := fun e => hn.1 (List.mem_map.2 ⟨c, hc', e⟩)
    rw [setRow_other W b c.1 cs' hne]
    exact h.has c (List.mem_cons_of_mem _ hc')
theorem ce_append {s x : Operand} {T e k yb n m cp : Nat} {xs news zs : List Value} {cs F : List Chunk} {cl : Array Value} {ct : TypeId} {fz : Nat × Nat} (hx : ev fr s = some v) (hy : ev fr x = some (.slice (some ⟨b, off, none⟩) m cp)) [c : ST P T e k yb] [cz : ZV P e zs] (hzs : zs.length = k)
    (hown : OwnSl e k v n xs cs) (hm : (b, Obj.cells cl ct fz) ∈ cs ++ F) (hnews : ∀ j u, news[j]? = some u → cl[off + j]? = some u) (hnl : news.length = m * k) (h1 : ∀ u ∈ news, u.oneCell' = true) (h63 : n + m ≤ maxLen) (hby : (n + m) * yb ≤ 140737488355328) :
    OpE P ro N fr (cs ++ F) ⟨d, .call { callee := .builtin .append, args := #[s, x], argTypes := #[T, T] }, ty, pos, aft, g⟩ (fun v' l' => ∃ cs', OwnSl e k v' (n + m) (xs ++ news) cs' ∧ l' = cs' ++ F) := by
  refine ⟨rfl, fun E a W hf hs => ?_⟩
  have hρ := hf.agrees
  obtain ⟨inf, u1, u2, u3, u4⟩ := stV_spec c.out
  obtain ⟨inf', zv, z1, z2, z3⟩ := zvV_spec cz.out
  rw [u2] at z1
  cases z1
  have hex : execOp a.eval ⟨d, .call { callee := .builtin .append, args := #[s, x], argTypes := #[T, T] }, ty, pos, aft, g⟩ = (do pure (.value (← Builtin.append_ #[T, T] ty #[v, .slice (some ⟨b, off, none⟩) m cp])) : Sem Next) := by
    simp [execOp, resolve, hρ s _ hx, hρ x _ hy, invoke, builtin]
  unfold OpVal
  rw [hex, Sem.run_bind]
  have hnw : ∀ j u, news[j]? = some u → W.cell? ((⟨b, off, none⟩ : Addr).add j) = some u := fun j u hj => by rw [addr_add, hs.cell hm]; exact hnews j u hj
  have hn' : news.length = m * inf.size := by rw [u3]; exact hnl
  have hmx : n + m ≤ 9223372036854775807 := by simp only [maxLen] at h63; omega
  have hlen : (xs ++ news).length = (n + m) * k := by rw [List.length_append, hown.1, hnl, Nat.add_mul]
  -- what a new row holds
  have fresh : ∀ (old : Nat) (W0 : World), Sat E F W0 → W0.heap = W.heap → ∃ cs', OwnSl e k (.slice (some ⟨W.heap.size, 0, none⟩) (n + m) (grownCap W (n + m) old e)) (n + m) (xs ++ news) cs' ∧ Sat E (cs' ++ F) (W0.drew.alloc (.cells (List.toArray (xs ++ news) ++ Builtin.zeroCells zv.cells (grownCap W (n + m) old e - (n + m))) e)) := by
    intro old W0 hs0 hh
    refine ⟨_, ⟨hlen, .inr ⟨W.heap.size, _, (Builtin.zeroCells zv.cells (grownCap W (n + m) old e - (n + m))).toList, rfl, rfl, grownCap_ge _ _ _ _, grownCap_le_maxLen _ _ _ _ h63, ?_⟩⟩, ?_⟩
    · rw [List.length_append, hlen, Array.length_toList, size_zeroCells]
      have hzz : zv.cells.size = k := by rw [← hzs, ← z3]; simp
      rw [hzz, ← Nat.add_mul]
      congr 1
      have := grownCap_ge W (n + m) old e
      omega
    · have h2 := hs0.drew.alloc (.cells (List.toArray (xs ++ news) ++ Builtin.zeroCells zv.cells (grownCap W (n + m) old e - (n + m))) e)
      have e1 : W0.drew.heap.size = W.heap.size := by show W0.heap.size = _; rw [hh]
      rw [e1] at h2
      have e2 : List.toArray (xs ++ news ++ (Builtin.zeroCells zv.cells (grownCap W (n + m) old e - (n + m))).toList) = List.toArray (xs ++ news) ++ Builtin.zeroCells zv.cells (grownCap W (n + m) old e - (n + m)) := by
        apply Array.toList_inj.1; simp
      rw [e2]
      exact h2
  rcases hown.2 with ⟨rfl, rfl, rfl⟩ | ⟨gb, cap, sp, rfl, rfl, hnc, hcm, hcl⟩
  · have hx0 : xs = [] := List.eq_nil_of_length_eq_zero (by simpa using hown.1)
    subst hx0
    by_cases hm0 : m = 0
    · subst hm0
      have hn0 : news = [] := List.eq_nil_of_length_eq_zero (by simpa using hnl)
      subst hn0
      have hr : (Builtin.append_ #[T, T] ty #[.slice none 0 0, .slice (some ⟨b, off, none⟩) 0 cp]).run P W = .ok (.slice none 0 0) W := by
        simp [Builtin.append_, run_underlying u1, sizeOf, typeInfo, u2, Builtin.lenOf, Builtin.firstCells, loadCells, loadCellsFrom]
      rw [hr]
      exact ⟨_, ⟨[], OwnSl.nil e k, rfl⟩, hs⟩
    · have hr := run_append_nil (P := P) W T ty e inf zv u1 u2 z2 ⟨b, off, none⟩ m cp news hn' hnw (by omega) (by omega) (by rw [u4]; simp only [Nat.zero_add] at hby; omega)
      rw [hr]
      obtain ⟨cs', k1, k2⟩ := fresh 0 W hs rfl
      simp only [Nat.zero_add, List.nil_append] at k1 k2
      refine ⟨_, ⟨cs', ?_, rfl⟩, k2⟩
      simpa using k1
  · by_cases hroom : n + m ≤ cap
    · have hg := hs.has (gb, _) (List.mem_append_left _ List.mem_cons_self)
      have hr := run_append_room (P := P) W T ty e inf u1 u2 gb n cap (List.toArray (xs ++ sp)) hg ⟨b, off, none⟩ m cp news hn' hnw h1 hroom (by
        rw [hn', u3, ← Nat.add_mul]
        simp only [List.size_toArray]
        rw [hcl]
        exact Nat.mul_le_mul_right _ hroom)
      rw [hr]
      have e1 : (List.toArray (xs ++ sp)).toList.take (n * inf.size) = xs := by
        rw [u3, ← hown.1]
        show (xs ++ sp).take xs.length = xs
        simp
      rw [e1]
      refine ⟨_, ⟨_, ⟨hlen, .inr ⟨gb, cap, (List.toArray (xs ++ sp)).toList.drop (n * inf.size + news.length), rfl, rfl, hroom, hcm, ?_⟩⟩, rfl⟩, ?_⟩
      · have h3 : (xs ++ sp).length = cap * k := hcl
        have h4 : n * k + news.length ≤ cap * k := by rw [hnl, ← Nat.add_mul]; exact Nat.mul_le_mul_right _ hroom
        rw [List.length_append, hlen, List.length_drop]
        show (n + m) * k + ((xs ++ sp).length - (n * inf.size + news.length)) = cap * k
        rw [h3, u3, hnl, ← Nat.add_mul]
        have := Nat.mul_le_mul_right k hroom
        omega
      · exact hs.row
    · have hs' : Sat E F W := hs.tail
      have hold : ∀ j u, xs[j]? = some u → W.cell? ((⟨gb, 0, none⟩ : Addr).add j) = some u := fun j u hj => by
        rw [addr_add, hs.cell (List.mem_append_left _ List.mem_cons_self), Nat.zero_add]
        have hlt := (List.getElem?_eq_some_iff.1 hj).1
        simp only [List.getElem?_toArray]
        rw [List.getElem?_append_left hlt]
        exact hj
      have hr := run_append_grow (P := P) W T ty e inf zv u1 u2 z2 ⟨gb, 0, none⟩ n cap xs (by rw [u3]; exact hown.1) hold ⟨b, off, none⟩ m cp news hn' hnw (by omega) (by omega) (growslice_fits (by omega) (by rw [u4]; exact hby))
      rw [hr]
      obtain ⟨cs', k1, k2⟩ := fresh cap W hs' rfl
      refine ⟨_, ⟨cs', k1, rfl⟩, ?_⟩
      have e3 : xs.toArray ++ news.toArray = List.toArray (xs ++ news) := by simp
      rw [e3]
      exact k2

theorem sl_buildSlice {T e k yb n : Nat} {ps : List (Nat × Value)} {zs cs : List Value} {Q : Value → List Chunk → Prop} (c : stV P T = some (e, k, yb)) (cz : zvV P e = some zs) (hzs : zs.length = k) (hk : 0 < n * k) (hsm : n * k ≤ 16777216)
    (hfill : Instr.fill (fun i => some (i * k, k)) (List.toArray (List.replicate n zs).flatten) ps = some (List.toArray cs)) (hQ : ∀ b, (∀ c, c ∈ l → c.1 ≠ b) → Q (.slice (some ⟨b, 0, none⟩) n n) ((b, .cells (List.toArray cs) e (0, 0)) :: l)) :
    sl P (Instr.buildSlice T n (List.toArray ps)) l Q := by
  obtain ⟨inf, u1, u2, u3, u4⟩ := stV_spec c
  obtain ⟨inf', zv, z1, z2, z3⟩ := zvV_spec cz
  rw [u2] at z1; cases z1
  unfold Instr.buildSlice
  rw [sl_under u1]
  simp only
  rw [sl_sizeOf u2, u3]
  rw [if_neg (by omega)]
  simp only [show ¬ n * k = 0 by omega, if_false, sl_bind, zeroValue]
  rw [← sl_bind, sl_info u2, z2]
  simp only [sl_pure]
  have hzv : zv.cells = List.toArray zs := by rw [← z3]
  have hcells : (Array.range (n * k)).map (fun j => zv.cells[j % zv.cells.size]!) = List.toArray (List.replicate n zs).flatten := by
    have hk0 : 0 < k := Nat.pos_of_ne_zero fun e => by subst e; simp at hk
    apply Array.toList_inj.1
    apply List.ext_getElem?
    intro j
    rw [hzv]
    have hl : (List.replicate n zs).flatten.length = n * k := by simp [hzs]
    by_cases hj : j < n * k
    · have : (List.replicate n zs).flatten[j]? = zs[j % k]? := by
        clear hfill hQ hl hsm hk
        induction n generalizing j with
        | zero => omega
        | succ n ih =>
          rw [List.replicate_succ, List.flatten_cons]
          by_cases hjk : j < k
          · rw [List.getElem?_append_left (by omega), Nat.mod_eq_of_lt hjk]
          · rw [List.getElem?_append_right (by omega), hzs, ih (j - k) (by have := Nat.succ_mul n k; simp only [Nat.succ_eq_add_one] at this; omega), ← Nat.mod_eq_sub_mod (by omega)]
      simp only [Array.toList_map, Array.toList_range, List.getElem?_map, List.getElem?_range hj, Option.map_some]
      rw [this]
      have hlt : j % k < zs.length := by rw [hzs]; exact Nat.mod_lt _ hk0
      simp [hzs, List.getElem?_eq_getElem hlt, List.getElem!_eq_getElem?_getD]
    · rw [List.getElem?_eq_none (by simp; omega), List.getElem?_eq_none (by rw [hl]; omega)]
  rw [hcells, hfill]
  simp only [newRow, sl_bind]
  intro b hb
  exact hQ b hb
/-- a slice of one element of one cell -/
theorem e_lit1 {T e yb : Nat} {y : Operand} {z0 : Value} (hy : ev fr y = some v) (h1 : v.oneCell' = true) [c : ST P T e 1 yb] [cz : ZV P e [z0]] : OpE P ro N fr l ⟨d, .buildSlice T 1 #[(0, y)], ty, pos, aft, g⟩ (fun v' l' => ∃ b, (∀ c, c ∈ l → c.1 ≠ b) ∧ v' = .slice (some ⟨b, 0, none⟩) 1 1 ∧ l' = (b, .cells (List.toArray [v]) e (0, 0)) :: l) := opE_of_sl rfl fun ρ hρ => by
  simp only [execOp, sl_bind]
  have e : (#[(0, y)] : Array (Nat × Operand)).map (fun (i, x) => (i, ρ x)) = List.toArray [(0, v)] := by simp [hρ y _ hy]
  rw [e]
  refine sl_buildSlice (cs := [v]) c.out cz.out rfl (by omega) (by omega) ?_ fun b hb => ⟨b, hb, rfl, rfl⟩
  simp [Instr.fill, oc1_cells h1]
/-- a slice of one element that is a struct -/
theorem e_litA {T e k yb : Nat} {y : Operand} {zs ws : List Value} (hy : ev fr y = some (.agg (List.toArray ws))) [c : ST P T e k yb] [cz : ZV P e zs] (hz : zs.length = k) (hw : ws.length = k) (hk : 0 < k) (hk2 : k ≤ 16777216) : OpE P ro N fr l ⟨d, .buildSlice T 1 #[(0, y)], ty, pos, aft, g⟩ (fun v' l' => ∃ b, (∀ c, c ∈ l → c.1 ≠ b) ∧ v' = .slice (some ⟨b, 0, none⟩) 1 1 ∧ l' = (b, .cells (List.toArray ws) e (0, 0)) :: l) := opE_of_sl rfl fun ρ hρ => by
  simp only [execOp, sl_bind]
  have e : (#[(0, y)] : Array (Nat × Operand)).map (fun (i, x) => (i, ρ x)) = List.toArray [(0, .agg (List.toArray ws))] := by simp [hρ y _ hy]
  rw [e]
  refine sl_buildSlice (cs := ws) c.out cz.out hz (by omega) (by omega) ?_ fun b hb => ⟨b, hb, rfl, rfl⟩
  unfold Instr.fill
  have e2 : (Value.agg (List.toArray ws)).cells = List.toArray ws := rfl
  simp only [e2]
  rw [if_neg (by simp [hw, hz])]
  rw [array_zip_set]
  unfold Instr.fill
  congr 1
  have key : ∀ (vs pre cs : List Value), vs.length = cs.length → setFrom (List.toArray (pre ++ cs)) pre.length vs = List.toArray (pre ++ vs) := by
    intro vs
    induction vs with
    | nil => intro pre cs h; have : cs = [] := List.eq_nil_of_length_eq_zero (by simpa using h.symm); subst this; rfl
    | cons v vs ih =>
      intro pre cs h
      cases cs with
      | nil => simp at h
      | cons c cs =>
        simp only [setFrom, List.setIfInBounds_toArray]
        rw [List.set_append_right _ _ (Nat.le_refl _)]
        simp only [Nat.sub_self, List.set_cons_zero]
        have := ih (pre ++ [v]) cs (by simpa using h)
        simpa using this
  have := key ws [] zs (by omega)
  simpa using this
end
theorem OwnSl.one {e k n : Nat} {v : Value} {xs : List Value} {cs : List Chunk} (h : OwnSl e k v n xs cs) : v.oneCell' = true := by
  rcases h.2 with ⟨rfl, _⟩ | ⟨b, cap, sp, rfl, _⟩ <;> rfl
theorem Keep.dropL {L l : List Chunk} (cs : List Chunk) (k : Keep L l) : Keep (cs ++ L) l := by
  induction cs with
  | nil => exact k
  | cons c cs ih => exact .drop ih
theorem OwnSl.shape {e k n : Nat} {v : Value} {xs : List Value} {cs : List Chunk} (h : OwnSl e k v n xs cs) : ∃ p cap, v = .slice p n cap := by
  rcases h.2 with ⟨rfl, rfl, _⟩ | ⟨b, cap, sp, rfl, _⟩
  · exact ⟨_, _, rfl⟩
  · exact ⟨_, _, rfl⟩
section
variable {P : Program} {ro : Option Nat} {N : Nat} {E : World} {Q : Exit → Act → World → Prop} {fr : Fr} {ds : List Deferred} {l : List Chunk}
/-- ways that meet again -/
def JoinK (N : Nat) (E : World) {α : Type} (fx : α → Fr) (ds : List Deferred) (lx : α → List Chunk) (pre : α → Prop) (a : Act) (W : World) : Prop :=
  ∃ y, pre y ∧ FSat N (fx y) a ∧ a.defers = ds ∧ Sat E (lx y) W
theorem c_join {α : Type} {c1 c2 : Code} (fx : α → Fr) (lx : α → List Chunk) (pre : α → Prop) (h1 : CodeS P ro N E c1 (Exit.then (JoinK N E fx ds lx pre) Q) fr ds l) (h2 : ∀ x, pre x → CodeS P ro N E c2 Q (fx x) ds (lx x)) : CodeS P ro N E (.seq c1 c2) Q fr ds l :=
  ⟨fun a W hf hds hs => wpIn_seq (wpIn_mono (h1.run a W hf hds hs) fun e a' W' h => by
    cases e with
    | normal => obtain ⟨y, h3, h4, h5, h6⟩ := h; exact (h2 y h3).run a' W' h4 h5 h6
    | _ => exact h)⟩
theorem p_join {α : Type} {fx : α → Fr} {lx : α → List Chunk} {pre : α → Prop} (y : α) (h1 : pre y) (h3 : FSub (fx y) fr) (h4 : Keep l (lx y)) : PostS N E (Exit.then (JoinK N E fx ds lx pre) Q) .normal fr ds l :=
  ⟨fun a W hf hds hs => ⟨y, h1, hf.sub h3.spec, hds, h4.sat hs⟩⟩
end
theorem acts_cells {cs : Array Value} {k : Nat} {x y z : Value} (h : k + 3 ≤ cs.size) (e : cs.extract k (k + 3) = List.toArray [x, y, z]) : cs[k]? = some x ∧ cs[k + 1]? = some y ∧ cs[k + 2]? = some z := by
  have f : ∀ j, j < 3 → cs[k + j]? = [x, y, z][j]? := fun j hj => by
    have := congrArg (fun c => c[j]?) e
    simp only [Array.getElem?_extract, List.getElem?_toArray] at this
    rw [if_pos (by omega)] at this
    exact this
  exact ⟨f 0 (by omega), f 1 (by omega), f 2 (by omega)⟩

end Go.Proofs.Ytmmohklaiffkmaa
