/- Laws that the statement's proof leans on (joined out of several texts). -/
import Derived.Test.YtcjknmpogkofpaaGreatGm2
import Derived.Laws.AppendOwn
import Derived.Test.YtcjknmpogkofpaaGreatProg
import Derived.KernelRfl
set_option linter.unusedVariables false
set_option linter.unusedSimpArgs false
namespace Go.Proofs.YtcjknmpogkofpaaGreat
open Go.RowKit
def OwnSl (e k : Nat) (v : Value) (n : Nat) (xs : List Value) (cs : List Chunk) : Prop :=
  xs.length = n * k ∧ ((v = .slice none 0 0 ∧ n = 0 ∧ cs = []) ∨ (∃ b cap sp, v = .slice (some ⟨b, 0, none⟩) n cap ∧ cs = [(b, .cells (List.toArray (xs ++ sp)) e (0, 0))] ∧ n ≤ cap ∧ cap ≤ maxLen ∧ (xs ++ sp).length = cap * k))
theorem OwnSl.nil (e k : Nat) : OwnSl e k (.slice none 0 0) 0 [] [] := ⟨by simp, .inl ⟨rfl, rfl, rfl⟩⟩
section
variable {P : Program} {ro : Option Nat} {N : Nat} {fr : Fr} {R l : List Chunk} {K : Value → List Chunk → Prop} {d : Option Nat} {ty : TypeId} {pos : String} {aft : Array Edge} {g : Option (Nat × Bool)} {x y z : Operand} {v u w : Value} {b off : Nat} {t t2 : TypeId}
theorem Sat.row {E W : World} {cs cs' : Array Value} {e : TypeId} {fz : Nat × Nat} {F : List Chunk} (h : Sat E ((b, .cells cs e fz) :: F) W) : Sat E ((b, .cells cs' e fz) :: F) (W.setRow b cs') := by
  refine ⟨h.os, h.tape, h.output, h.nodup, fun c hc => ?_⟩
  rcases List.mem_cons.1 hc with rfl | hc'
  · exact setRow_heap W b cs cs' e fz (h.has _ List.mem_cons_self)
  · have hn := h.nodup
    rw [List.map_cons, List.nodup_cons] at hn
    have hne : c.1 ≠ b := fun e => hn.1 (List.mem_map.2 ⟨c, hc', e⟩)
    rw [setRow_other W b c.1 cs' hne]
    exact h.has c (List.mem_cons_of_mem _ hc')
theorem ce_append {s x : Operand} {T e k yb n m cp : Nat} {xs news zs : List Value} {cs F : List Chunk} {cl : Array Value} {ct : TypeId} {fz : Nat × Nat} (hx : ev fr s = some v) (hy : ev fr x = some (.slice (some ⟨b, off, none⟩) m cp)) [c : ST P T e k yb] [cz : ZV P e zs] (hzs : zs.length = k)
    (hown : OwnSl e k v n xs cs) (hm : (b, Obj.cells cl ct fz) ∈ cs ++ F) (hnews : ∀ j u, news[j]? = some u → cl[off + j]? = some u) (hnl : news.length = m * k) (h1 : ∀ u ∈ news, u.oneCell' = true) (h63 : n + m ≤ maxLen) (hby : (n + m) * yb ≤ 140737488355328) :
    OpE P ro N fr (cs ++ F) ⟨d, .call { callee := .builtin .append, args := #[s, x], argTypes := #[T, T] }, ty, pos, aft, g⟩ (fun v' l' => ∃ cs', OwnSl e k v' (n + m) (xs ++ news) cs' ∧ l' = cs' ++ F) := by
  refine ⟨rfl, fun E a W hf hs => ?_⟩
  have hρ := hf.agrees
  obtain ⟨inf, u1, u2, u3, u4⟩ := stV_spec c.out
  obtain ⟨inf', zv, z1, z2, z3⟩ := zvV_spec cz.out
  rw [u2] at z1
  cases z1
  have hex : execOp a.eval ⟨d, .call { callee := .builtin .append, args := #[s, x], argTypes := #[T, T] }, ty, pos, aft, g⟩ = (do pure (.value (← Builtin.append_ #[T, T] ty #[v, .slice (some ⟨b, off, none⟩) m cp])) : Sem Next) := by
    simp [execOp, resolve, hρ s _ hx, hρ x _ hy, invoke, builtin]
  unfold OpVal
  rw [hex, Sem.run_bind]
  have hnw : ∀ j u, news[j]? = some u → W.cell? ((⟨b, off, none⟩ : Addr).add j) = some u := fun j u hj => by rw [addr_add, hs.cell hm]; exact hnews j u hj
  have hn' : news.length = m * inf.size := by rw [u3]; exact hnl
  have hmx : n + m ≤ 9223372036854775807 := by simp only [maxLen] at h63; omega
  have hlen : (xs ++ news).length = (n + m) * k := by rw [List.length_append, hown.1, hnl, Nat.add_mul]
  have fresh : ∀ (old : Nat) (W0 : World), Sat E F W0 → W0.heap = W.heap → ∃ cs', OwnSl e k (.slice (some ⟨W.heap.size, 0, none⟩) (n + m) (grownCap W (n + m) old e)) (n + m) (xs ++ news) cs' ∧ Sat E (cs' ++ F) (W0.drew.alloc (.cells (List.toArray (xs ++ news) ++ Builtin.zeroCells zv.cells (grownCap W (n + m) old e - (n + m))) e)) := by
    intro old W0 hs0 hh
    refine ⟨_, ⟨hlen, .inr ⟨W.heap.size, _, (Builtin.zeroCells zv.cells (grownCap W (n + m) old e - (n + m))).toList, rfl, rfl, grownCap_ge _ _ _ _, grownCap_le_maxLen _ _ _ _ h63, ?_⟩⟩, ?_⟩
    · rw [List.length_append, hlen, Array.length_toList, size_zeroCells]
      have hzz : zv.cells.size = k := by rw [← hzs, ← z3]; simp
      rw [hzz, ← Nat.add_mul]
      congr 1
      have := grownCap_ge W (n + m) old e
      omega
    · have h2 := hs0.drew.alloc (.cells (List.toArray (xs ++ news) ++ Builtin.zeroCells zv.cells (grownCap W (n + m) old e - (n + m))) e)
      have e1 : W0.drew.heap.size = W.heap.size := by show W0.heap.size = _; rw [hh]
      rw [e1] at h2
      have e2 : List.toArray (xs ++ news ++ (Builtin.zeroCells zv.cells (grownCap W (n + m) old e - (n + m))).toList) = List.toArray (xs ++ news) ++ Builtin.zeroCells zv.cells (grownCap W (n + m) old e - (n + m)) := by
        apply Array.toList_inj.1; simp
      rw [e2]
      exact h2
  rcases hown.2 with ⟨rfl, rfl, rfl⟩ | ⟨gb, cap, sp, rfl, rfl, hnc, hcm, hcl⟩
  · have hx0 : xs = [] := List.eq_nil_of_length_eq_zero (by simpa using hown.1)
    subst hx0
    by_cases hm0 : m = 0
    · subst hm0
      have hn0 : news = [] := List.eq_nil_of_length_eq_zero (by simpa using hnl)
      subst hn0
      have hr : (Builtin.append_ #[T, T] ty #[.slice none 0 0, .slice (some ⟨b, off, none⟩) 0 cp]).run P W = .ok (.slice none 0 0) W := by
        simp [Builtin.append_, run_underlying u1, sizeOf, typeInfo, u2, Builtin.lenOf, Builtin.firstCells, loadCells, loadCellsFrom]
      rw [hr]
      exact ⟨_, ⟨[], OwnSl.nil e k, rfl⟩, hs⟩
    · have hr := run_append_nil (P := P) W T ty e inf zv u1 u2 z2 ⟨b, off, none⟩ m cp news hn' hnw (by omega) (by omega) (by rw [u4]; simp only [Nat.zero_add] at hby; omega)
      rw [hr]
      obtain ⟨cs', k1, k2⟩ := fresh 0 W hs rfl
      simp only [Nat.zero_add, List.nil_append] at k1 k2
      refine ⟨_, ⟨cs', ?_, rfl⟩, k2⟩
      simpa using k1
  · by_cases hroom : n + m ≤ cap
    · have hg := hs.has (gb, _) (List.mem_append_left _ List.mem_cons_self)
      have hr := run_append_room (P := P) W T ty e inf u1 u2 gb n cap (List.toArray (xs ++ sp)) hg ⟨b, off, none⟩ m cp news hn' hnw h1 hroom (by
        rw [hn', u3, ← Nat.add_mul]
        simp only [List.size_toArray]
        rw [hcl]
        exact Nat.mul_le_mul_right _ hroom)
      rw [hr]
      have e1 : (List.toArray (xs ++ sp)).toList.take (n * inf.size) = xs := by
        rw [u3, ← hown.1]
        show (xs ++ sp).take xs.length = xs
        simp
      rw [e1]
      refine ⟨_, ⟨_, ⟨hlen, .inr ⟨gb, cap, (List.toArray (xs ++ sp)).toList.drop (n * inf.size + news.length), rfl, rfl, hroom, hcm, ?_⟩⟩, rfl⟩, ?_⟩
      · have h3 : (xs ++ sp).length = cap * k := hcl
        have h4 : n * k + news.length ≤ cap * k := by rw [hnl, ← Nat.add_mul]; exact Nat.mul_le_mul_right _ hroom
        rw [List.length_append, hlen, List.length_drop]
        show (n + m) * k + ((xs ++ sp).length - (n * inf.size + news.length)) = cap * k
        rw [h3, u3, hnl, ← Nat.add_mul]
        have := Nat.mul_le_mul_right k hroom
        omega
      · exact hs.row
    · have hs' : Sat E F W := hs.tail
      have hold : ∀ j u, xs[j]? = some u → W.cell? ((⟨gb, 0, none⟩ : Addr).add j) = some u := fun j u hj => by
        rw [addr_add, hs.cell (List.mem_append_left _ List.mem_cons_self), Nat.zero_add]
        have hlt := (List.getElem?_eq_some_iff.1 hj).1
        simp only [List.getElem?_toArray]
        rw [List.getElem?_append_left hlt]
        exact hj
      have hr := run_append_grow (P := P) W T ty e inf zv u1 u2 z2 ⟨gb, 0, none⟩ n cap xs (by rw [u3]; exact hown.1) hold ⟨b, off, none⟩ m cp news hn' hnw (by omega) (by omega) (growslice_fits (by omega) (by rw [u4]; exact hby))
      rw [hr]
      obtain ⟨cs', k1, k2⟩ := fresh cap W hs' rfl
      refine ⟨_, ⟨cs', k1, rfl⟩, ?_⟩
      have e3 : xs.toArray ++ news.toArray = List.toArray (xs ++ news) := by simp
      rw [e3]
      exact k2
theorem sl_buildSlice {T e k yb n : Nat} {ps : List (Nat × Value)} {zs cs : List Value} {Q : Value → List Chunk → Prop} (c : stV P T = some (e, k, yb)) (cz : zvV P e = some zs) (hzs : zs.length = k) (hk : 0 < n * k) (hsm : n * k ≤ 16777216)
    (hfill : Instr.fill (fun i => some (i * k, k)) (List.toArray (List.replicate n zs).flatten) ps = some (List.toArray cs)) (hQ : ∀ b, (∀ c, c ∈ l → c.1 ≠ b) → Q (.slice (some ⟨b, 0, none⟩) n n) ((b, .cells (List.toArray cs) e (0, 0)) :: l)) :
    sl P (Instr.buildSlice T n (List.toArray ps)) l Q := by
  obtain ⟨inf, u1, u2, u3, u4⟩ := stV_spec c
  obtain ⟨inf', zv, z1, z2, z3⟩ := zvV_spec cz
  rw [u2] at z1; cases z1
  unfold Instr.buildSlice
  rw [sl_under u1]
  simp only
  rw [sl_sizeOf u2, u3]
  rw [if_neg (by omega)]
  simp only [show ¬ n * k = 0 by omega, if_false, sl_bind, zeroValue]
  rw [← sl_bind, sl_info u2, z2]
  simp only [sl_pure]
  have hzv : zv.cells = List.toArray zs := by rw [← z3]
  have hcells : (Array.range (n * k)).map (fun j => zv.cells[j % zv.cells.size]!) = List.toArray (List.replicate n zs).flatten := by
    have hk0 : 0 < k := Nat.pos_of_ne_zero fun e => by subst e; simp at hk
    apply Array.toList_inj.1
    apply List.ext_getElem?
    intro j
    rw [hzv]
    have hl : (List.replicate n zs).flatten.length = n * k := by simp [hzs]
    by_cases hj : j < n * k
    · have : (List.replicate n zs).flatten[j]? = zs[j % k]? := by
        clear hfill hQ hl hsm hk
        induction n generalizing j with
        | zero => omega
        | succ n ih =>
          rw [List.replicate_succ, List.flatten_cons]
          by_cases hjk : j < k
          · rw [List.getElem?_append_left (by omega), Nat.mod_eq_of_lt hjk]
          · rw [List.getElem?_append_right (by omega), hzs, ih (j - k) (by have := Nat.succ_mul n k; simp only [Nat.succ_eq_add_one] at this; omega), ← Nat.mod_eq_sub_mod (by omega)]
      simp only [Array.toList_map, Array.toList_range, List.getElem?_map, List.getElem?_range hj, Option.map_some]
      rw [this]
      have hlt : j % k < zs.length := by rw [hzs]; exact Nat.mod_lt _ hk0
      simp [hzs, List.getElem?_eq_getElem hlt, List.getElem!_eq_getElem?_getD]
    · rw [List.getElem?_eq_none (by simp; omega), List.getElem?_eq_none (by rw [hl]; omega)]
  rw [hcells, hfill]
  simp only [newRow, sl_bind]
  intro b hb
  exact hQ b hb
theorem e_lit1 {T e yb : Nat} {y : Operand} {z0 : Value} (hy : ev fr y = some v) (h1 : v.oneCell' = true) [c : ST P T e 1 yb] [cz : ZV P e [z0]] : OpE P ro N fr l ⟨d, .buildSlice T 1 #[(0, y)], ty, pos, aft, g⟩ (fun v' l' => ∃ b, (∀ c, c ∈ l → c.1 ≠ b) ∧ v' = .slice (some ⟨b, 0, none⟩) 1 1 ∧ l' = (b, .cells (List.toArray [v]) e (0, 0)) :: l) := opE_of_sl rfl fun ρ hρ => by
  simp only [execOp, sl_bind]
  have e : (#[(0, y)] : Array (Nat × Operand)).map (fun (i, x) => (i, ρ x)) = List.toArray [(0, v)] := by simp [hρ y _ hy]
  rw [e]
  refine sl_buildSlice (cs := [v]) c.out cz.out rfl (by omega) (by omega) ?_ fun b hb => ⟨b, hb, rfl, rfl⟩
  simp [Instr.fill, oc1_cells h1]
theorem e_litA {T e k yb : Nat} {y : Operand} {zs ws : List Value} (hy : ev fr y = some (.agg (List.toArray ws))) [c : ST P T e k yb] [cz : ZV P e zs] (hz : zs.length = k) (hw : ws.length = k) (hk : 0 < k) (hk2 : k ≤ 16777216) : OpE P ro N fr l ⟨d, .buildSlice T 1 #[(0, y)], ty, pos, aft, g⟩ (fun v' l' => ∃ b, (∀ c, c ∈ l → c.1 ≠ b) ∧ v' = .slice (some ⟨b, 0, none⟩) 1 1 ∧ l' = (b, .cells (List.toArray ws) e (0, 0)) :: l) := opE_of_sl rfl fun ρ hρ => by
  simp only [execOp, sl_bind]
  have e : (#[(0, y)] : Array (Nat × Operand)).map (fun (i, x) => (i, ρ x)) = List.toArray [(0, .agg (List.toArray ws))] := by simp [hρ y _ hy]
  rw [e]
  refine sl_buildSlice (cs := ws) c.out cz.out hz (by omega) (by omega) ?_ fun b hb => ⟨b, hb, rfl, rfl⟩
  unfold Instr.fill
  have e2 : (Value.agg (List.toArray ws)).cells = List.toArray ws := rfl
  simp only [e2]
  rw [if_neg (by simp [hw, hz])]
  rw [array_zip_set]
  unfold Instr.fill
  congr 1
  have key : ∀ (vs pre cs : List Value), vs.length = cs.length → setFrom (List.toArray (pre ++ cs)) pre.length vs = List.toArray (pre ++ vs) := by
    intro vs
    induction vs with
    | nil => intro pre cs h; have : cs = [] := List.eq_nil_of_length_eq_zero (by simpa using h.symm); subst this; rfl
    | cons v vs ih =>
      intro pre cs h
      cases cs with
      | nil => simp at h
      | cons c cs =>
        simp only [setFrom, List.setIfInBounds_toArray]
        rw [List.set_append_right _ _ (Nat.le_refl _)]
        simp only [Nat.sub_self, List.set_cons_zero]
        have := ih (pre ++ [v]) cs (by simpa using h)
        simpa using this
  have := key ws [] zs (by omega)
  simpa using this
end
theorem OwnSl.one {e k n : Nat} {v : Value} {xs : List Value} {cs : List Chunk} (h : OwnSl e k v n xs cs) : v.oneCell' = true := by
  rcases h.2 with ⟨rfl, _⟩ | ⟨b, cap, sp, rfl, _⟩ <;> rfl
theorem Keep.dropL {L l : List Chunk} (cs : List Chunk) (k : Keep L l) : Keep (cs ++ L) l := by
  induction cs with
  | nil => exact k
  | cons c cs ih => exact .drop ih
theorem OwnSl.shape {e k n : Nat} {v : Value} {xs : List Value} {cs : List Chunk} (h : OwnSl e k v n xs cs) : ∃ p cap, v = .slice p n cap := by
  rcases h.2 with ⟨rfl, rfl, _⟩ | ⟨b, cap, sp, rfl, _⟩
  · exact ⟨_, _, rfl⟩
  · exact ⟨_, _, rfl⟩
section
variable {P : Program} {ro : Option Nat} {N : Nat} {E : World} {Q : Exit → Act → World → Prop} {fr : Fr} {ds : List Deferred} {l : List Chunk}
def JoinK (N : Nat) (E : World) {α : Type} (fx : α → Fr) (ds : List Deferred) (lx : α → List Chunk) (pre : α → Prop) (a : Act) (W : World) : Prop :=
  ∃ y, pre y ∧ FSat N (fx y) a ∧ a.defers = ds ∧ Sat E (lx y) W
theorem c_join {α : Type} {c1 c2 : Code} (fx : α → Fr) (lx : α → List Chunk) (pre : α → Prop) (h1 : CodeS P ro N E c1 (Exit.then (JoinK N E fx ds lx pre) Q) fr ds l) (h2 : ∀ x, pre x → CodeS P ro N E c2 Q (fx x) ds (lx x)) : CodeS P ro N E (.seq c1 c2) Q fr ds l :=
  ⟨fun a W hf hds hs => wpIn_seq (wpIn_mono (h1.run a W hf hds hs) fun e a' W' h => by
    cases e with
    | normal => obtain ⟨y, h3, h4, h5, h6⟩ := h; exact (h2 y h3).run a' W' h4 h5 h6
    | _ => exact h)⟩
theorem p_join {α : Type} {fx : α → Fr} {lx : α → List Chunk} {pre : α → Prop} (y : α) (h1 : pre y) (h3 : FSub (fx y) fr) (h4 : Keep l (lx y)) : PostS N E (Exit.then (JoinK N E fx ds lx pre) Q) .normal fr ds l :=
  ⟨fun a W hf hds hs => ⟨y, h1, hf.sub h3.spec, hds, h4.sat hs⟩⟩
end
theorem acts_cells {cs : Array Value} {k : Nat} {x y z : Value} (h : k + 3 ≤ cs.size) (e : cs.extract k (k + 3) = List.toArray [x, y, z]) : cs[k]? = some x ∧ cs[k + 1]? = some y ∧ cs[k + 2]? = some z := by
  have f : ∀ j, j < 3 → cs[k + j]? = [x, y, z][j]? := fun j hj => by
    have := congrArg (fun c => c[j]?) e
    simp only [Array.getElem?_extract, List.getElem?_toArray] at this
    rw [if_pos (by omega)] at this
    exact this
  exact ⟨f 0 (by omega), f 1 (by omega), f 2 (by omega)⟩
inductive Bnd (fr : Fr) : Option Operand → Nat → Nat → Prop
  | none {d : Nat} : Bnd fr none d d
  | some {o : Operand} {d r : Nat} {k : IntKind} {i : Int} : ev fr o = some (.int k i) → 0 ≤ i → i.toNat = r → Bnd fr (some o) d r
section
variable {P : Program} {ro : Option Nat} {N : Nat} {fr : Fr} {R l : List Chunk} {K : Value → List Chunk → Prop} {d : Option Nat} {ty : TypeId} {pos : String} {aft : Array Edge} {g : Option (Nat × Bool)} {x y z : Operand} {v u w : Value} {b off : Nat} {t t2 : TypeId}
theorem sl_sliceBound {Q : Nat → List Chunk → Prop} {k : IntKind} {i : Int} {y r : Nat} {code : BoundsCode} (h0 : 0 ≤ i) (hr : i.toNat = r) (hy : r ≤ y) : sl P (Instr.sliceBound (.int k i) y code) l Q ↔ Q r l := by
  unfold Instr.sliceBound
  simp only [asIntOf, sl_bind, sl_pure]
  rw [if_pos ⟨h0, by omega⟩, sl_pure, hr]
theorem sl_sliceBounds {Q : Nat × Nat × Nat → List Chunk → Prop} {ρ : Operand → Value} (hρ : Agrees fr ρ) {lo hi mx : Option Operand} {n cap l0 h0 m0 : Nat} (hl : Bnd fr lo 0 l0) (hh : Bnd fr hi n h0) (hm : Bnd fr mx cap m0) (hno : mx.isSome = true → hi.isSome = true) (h1 : l0 ≤ h0) (h2 : h0 ≤ m0) (h3 : m0 ≤ cap) :
    sl P (Instr.sliceBounds true n cap (lo.map ρ) (hi.map ρ) (mx.map ρ)) l Q ↔ Q (l0, h0, m0) l := by
  unfold Instr.sliceBounds
  cases hm with
  | none =>
    cases hh with
    | none =>
      cases hl with
      | none => simp only [Option.map_none, sl_bind, sl_pure]
      | some e i0 ir =>
        simp only [Option.map_none, Option.map_some, sl_bind, sl_pure, hρ _ _ e]
        rw [sl_sliceBound i0 ir h1]
    | some e i0 ir =>
      cases hl with
      | none =>
        simp only [Option.map_none, Option.map_some, sl_bind, sl_pure, hρ _ _ e]
        rw [sl_sliceBound i0 ir h2]
      | some e' i0' ir' =>
        simp only [Option.map_none, Option.map_some, sl_bind, sl_pure, hρ _ _ e, hρ _ _ e']
        rw [sl_sliceBound i0 ir h2, sl_sliceBound i0' ir' h1]
  | some em m0' mr =>
    cases hh with
    | none => simp at hno
    | some e i0 ir =>
      cases hl with
      | none =>
        simp only [Option.map_none, Option.map_some, sl_bind, sl_pure, hρ _ _ e, hρ _ _ em]
        rw [sl_sliceBound m0' mr h3, sl_sliceBound i0 ir h2]
      | some e' i0' ir' =>
        simp only [Option.map_none, Option.map_some, sl_bind, sl_pure, hρ _ _ e, hρ _ _ e', hρ _ _ em]
        rw [sl_sliceBound m0' mr h3, sl_sliceBound i0 ir h2, sl_sliceBound i0' ir' h1]
theorem q_slice {T e k yb : Nat} {lo hi mx : Option Operand} {n cap l0 h0 m0 off' n' c' : Nat} (hx : ev fr x = some (.slice (some ⟨b, off, none⟩) n cap)) [c : ST P T e k yb] (hl : Bnd fr lo 0 l0) (hh : Bnd fr hi n h0) (hm : Bnd fr mx cap m0) (hno : mx.isSome = true → hi.isSome = true) (h1 : l0 ≤ h0) (h2 : h0 ≤ m0) (h3 : m0 ≤ cap)
    (ho : (if m0 = l0 then off else off + l0 * k) = off') (hn : h0 - l0 = n') (hc : m0 - l0 = c') : OpQ P ro N fr R ⟨d, .slice T x lo hi mx, ty, pos, aft, g⟩ (.slice (some ⟨b, off', none⟩) n' c') := opQ_of_sl rfl fun ρ l hρ _ => by
  obtain ⟨inf, u1, u2, u3, _⟩ := stV_spec c.out
  subst ho hn hc
  simp only [execOp, hρ x _ hx]
  rw [sl_bind]
  unfold Instr.sliceAt
  rw [sl_under u1]
  show sl P (Instr.slice T _ _ _ _) l _
  unfold Instr.slice
  rw [sl_under u1]
  simp only [sl_bind]
  rw [sl_sliceBounds hρ hl hh hm hno h1 h2 h3]
  simp only
  rw [sl_sizeOf' u2]
  simp only [sl_pure, u3]
  refine ⟨?_, trivial⟩
  split <;> simp [addr_add]
theorem t_eh {ops : Array Oper} {Q : Exit → Act → World → Prop} {rest : List Oper} {ds : List Deferred} {E : World} {o : Oper} {d : Nat} (h : OpE P ro N fr l o K) (hw : gst ops fr o.guard = some true) (hd : o.dst = some d) (hb : Nat.blt d N = true) (hk : ∀ v l', K v l' → OpsS P ro N E ops Q rest ((d, v) :: fr) ds l') : OpsS P ro N E ops Q (o :: rest) fr ds l := by
  rcases gst_some hw with ⟨h1, _⟩ | ⟨j, b, oj, dj, b', h1, h2, h3, h4, h5⟩
  · exact t_e h h1 hd hb hk
  · have : b' = b := by simpa using h5
    subst this
    exact t_ge h h1 h2 h3 h4 hd hb hk
theorem e_litN {T e yb n : Nat} {z0 : Value} {ps : List (Nat × Operand)} {pvs : List (Nat × Value)} {cs : List Value} (hps : evps fr ps = some pvs) (hn0 : 0 < n) (hn : n ≤ 16777216) [c : ST P T e 1 yb] [cz : ZV P e [z0]] (hfill : Instr.fill (fun i => some (i * 1, 1)) (List.toArray (List.replicate n [z0]).flatten) pvs = some (List.toArray cs)) :
    OpE P ro N fr l ⟨d, .buildSlice T n ps.toArray, ty, pos, aft, g⟩ (fun v' l' => ∃ b, (∀ c, c ∈ l → c.1 ≠ b) ∧ v' = .slice (some ⟨b, 0, none⟩) n n ∧ l' = (b, .cells (List.toArray cs) e (0, 0)) :: l) := opE_of_sl rfl fun ρ hρ => by
  simp only [execOp, sl_bind]
  have e : ps.toArray.map (fun (i, x) => (i, ρ x)) = List.toArray pvs := by rw [← hρ.parts hps]; simp
  rw [e]
  exact sl_buildSlice (cs := cs) c.out cz.out rfl (by omega) (by omega) hfill fun b hb => ⟨b, hb, rfl, rfl⟩
theorem OwnSl.lit {e n : Nat} {b : Nat} {xs : List Value} (h0 : 0 < n) (hl : xs.length = n) (hm : n ≤ 1000000) : OwnSl e 1 (.slice (some ⟨b, 0, none⟩) n n) n xs [(b, .cells (List.toArray xs) e (0, 0))] :=
  ⟨by omega, .inr ⟨b, n, [], rfl, by simp, by omega, by unfold maxLen; omega, by simp [hl]⟩⟩
end
theorem ptr_off {fr : Fr} {x : Operand} {b o o' : Nat} (h : ev fr x = some (.pointer (some ⟨b, o, none⟩))) (e : o = o') : ev fr x = some (.pointer (some ⟨b, o', none⟩)) := by subst e; exact h
abbrev Ent := Int × Value × Nat
def mkE (k : IntKind) (x : Ent) : MapEntry := { key := .int k x.1, val := x.2.1, born := x.2.2 }
abbrev mapO (k : IntKind) (es : List Ent) (clock : Nat) : Obj := .map (List.toArray (es.map (mkE k))) clock
def zoV (P : Program) (t : Nat) : Option Value := match P.info? t with
  | some i => i.zero
  | none => none
class ZO (P : Program) (t : Nat) (z : outParam Value) : Prop where out : zoV P t = some z
def findE (a : Int) : List Ent → Nat → Option (Nat × Value)
  | [], _ => none
  | e :: es, i => if a = e.1 then some (i, e.2.1) else findE a es (i + 1)
def getE (a : Int) (es : List Ent) : Option Value := (findE a es 0).map Prod.snd
def setE (a : Int) (v : Value) (clock : Nat) (es : List Ent) : List Ent × Nat := match findE a es 0 with
  | some (i, _) => (es.modify i fun x => (x.1, v, x.2.2), clock)
  | none => (es ++ [(a, v, clock)], clock + 1)
theorem findE_none {a : Int} : ∀ {es : List Ent} {i : Nat}, findE a es i = none ↔ ∀ e ∈ es, e.1 ≠ a
  | [], i => by simp [findE]
  | e :: es, i => by
    unfold findE
    split
    · rename_i h; subst h; simp
    · rename_i h; rw [findE_none]; simp only [List.mem_cons, forall_eq_or_imp]; exact ⟨fun h2 => ⟨fun e' => h e'.symm, h2⟩, fun h2 => h2.2⟩
theorem findE_some {a : Int} : ∀ {es : List Ent} {i k : Nat} {v : Value}, findE a es i = some (k, v) → i ≤ k ∧ ∃ e, es[k - i]? = some e ∧ e.1 = a ∧ e.2.1 = v ∧ ∀ j, j < k - i → ∀ e', es[j]? = some e' → e'.1 ≠ a
  | [], i, k, v, h => by simp [findE] at h
  | e :: es, i, k, v, h => by
    unfold findE at h
    split at h
    · rename_i ha
      cases h
      exact ⟨Nat.le_refl _, e, by simp, ha.symm, rfl, fun j hj => by omega⟩
    · rename_i ha
      obtain ⟨h1, e', h2, h3, h4, h5⟩ := findE_some h
      refine ⟨by omega, e', ?_, h3, h4, fun j hj e2 he2 => ?_⟩
      · rw [show k - i = (k - (i + 1)) + 1 by omega]; simpa using h2
      · cases j with
        | zero => simp only [List.getElem?_cons_zero, Option.some.injEq] at he2; subst he2; exact fun e' => ha e'.symm
        | succ j => exact h5 j (by omega) e2 (by simpa using he2)
theorem findNow_mk (k : IntKind) (a : Int) : ∀ (es : List Ent) (i : Nat), Instr.findNow (.int k) (.int k a) (es.map (mkE k)) i = some (findE a es i)
  | [], i => rfl
  | e :: es, i => by
    rw [List.map_cons]
    unfold Instr.findNow
    simp only [mkE, Instr.sameNow, if_true]
    unfold findE
    by_cases h : a = e.1
    · rw [show (a == e.1) = true by simpa using h, if_pos h]
    · rw [show (a == e.1) = false by simpa using h, if_neg h]
      exact findNow_mk k a es (i + 1)
section
variable {P : Program} {ro : Option Nat} {N : Nat} {fr : Fr} {R l : List Chunk} {d : Option Nat} {ty : TypeId} {pos : String} {aft : Array Edge} {g : Option (Nat × Bool)} {x y z : Operand} {v u w : Value} {b m : Nat} {t t2 T kt et : TypeId} {k : IntKind} {a : Int} {es : List Ent} {clock : Nat}
theorem mtV_spec {T k e : Nat} (h : mtV P T = some (k, e)) : P.underlying T = some (.map k e) := by
  unfold mtV at h; split at h <;> simp_all
theorem itV_spec {t : Nat} {k : IntKind} (h : itV P t = some k) : P.underlying t = some (.int k) := by
  unfold itV at h; split at h <;> simp_all
theorem sl_pure' {α : Type} {Q : α → List Chunk → Prop} (a : α) : sl P (Sem.pure a) l Q ↔ Q a l := Iff.rfl
theorem sl_choose {α : Type} {Q : α → List Chunk → Prop} {f : Nat → Sem α} {q : Question} : sl P (choose q >>= f) l Q ↔ ∀ t, sl P (f (if q.forced = true then 0 else q.cut t)) l Q := Iff.rfl
theorem sl_checkKey {Q : Unit → List Chunk → Prop} {empty : Bool} {n : Nat} (h : itV P kt = some k) : sl P (Instr.checkKey empty (n + 1) kt (.int k a)) l Q ↔ Q () l := by
  unfold Instr.checkKey
  rw [sl_under (itV_spec h)]
  exact Iff.rfl
theorem sl_findKey {Q : Option (Nat × Value) → List Chunk → Prop} (h : itV P kt = some k) : sl P (Instr.findKey kt (.int k a) (es.map (mkE k))) l Q ↔ Q (findE a es 0) l := by
  unfold Instr.findKey
  rw [sl_under (itV_spec h), findNow_mk]
  exact Iff.rfl
theorem sl_zero {Q : Value → List Chunk → Prop} {zv : Value} (h : zoV P et = some zv) : sl P (zeroValue et) l Q ↔ Q zv l := by
  unfold zoV at h
  split at h
  · rename_i i hi
    unfold zeroValue
    rw [sl_info hi, h]
    exact Iff.rfl
  · cases h
theorem q_lookup {zv : Value} (hx : ev fr x = some (.map (some m))) (hy : ev fr y = some (.int k a)) [c : MT P T kt et] [ci : IT P kt k] [cz : ZO P et zv] (hm : (m, mapO k es clock) ∈ R) : OpQ P ro N fr R ⟨d, .lookup T x y false, ty, pos, aft, g⟩ ((getE a es).getD zv) := opQ_of_sl rfl fun ρ l hρ hR => by
  simp only [execOp, hρ x _ hx, hρ y _ hy, sl_bind]
  unfold Instr.lookup
  rw [sl_under (mtV_spec c.out)]
  simp only [sl_bind]
  refine ⟨_, hR _ hm, rfl, ?_⟩
  simp only [sl_pure, sl_pure', sl_bind]
  rw [sl_checkKey ci.out, sl_findKey ci.out]
  unfold getE
  cases h : findE a es 0 with
  | none => simp only [sl_bind]; rw [sl_zero cz.out]; exact ⟨rfl, rfl⟩
  | some p => exact ⟨rfl, rfl⟩
theorem q_lookup2 {zv : Value} (hx : ev fr x = some (.map (some m))) (hy : ev fr y = some (.int k a)) [c : MT P T kt et] [ci : IT P kt k] [cz : ZO P et zv] (hm : (m, mapO k es clock) ∈ R) : OpQ P ro N fr R ⟨d, .lookup T x y true, ty, pos, aft, g⟩ (.tuple #[(getE a es).getD zv, .bool (getE a es).isSome]) := opQ_of_sl rfl fun ρ l hρ hR => by
  simp only [execOp, hρ x _ hx, hρ y _ hy, sl_bind]
  unfold Instr.lookup
  rw [sl_under (mtV_spec c.out)]
  simp only [sl_bind]
  refine ⟨_, hR _ hm, rfl, ?_⟩
  simp only [sl_pure, sl_pure', sl_bind]
  rw [sl_checkKey ci.out, sl_findKey ci.out]
  unfold getE
  cases h : findE a es 0 with
  | none => simp only [sl_bind]; rw [sl_zero cz.out]; exact ⟨rfl, rfl⟩
  | some p => exact ⟨rfl, rfl⟩
theorem e_makeMap : OpE P ro N fr l ⟨d, .makeMap T none, ty, pos, aft, g⟩ (fun v' l' => ∃ b, (∀ c, c ∈ l → c.1 ≠ b) ∧ v' = .map (some b) ∧ l' = (b, .map #[] 0) :: l) := opE_of_sl rfl fun ρ hρ => by
  simp only [execOp, sl_bind]
  unfold Instr.makeMap
  simp only [Option.map_none, sl_bind, sl_pure]
  intro b hb
  exact ⟨b, hb, rfl, rfl⟩
theorem sl_keyStays {Q : Value → List Chunk → Prop} {a : Int} : sl P (Instr.keyThatStays (.int k a) (.int k a)) l Q ↔ Q (.int k a) l := by
  unfold Instr.keyThatStays
  rw [if_pos (by simp [Instr.sameBits])]
  exact Iff.rfl
theorem modify_key (es : List Ent) (i : Nat) (v : Value) (e : Ent) (he : es[i]? = some e) : (List.toArray (es.map (mkE k))).modify i (fun x => { key := .int k e.1, val := v, born := x.born }) = List.toArray ((es.modify i fun x => (x.1, v, x.2.2)).map (mkE k)) := by
  apply Array.toList_inj.1
  rw [Array.toList_modify]
  simp only
  apply List.ext_getElem?
  intro j
  rw [List.getElem?_modify, List.getElem?_map, List.getElem?_map, List.getElem?_modify]
  by_cases h : i = j
  · subst h
    rw [he]; simp [mkE]
  · cases es[j]? <;> simp [h]
theorem e_mapUpdate {l' : List Chunk} (hx : ev fr x = some (.map (some m))) (hy : ev fr y = some (.int k a)) (hz : ev fr z = some v) [c : MT P T kt et] [ci : IT P kt k] (hu : Upd l m (mapO k es clock) (mapO k (setE a v clock es).1 (setE a v clock es).2) l') :
    OpE P ro N fr l ⟨d, .mapUpdate T x y z, ty, pos, aft, g⟩ (fun v' l2 => v' = undef ∧ l2 = l') := opE_of_sl rfl fun ρ hρ => by
  simp only [execOp, hρ x _ hx, hρ y _ hy, hρ z _ hz]
  rw [sl_bind]
  unfold Instr.mapUpdate
  rw [sl_under (mtV_spec c.out)]
  simp only [sl_bind]
  refine ⟨_, hu.mem, rfl, ?_⟩
  simp only [sl_pure, sl_pure', sl_bind]
  rw [sl_checkKey ci.out, sl_findKey ci.out]
  unfold setE at hu
  cases h : findE a es 0 with
  | none =>
    rw [h] at hu
    simp only at hu ⊢
    refine ⟨mapO k es clock, l', ?_, rfl, ⟨rfl, rfl⟩⟩
    have e : (List.toArray (es.map (mkE k))).push { key := .int k a, val := v, born := clock } = List.toArray ((es ++ [(a, v, clock)]).map (mkE k)) := by simp [mkE]
    rw [e]
    exact hu
  | some p =>
    obtain ⟨i, u⟩ := p
    rw [h] at hu
    simp only at hu ⊢
    obtain ⟨_, e, he, h1, _, _⟩ := findE_some h
    rw [Nat.sub_zero] at he
    subst h1
    have hk : (((List.toArray (es.map (mkE k)))[i]?).map (·.key)).getD (.int k e.1) = .int k e.1 := by simp [he, mkE]
    simp only [sl_bind]
    rw [hk, sl_keyStays]
    refine ⟨mapO k es clock, l', ?_, rfl, ⟨rfl, rfl⟩⟩
    rw [modify_key es i v e he]
    exact hu
theorem e_range (hx : ev fr x = some (.map (some m))) [c : MT P T kt et] (hm : (m, mapO k es clock) ∈ l) : OpE P ro N fr l ⟨d, .range T x, ty, pos, aft, g⟩ (fun v' l' => ∃ b, (∀ c, c ∈ l → c.1 ≠ b) ∧ v' = .pointer (some ⟨b, 0, none⟩) ∧ l' = (b, .mapIter (some m) clock #[] clock) :: l) := opE_of_sl rfl fun ρ hρ => by
  simp only [execOp, hρ x _ hx, sl_bind]
  unfold Instr.range
  rw [sl_bind, sl_under' (mtV_spec c.out)]
  simp only [sl_bind]
  refine ⟨_, hm, rfl, ?_⟩
  simp only [sl_pure, sl_pure', sl_bind]
  intro b hb
  exact ⟨b, hb, rfl, rfl⟩
theorem e_next {F : List Chunk} {since last : Nat} {seen : Array Nat} (hx : ev fr x = some (.pointer (some ⟨b, 0, none⟩))) (hm : (m, mapO k es clock) ∈ F) (hold : ∀ e ∈ es, e.2.2 < since) (hsl : since ≤ last) :
    OpE P ro N fr ((b, .mapIter (some m) since seen last) :: F) ⟨d, .next x false, ty, pos, aft, g⟩ (fun v' l' => (v' = .tuple #[.bool false] ∧ l' = (b, .mapIter (some m) since seen last) :: F ∧ ∀ e ∈ es, e.2.2 ∈ seen.toList) ∨
      ∃ e ∈ es, e.2.2 ∉ seen.toList ∧ v' = .tuple #[.bool true, .int k e.1, e.2.1] ∧ l' = (b, .mapIter (some m) since (seen.push e.2.2) clock) :: F) := opE_of_sl rfl fun ρ hρ => by
  simp only [execOp, hρ x _ hx, sl_bind]
  unfold Instr.next
  simp only [sl_bind]
  refine ⟨_, List.mem_cons_self, rfl, ?_⟩
  simp only [sl_pure, sl_pure', sl_bind]
  refine ⟨_, List.mem_cons_of_mem _ hm, rfl, ?_⟩
  simp only [sl_pure, sl_pure', sl_bind]
  have hmem : ∀ y : MapEntry, y ∈ es.map (mkE k) → y.born < since := fun y hy => by
    rw [List.mem_map] at hy
    obtain ⟨e, he, rfl⟩ := hy
    exact hold e he
  have hany : (!seen.isEmpty && !(List.toArray (es.map (mkE k))).isEmpty && (List.toArray (es.map (mkE k))).all (fun e => decide (e.born ≥ last))) = false := by
    cases hes : es with
    | nil => simp
    | cons e0 r =>
      have := hold e0 (by rw [hes]; exact List.mem_cons_self)
      have hlt : ¬ last ≤ e0.2.2 := by omega
      simp [mkE, hlt]
  rw [hany]
  simp only [Bool.false_eq_true, if_false]
  obtain ⟨L, hL⟩ : ∃ L : List Ent, L = es.filter fun e => !seen.contains e.2.2 := ⟨_, rfl⟩
  have eL : (List.toArray (es.map (mkE k))).filter (fun e => !seen.contains e.born) = List.toArray (L.map (mkE k)) := by
    apply Array.toList_inj.1
    rw [Array.toList_filter]
    simp only [hL, List.filter_map]
    congr 1
  have hLm : ∀ y : MapEntry, y ∈ L.map (mkE k) → y.born < since := fun y hy => by
    rw [List.mem_map] at hy
    obtain ⟨e, he, rfl⟩ := hy
    rw [hL] at he
    exact hold e (List.mem_filter.1 he).1
  rw [eL]
  have e1 : (List.toArray (L.map (mkE k))).filter (fun x => decide (x.born < since)) = List.toArray (L.map (mkE k)) := Array.filter_eq_self.2 fun y hy => by simpa using hLm y (by simpa using hy)
  have e2 : (List.toArray (L.map (mkE k))).filter (fun x => decide (x.born ≥ since)) = #[] := by
    rw [Array.filter_eq_empty_iff]
    intro y hy
    have := hLm y (by simpa using hy)
    simp; omega
  simp only [e1, e2, Array.append_empty]
  rw [sl_choose]
  intro tp
  cases hLL : L with
  | nil =>
    have hnil : es.filter (fun e => !seen.contains e.2.2) = [] := by rw [← hL, hLL]
    have hq : (Question.mapNext 1).forced = true := by simp [Question.forced]
    simp [hq]
    refine .inl ⟨rfl, rfl, fun e1 e2 e3 he => ?_⟩
    have := List.filter_eq_nil_iff.1 hnil (e1, e2, e3) he
    simpa using this
  | cons e0 r =>
    have hne : (List.toArray ((e0 :: r).map (mkE k))).isEmpty = false := by simp
    simp only [hne, Bool.false_eq_true, if_false, Array.empty_append, Array.size_map]
    obtain ⟨j, hj, hjlt⟩ : ∃ j, (if (Question.mapNext (List.toArray ((e0 :: r).map (mkE k))).size).forced = true then 0 else (Question.mapNext (List.toArray ((e0 :: r).map (mkE k))).size).cut tp) = j ∧ j < (e0 :: r).length := by
      refine ⟨_, rfl, ?_⟩
      split
      · simp
      · simp only [Question.cut, List.size_toArray, List.length_map]
        exact Nat.mod_lt _ (by simp)
    rw [hj]
    have hget : ((List.toArray ((e0 :: r).map (mkE k))).map some)[j]? = some (some (mkE k (e0 :: r)[j])) := by
      rw [Array.getElem?_map, List.getElem?_toArray, List.getElem?_map, List.getElem?_eq_getElem hjlt]; rfl
    rw [hget]
    have hin : (e0 :: r)[j] ∈ L := by rw [hLL]; exact List.getElem_mem hjlt
    rw [hL] at hin
    obtain ⟨hi1, hi2⟩ := List.mem_filter.1 hin
    refine ⟨.mapIter (some m) since seen last, _, .here, rfl, .inr ⟨_, hi1, by simpa using hi2, rfl, rfl⟩⟩
theorem find_born : ∀ {es : List Ent} {e : Ent}, e ∈ es → (es.map (·.2.2)).Nodup → (es.map (mkE k)).find? (fun x => x.born == e.2.2) = some (mkE k e)
  | [], e, h, _ => by cases h
  | e0 :: es, e, h, hn => by
    rw [List.map_cons, List.nodup_cons] at hn
    rw [List.map_cons, List.find?_cons]
    rcases List.mem_cons.1 h with rfl | h
    · simp [mkE]
    · have hne : ((mkE k e0).born == e.2.2) = false := by
        have : e0.2.2 ≠ e.2.2 := fun h2 => hn.1 (by rw [h2]; exact List.mem_map.2 ⟨e, h, rfl⟩)
        simpa [mkE] using this
      rw [hne]
      exact find_born h hn.2
theorem q_entry {since : Nat} {seen : Array Nat} {e : Ent} (hx : ev fr x = some (.pointer (some ⟨b, 0, none⟩))) (hi : (b, .mapIter (some m) since (seen.push e.2.2) clock) ∈ R) (hm : (m, mapO k es clock) ∈ R) (he : e ∈ es) (hn : (es.map (·.2.2)).Nodup) :
    OpQ P ro N fr R ⟨d, .entry x, ty, pos, aft, g⟩ (.tuple #[.int k e.1, e.2.1]) := opQ_of_sl rfl fun ρ l hρ hR => by
  simp only [execOp, hρ x _ hx, sl_bind]
  unfold Instr.entry
  simp only [sl_bind]
  refine ⟨_, hR _ hi, rfl, ?_⟩
  simp only [sl_pure, sl_pure', Array.back?_push, sl_bind]
  refine ⟨_, hR _ hm, rfl, ?_⟩
  have hf : (List.toArray (es.map (mkE k))).find? (·.born == e.2.2) = some (mkE k e) := by rw [← Array.find?_toList]; exact find_born he hn
  simp only [sl_pure, sl_pure', bne_self_eq_false, Bool.false_eq_true, if_false, hf]
  exact ⟨rfl, trivial⟩
/-! slices beside nil, empty literals, nothing appended -/
theorem q_appendNil {s : Operand} {p : Option Addr} {T e kk yb n cap : Nat} (hs : ev fr s = some (.slice p n cap)) (hx : ev fr x = some (.slice none 0 0)) [c : ST P T e kk yb] (hn : n ≤ cap) :
    OpQ P ro N fr R ⟨d, .call { callee := .builtin .append, args := #[s, x], argTypes := #[T, T] }, ty, pos, aft, g⟩ (.slice p n cap) := opQ_of_sl rfl fun ρ l hρ _ => by
  obtain ⟨inf, u1, u2, _⟩ := stV_spec c.out
  simp only [execOp, resolve, sl_bind, sl_pure, invoke, builtin, List.map_toArray, List.map_cons, List.map_nil, hρ s _ hs, hρ x _ hx]
  unfold Builtin.append_
  simp only [List.getElem?_toArray, List.getElem?_cons_zero, List.getElem?_cons_succ, sl_bind]
  rw [sl_under' u1]
  simp only
  rw [sl_sizeOf u2]
  simp only [sl_bind]
  rw [sl_under' u1]
  simp only [sl_pure, Bool.false_eq_true, if_false, Builtin.lenOf, Bool.not_false, if_true, Nat.add_zero, if_pos hn, sl_bind, Builtin.firstCells]
  cases p with
  | none => exact ⟨rfl, rfl⟩
  | some a => exact ⟨rfl, rfl⟩
end
end Go.Proofs.YtcjknmpogkofpaaGreat
namespace Go.Proofs.YtcjknmpogkofpaaGreat
instance:OC Tryz.prog 3:=⟨by kernel_rfl⟩
instance:IT Tryz.prog 3 .i64:=⟨by kernel_rfl⟩
instance:ZV Tryz.prog 3 [.int .i64 0]:=⟨by kernel_rfl⟩
instance:OC Tryz.prog 4:=⟨by kernel_rfl⟩
instance:ZV Tryz.prog 4 [.bool false]:=⟨by kernel_rfl⟩
instance:FO Tryz.prog 23 0 0:=⟨by kernel_rfl⟩
instance:FV Tryz.prog 23 0 0 3:=⟨by kernel_rfl⟩
instance:FO Tryz.prog 23 1 1:=⟨by kernel_rfl⟩
instance:FV Tryz.prog 23 1 1 3:=⟨by kernel_rfl⟩
instance:FO Tryz.prog 23 2 2:=⟨by kernel_rfl⟩
instance:FV Tryz.prog 23 2 2 3:=⟨by kernel_rfl⟩
instance:FO Tryz.prog 23 3 3:=⟨by kernel_rfl⟩
instance:BT Tryz.prog 23:=⟨by kernel_rfl⟩
instance:AG Tryz.prog 23 4:=⟨by kernel_rfl⟩
instance:ZV Tryz.prog 23 [.int .i64 0, .int .i64 0, .int .i64 0, .bool false]:=⟨by kernel_rfl⟩
instance:PT Tryz.prog 24 117:=⟨by kernel_rfl⟩
instance:ST Tryz.prog 25 3 1 8:=⟨by kernel_rfl⟩
instance:OC Tryz.prog 25:=⟨by kernel_rfl⟩
instance:ZV Tryz.prog 25 [.slice none 0 0]:=⟨by kernel_rfl⟩
instance:OC Tryz.prog 26:=⟨by kernel_rfl⟩
instance:ZV Tryz.prog 26 [.int .i64 0]:=⟨by kernel_rfl⟩
instance:PT Tryz.prog 29 63:=⟨by kernel_rfl⟩
instance:OC Tryz.prog 37:=⟨by kernel_rfl⟩
instance:PT Tryz.prog 37 128:=⟨by kernel_rfl⟩
instance:ZV Tryz.prog 37 [.pointer none]:=⟨by kernel_rfl⟩
instance:ST Tryz.prog 40 68 9 72:=⟨by kernel_rfl⟩
instance:OC Tryz.prog 40:=⟨by kernel_rfl⟩
instance:ZV Tryz.prog 40 [.slice none 0 0]:=⟨by kernel_rfl⟩
instance:ST Tryz.prog 41 220 10 80:=⟨by kernel_rfl⟩
instance:OC Tryz.prog 41:=⟨by kernel_rfl⟩
instance:ST Tryz.prog 42 222 3 24:=⟨by kernel_rfl⟩
instance:OC Tryz.prog 42:=⟨by kernel_rfl⟩
instance:ZV Tryz.prog 42 [.slice none 0 0]:=⟨by kernel_rfl⟩
instance:ST Tryz.prog 43 76 24 176:=⟨by kernel_rfl⟩
instance:OC Tryz.prog 43:=⟨by kernel_rfl⟩
instance:AT Tryz.prog 44 4 3 1:=⟨by kernel_rfl⟩
instance:FO Tryz.prog 46 0 0:=⟨by kernel_rfl⟩
instance:FV Tryz.prog 46 0 0 3:=⟨by kernel_rfl⟩
instance:FO Tryz.prog 46 1 1:=⟨by kernel_rfl⟩
instance:FO Tryz.prog 46 2 2:=⟨by kernel_rfl⟩
instance:FO Tryz.prog 46 3 6:=⟨by kernel_rfl⟩
instance:BT Tryz.prog 46:=⟨by kernel_rfl⟩
instance:AG Tryz.prog 46 10:=⟨by kernel_rfl⟩
instance:ZV Tryz.prog 46 [.int .i64 0, .bool false, .int .i64 0, .int .i64 0, .int .i64 0, .int .i64 0, .int .i64 0, .int .i64 0, .int .i64 0, .int .i64 0]:=⟨by kernel_rfl⟩
instance:AT Tryz.prog 47 8 46 10:=⟨by kernel_rfl⟩
instance:AG Tryz.prog 47 80:=⟨by kernel_rfl⟩
instance:ZV Tryz.prog 47 [.int .i64 0, .bool false, .int .i64 0, .int .i64 0, .int .i64 0, .int .i64 0, .int .i64 0, .int .i64 0, .int .i64 0, .int .i64 0, .int .i64 0, .bool false, .int .i64 0, .int .i64 0, .int .i64 0, .int .i64 0, .int .i64 0, .int .i64 0, .int .i64 0, .int .i64 0, .int .i64 0, .bool false, .int .i64 0, .int .i64 0, .int .i64 0, .int .i64 0, .int .i64 0, .int .i64 0, .int .i64 0, .int .i64 0, .int .i64 0, .bool false, .int .i64 0, .int .i64 0, .int .i64 0, .int .i64 0, .int .i64 0, .int .i64 0, .int .i64 0, .int .i64 0, .int .i64 0, .bool false, .int .i64 0, .int .i64 0, .int .i64 0, .int .i64 0, .int .i64 0, .int .i64 0, .int .i64 0, .int .i64 0, .int .i64 0, .bool false, .int .i64 0, .int .i64 0, .int .i64 0, .int .i64 0, .int .i64 0, .int .i64 0, .int .i64 0, .int .i64 0, .int .i64 0, .bool false, .int .i64 0, .int .i64 0, .int .i64 0, .int .i64 0, .int .i64 0, .int .i64 0, .int .i64 0, .int .i64 0, .int .i64 0, .bool false, .int .i64 0, .int .i64 0, .int .i64 0, .int .i64 0, .int .i64 0, .int .i64 0, .int .i64 0, .int .i64 0]:=⟨by kernel_rfl⟩
instance:FO Tryz.prog 49 0 0:=⟨by kernel_rfl⟩
instance:FV Tryz.prog 49 0 0 40:=⟨by kernel_rfl⟩
instance:FO Tryz.prog 49 1 1:=⟨by kernel_rfl⟩
instance:FV Tryz.prog 49 1 1 41:=⟨by kernel_rfl⟩
instance:FO Tryz.prog 49 2 2:=⟨by kernel_rfl⟩
instance:FV Tryz.prog 49 2 2 42:=⟨by kernel_rfl⟩
instance:FO Tryz.prog 49 3 3:=⟨by kernel_rfl⟩
instance:FV Tryz.prog 49 3 3 43:=⟨by kernel_rfl⟩
instance:FO Tryz.prog 49 4 4:=⟨by kernel_rfl⟩
instance:FV Tryz.prog 49 4 4 47:=⟨by kernel_rfl⟩
instance:FO Tryz.prog 49 5 84:=⟨by kernel_rfl⟩
instance:FV Tryz.prog 49 5 84 25:=⟨by kernel_rfl⟩
instance:FO Tryz.prog 49 6 85:=⟨by kernel_rfl⟩
instance:FV Tryz.prog 49 6 85 25:=⟨by kernel_rfl⟩
instance:BT Tryz.prog 49:=⟨by kernel_rfl⟩
instance:AG Tryz.prog 49 86:=⟨by kernel_rfl⟩
instance:ZV Tryz.prog 49 [.slice none 0 0, .slice none 0 0, .slice none 0 0, .slice none 0 0, .int .i64 0, .bool false, .int .i64 0, .int .i64 0, .int .i64 0, .int .i64 0, .int .i64 0, .int .i64 0, .int .i64 0, .int .i64 0, .int .i64 0, .bool false, .int .i64 0, .int .i64 0, .int .i64 0, .int .i64 0, .int .i64 0, .int .i64 0, .int .i64 0, .int .i64 0, .int .i64 0, .bool false, .int .i64 0, .int .i64 0, .int .i64 0, .int .i64 0, .int .i64 0, .int .i64 0, .int .i64 0, .int .i64 0, .int .i64 0, .bool false, .int .i64 0, .int .i64 0, .int .i64 0, .int .i64 0, .int .i64 0, .int .i64 0, .int .i64 0, .int .i64 0, .int .i64 0, .bool false, .int .i64 0, .int .i64 0, .int .i64 0, .int .i64 0, .int .i64 0, .int .i64 0, .int .i64 0, .int .i64 0, .int .i64 0, .bool false, .int .i64 0, .int .i64 0, .int .i64 0, .int .i64 0, .int .i64 0, .int .i64 0, .int .i64 0, .int .i64 0, .int .i64 0, .bool false, .int .i64 0, .int .i64 0, .int .i64 0, .int .i64 0, .int .i64 0, .int .i64 0, .int .i64 0, .int .i64 0, .int .i64 0, .bool false, .int .i64 0, .int .i64 0, .int .i64 0, .int .i64 0, .int .i64 0, .int .i64 0, .int .i64 0, .int .i64 0, .slice none 0 0, .slice none 0 0]:=⟨by kernel_rfl⟩
instance:OC Tryz.prog 52:=⟨by kernel_rfl⟩
instance:PT Tryz.prog 52 252:=⟨by kernel_rfl⟩
instance:OC Tryz.prog 54:=⟨by kernel_rfl⟩
instance:OC Tryz.prog 55:=⟨by kernel_rfl⟩
instance:OC Tryz.prog 56:=⟨by kernel_rfl⟩
instance:OC Tryz.prog 57:=⟨by kernel_rfl⟩
instance:OC Tryz.prog 58:=⟨by kernel_rfl⟩
instance:OC Tryz.prog 59:=⟨by kernel_rfl⟩
instance:OC Tryz.prog 60:=⟨by kernel_rfl⟩
instance:OC Tryz.prog 61:=⟨by kernel_rfl⟩
instance:FO Tryz.prog 63 0 0:=⟨by kernel_rfl⟩
instance:FV Tryz.prog 63 0 0 54:=⟨by kernel_rfl⟩
instance:FO Tryz.prog 63 1 1:=⟨by kernel_rfl⟩
instance:FV Tryz.prog 63 1 1 55:=⟨by kernel_rfl⟩
instance:FO Tryz.prog 63 2 2:=⟨by kernel_rfl⟩
instance:FV Tryz.prog 63 2 2 56:=⟨by kernel_rfl⟩
instance:FO Tryz.prog 63 3 3:=⟨by kernel_rfl⟩
instance:FV Tryz.prog 63 3 3 57:=⟨by kernel_rfl⟩
instance:FO Tryz.prog 63 4 4:=⟨by kernel_rfl⟩
instance:FV Tryz.prog 63 4 4 58:=⟨by kernel_rfl⟩
instance:FO Tryz.prog 63 5 5:=⟨by kernel_rfl⟩
instance:FV Tryz.prog 63 5 5 59:=⟨by kernel_rfl⟩
instance:FO Tryz.prog 63 6 6:=⟨by kernel_rfl⟩
instance:FV Tryz.prog 63 6 6 60:=⟨by kernel_rfl⟩
instance:FO Tryz.prog 63 7 7:=⟨by kernel_rfl⟩
instance:FV Tryz.prog 63 7 7 61:=⟨by kernel_rfl⟩
instance:FO Tryz.prog 63 8 8:=⟨by kernel_rfl⟩
instance:FV Tryz.prog 63 8 8 25:=⟨by kernel_rfl⟩
instance:BT Tryz.prog 63:=⟨by kernel_rfl⟩
instance:ZV Tryz.prog 63 [.pointer none, .pointer none, .pointer none, .pointer none, .pointer none, .pointer none, .pointer none, .pointer none, .slice none 0 0]:=⟨by kernel_rfl⟩
instance:OC Tryz.prog 64:=⟨by kernel_rfl⟩
instance:PT Tryz.prog 64 161:=⟨by kernel_rfl⟩
instance:FO Tryz.prog 68 0 0:=⟨by kernel_rfl⟩
instance:FV Tryz.prog 68 0 0 3:=⟨by kernel_rfl⟩
instance:FO Tryz.prog 68 1 1:=⟨by kernel_rfl⟩
instance:FV Tryz.prog 68 1 1 3:=⟨by kernel_rfl⟩
instance:FV Tryz.prog 68 2 2 3:=⟨by kernel_rfl⟩
instance:FO Tryz.prog 68 3 3:=⟨by kernel_rfl⟩
instance:FV Tryz.prog 68 3 3 3:=⟨by kernel_rfl⟩
instance:FO Tryz.prog 68 4 4:=⟨by kernel_rfl⟩
instance:FV Tryz.prog 68 4 4 3:=⟨by kernel_rfl⟩
instance:BT Tryz.prog 68:=⟨by kernel_rfl⟩
instance:AG Tryz.prog 68 9:=⟨by kernel_rfl⟩
instance:ZV Tryz.prog 68 [.int .i64 0, .int .i64 0, .int .i64 0, .int .i64 0, .int .i64 0, .int .i64 0, .int .i64 0, .int .i64 0, .int .i64 0]:=⟨by kernel_rfl⟩
instance:OC Tryz.prog 71:=⟨by kernel_rfl⟩
instance:IT Tryz.prog 71 .u64:=⟨by kernel_rfl⟩
instance:ZV Tryz.prog 71 [.int .u64 0]:=⟨by kernel_rfl⟩
instance:FO Tryz.prog 76 0 0:=⟨by kernel_rfl⟩
instance:FV Tryz.prog 76 0 0 3:=⟨by kernel_rfl⟩
instance:FO Tryz.prog 76 1 1:=⟨by kernel_rfl⟩
instance:FO Tryz.prog 76 2 2:=⟨by kernel_rfl⟩
instance:FO Tryz.prog 76 6 9:=⟨by kernel_rfl⟩
instance:FO Tryz.prog 76 7 10:=⟨by kernel_rfl⟩
instance:FO Tryz.prog 76 10 16:=⟨by kernel_rfl⟩
instance:FV Tryz.prog 76 10 16 3:=⟨by kernel_rfl⟩
instance:FO Tryz.prog 76 11 17:=⟨by kernel_rfl⟩
instance:FV Tryz.prog 76 11 17 3:=⟨by kernel_rfl⟩
instance:BT Tryz.prog 76:=⟨by kernel_rfl⟩
instance:AG Tryz.prog 76 24:=⟨by kernel_rfl⟩
instance:ZV Tryz.prog 76 [.int .i64 0, .int .i64 0, .int .i64 0, .int .u64 0, .int .u64 0, .int .u64 0, .int .u64 0, .int .u64 0, .bool false, .int .i64 0, .int .i64 0, .int .u64 0, .int .u64 0, .int .u64 0, .int .u64 0, .int .u64 0, .int .i64 0, .int .i64 0, .bool false, .bool false, .bool false, .bool false, .int .u64 0, .int .u64 0]:=⟨by kernel_rfl⟩
instance:ZO Tryz.prog 76 (.agg (List.toArray [.int .i64 0, .int .i64 0, .int .i64 0, .int .u64 0, .int .u64 0, .int .u64 0, .int .u64 0, .int .u64 0, .bool false, .int .i64 0, .int .i64 0, .int .u64 0, .int .u64 0, .int .u64 0, .int .u64 0, .int .u64 0, .int .i64 0, .int .i64 0, .bool false, .bool false, .bool false, .bool false, .int .u64 0, .int .u64 0])):=⟨by kernel_rfl⟩
instance:OC Tryz.prog 78:=⟨by kernel_rfl⟩
instance:PT Tryz.prog 78 170:=⟨by kernel_rfl⟩
instance:ST Tryz.prog 83 92 5 40:=⟨by kernel_rfl⟩
instance:FO Tryz.prog 88 0 0:=⟨by kernel_rfl⟩
instance:FV Tryz.prog 88 0 0 3:=⟨by kernel_rfl⟩
instance:FO Tryz.prog 88 1 1:=⟨by kernel_rfl⟩
instance:FV Tryz.prog 88 1 1 3:=⟨by kernel_rfl⟩
instance:FO Tryz.prog 88 2 2:=⟨by kernel_rfl⟩
instance:FV Tryz.prog 88 2 2 3:=⟨by kernel_rfl⟩
instance:BT Tryz.prog 88:=⟨by kernel_rfl⟩
instance:AG Tryz.prog 88 3:=⟨by kernel_rfl⟩
instance:ZV Tryz.prog 88 [.int .i64 0, .int .i64 0, .int .i64 0]:=⟨by kernel_rfl⟩
instance:FO Tryz.prog 92 0 0:=⟨by kernel_rfl⟩
instance:FV Tryz.prog 92 0 0 3:=⟨by kernel_rfl⟩
instance:FO Tryz.prog 92 1 1:=⟨by kernel_rfl⟩
instance:FV Tryz.prog 92 1 1 3:=⟨by kernel_rfl⟩
instance:FO Tryz.prog 92 2 2:=⟨by kernel_rfl⟩
instance:FV Tryz.prog 92 2 2 3:=⟨by kernel_rfl⟩
instance:FO Tryz.prog 92 3 3:=⟨by kernel_rfl⟩
instance:FV Tryz.prog 92 3 3 3:=⟨by kernel_rfl⟩
instance:FO Tryz.prog 92 4 4:=⟨by kernel_rfl⟩
instance:FV Tryz.prog 92 4 4 3:=⟨by kernel_rfl⟩
instance:BT Tryz.prog 92:=⟨by kernel_rfl⟩
instance:AG Tryz.prog 92 5:=⟨by kernel_rfl⟩
instance:ZV Tryz.prog 92 [.int .i64 0, .int .i64 0, .int .i64 0, .int .i64 0, .int .i64 0]:=⟨by kernel_rfl⟩
instance:ST Tryz.prog 101 25 1 24:=⟨by kernel_rfl⟩
instance:FO Tryz.prog 109 0 0:=⟨by kernel_rfl⟩
instance:FV Tryz.prog 109 0 0 3:=⟨by kernel_rfl⟩
instance:FO Tryz.prog 109 1 1:=⟨by kernel_rfl⟩
instance:FV Tryz.prog 109 1 1 3:=⟨by kernel_rfl⟩
instance:BT Tryz.prog 109:=⟨by kernel_rfl⟩
instance:AG Tryz.prog 109 2:=⟨by kernel_rfl⟩
instance:ZV Tryz.prog 109 [.int .i64 0, .int .i64 0]:=⟨by kernel_rfl⟩
instance:FO Tryz.prog 112 0 0:=⟨by kernel_rfl⟩
instance:FV Tryz.prog 112 0 0 3:=⟨by kernel_rfl⟩
instance:FO Tryz.prog 112 1 1:=⟨by kernel_rfl⟩
instance:FV Tryz.prog 112 1 1 3:=⟨by kernel_rfl⟩
instance:FO Tryz.prog 112 2 2:=⟨by kernel_rfl⟩
instance:FV Tryz.prog 112 2 2 3:=⟨by kernel_rfl⟩
instance:FO Tryz.prog 112 3 3:=⟨by kernel_rfl⟩
instance:FO Tryz.prog 112 4 4:=⟨by kernel_rfl⟩
instance:FO Tryz.prog 112 5 5:=⟨by kernel_rfl⟩
instance:FV Tryz.prog 112 5 5 3:=⟨by kernel_rfl⟩
instance:FO Tryz.prog 112 6 6:=⟨by kernel_rfl⟩
instance:FO Tryz.prog 112 7 7:=⟨by kernel_rfl⟩
instance:BT Tryz.prog 112:=⟨by kernel_rfl⟩
instance:AG Tryz.prog 112 8:=⟨by kernel_rfl⟩
instance:ZV Tryz.prog 112 [.int .i64 0, .int .i64 0, .int .i64 0, .int .u64 0, .int .i64 0, .int .i64 0, .int .i64 0, .int .i64 0]:=⟨by kernel_rfl⟩
instance:FO Tryz.prog 117 0 0:=⟨by kernel_rfl⟩
instance:FV Tryz.prog 117 0 0 37:=⟨by kernel_rfl⟩
instance:BT Tryz.prog 117:=⟨by kernel_rfl⟩
instance:ZV Tryz.prog 117 [.pointer none]:=⟨by kernel_rfl⟩
instance:OC Tryz.prog 122:=⟨by kernel_rfl⟩
instance:PT Tryz.prog 122 261:=⟨by kernel_rfl⟩
instance:OC Tryz.prog 123:=⟨by kernel_rfl⟩
instance:PT Tryz.prog 123 231:=⟨by kernel_rfl⟩
instance:OC Tryz.prog 124:=⟨by kernel_rfl⟩
instance:PT Tryz.prog 124 237:=⟨by kernel_rfl⟩
instance:OC Tryz.prog 125:=⟨by kernel_rfl⟩
instance:PT Tryz.prog 125 269:=⟨by kernel_rfl⟩
instance:OC Tryz.prog 126:=⟨by kernel_rfl⟩
instance:PT Tryz.prog 126 272:=⟨by kernel_rfl⟩
instance:FO Tryz.prog 128 0 0:=⟨by kernel_rfl⟩
instance:FV Tryz.prog 128 0 0 52:=⟨by kernel_rfl⟩
instance:FO Tryz.prog 128 1 1:=⟨by kernel_rfl⟩
instance:FV Tryz.prog 128 1 1 64:=⟨by kernel_rfl⟩
instance:FO Tryz.prog 128 2 2:=⟨by kernel_rfl⟩
instance:FV Tryz.prog 128 2 2 122:=⟨by kernel_rfl⟩
instance:FO Tryz.prog 128 3 3:=⟨by kernel_rfl⟩
instance:FV Tryz.prog 128 3 3 123:=⟨by kernel_rfl⟩
instance:FO Tryz.prog 128 4 4:=⟨by kernel_rfl⟩
instance:FV Tryz.prog 128 4 4 124:=⟨by kernel_rfl⟩
instance:FO Tryz.prog 128 5 5:=⟨by kernel_rfl⟩
instance:FV Tryz.prog 128 5 5 78:=⟨by kernel_rfl⟩
instance:FO Tryz.prog 128 6 6:=⟨by kernel_rfl⟩
instance:FV Tryz.prog 128 6 6 125:=⟨by kernel_rfl⟩
instance:FO Tryz.prog 128 7 7:=⟨by kernel_rfl⟩
instance:FV Tryz.prog 128 7 7 126:=⟨by kernel_rfl⟩
instance:FO Tryz.prog 128 8 8:=⟨by kernel_rfl⟩
instance:FV Tryz.prog 128 8 8 25:=⟨by kernel_rfl⟩
instance:BT Tryz.prog 128:=⟨by kernel_rfl⟩
instance:ZV Tryz.prog 128 [.pointer none, .pointer none, .pointer none, .pointer none, .pointer none, .pointer none, .pointer none, .pointer none, .slice none 0 0]:=⟨by kernel_rfl⟩
instance:AT Tryz.prog 139 64 3 1:=⟨by kernel_rfl⟩
instance:FO Tryz.prog 141 0 0:=⟨by kernel_rfl⟩
instance:FV Tryz.prog 141 0 0 3:=⟨by kernel_rfl⟩
instance:FO Tryz.prog 141 1 1:=⟨by kernel_rfl⟩
instance:FO Tryz.prog 141 2 2:=⟨by kernel_rfl⟩
instance:BT Tryz.prog 141:=⟨by kernel_rfl⟩
instance:ZV Tryz.prog 141 [.int .i64 0, .slice none 0 0, .int .i64 0, .int .i64 0, .int .i64 0, .int .i64 0, .int .i64 0, .int .i64 0, .int .i64 0, .int .i64 0, .int .i64 0, .int .i64 0, .int .i64 0, .int .i64 0, .int .i64 0, .int .i64 0, .int .i64 0, .int .i64 0, .int .i64 0, .int .i64 0, .int .i64 0, .int .i64 0, .int .i64 0, .int .i64 0, .int .i64 0, .int .i64 0, .int .i64 0, .int .i64 0, .int .i64 0, .int .i64 0, .int .i64 0, .int .i64 0, .int .i64 0, .int .i64 0, .int .i64 0, .int .i64 0, .int .i64 0, .int .i64 0, .int .i64 0, .int .i64 0, .int .i64 0, .int .i64 0, .int .i64 0, .int .i64 0, .int .i64 0, .int .i64 0, .int .i64 0, .int .i64 0, .int .i64 0, .int .i64 0, .int .i64 0, .int .i64 0, .int .i64 0, .int .i64 0, .int .i64 0, .int .i64 0, .int .i64 0, .int .i64 0, .int .i64 0, .int .i64 0, .int .i64 0, .int .i64 0, .int .i64 0, .int .i64 0, .int .i64 0, .int .i64 0]:=⟨by kernel_rfl⟩
instance:OC Tryz.prog 142:=⟨by kernel_rfl⟩
instance:OC Tryz.prog 143:=⟨by kernel_rfl⟩
instance:FO Tryz.prog 145 0 0:=⟨by kernel_rfl⟩
instance:FV Tryz.prog 145 0 0 142:=⟨by kernel_rfl⟩
instance:FO Tryz.prog 145 1 1:=⟨by kernel_rfl⟩
instance:FV Tryz.prog 145 1 1 143:=⟨by kernel_rfl⟩
instance:BT Tryz.prog 145:=⟨by kernel_rfl⟩
instance:ZV Tryz.prog 145 [.pointer none, .pointer none]:=⟨by kernel_rfl⟩
instance:FO Tryz.prog 147 0 0:=⟨by kernel_rfl⟩
instance:BT Tryz.prog 147:=⟨by kernel_rfl⟩
instance:ZV Tryz.prog 147 [.slice none 0 0]:=⟨by kernel_rfl⟩
instance:FO Tryz.prog 149 0 0:=⟨by kernel_rfl⟩
instance:BT Tryz.prog 149:=⟨by kernel_rfl⟩
instance:ZV Tryz.prog 149 [.slice none 0 0]:=⟨by kernel_rfl⟩
instance:AT Tryz.prog 150 32 3 1:=⟨by kernel_rfl⟩
instance:FO Tryz.prog 152 0 0:=⟨by kernel_rfl⟩
instance:FO Tryz.prog 152 1 80:=⟨by kernel_rfl⟩
instance:BT Tryz.prog 152:=⟨by kernel_rfl⟩
instance:ZV Tryz.prog 152 [.int .i64 0, .bool false, .int .i64 0, .int .i64 0, .int .i64 0, .int .i64 0, .int .i64 0, .int .i64 0, .int .i64 0, .int .i64 0, .int .i64 0, .bool false, .int .i64 0, .int .i64 0, .int .i64 0, .int .i64 0, .int .i64 0, .int .i64 0, .int .i64 0, .int .i64 0, .int .i64 0, .bool false, .int .i64 0, .int .i64 0, .int .i64 0, .int .i64 0, .int .i64 0, .int .i64 0, .int .i64 0, .int .i64 0, .int .i64 0, .bool false, .int .i64 0, .int .i64 0, .int .i64 0, .int .i64 0, .int .i64 0, .int .i64 0, .int .i64 0, .int .i64 0, .int .i64 0, .bool false, .int .i64 0, .int .i64 0, .int .i64 0, .int .i64 0, .int .i64 0, .int .i64 0, .int .i64 0, .int .i64 0, .int .i64 0, .bool false, .int .i64 0, .int .i64 0, .int .i64 0, .int .i64 0, .int .i64 0, .int .i64 0, .int .i64 0, .int .i64 0, .int .i64 0, .bool false, .int .i64 0, .int .i64 0, .int .i64 0, .int .i64 0, .int .i64 0, .int .i64 0, .int .i64 0, .int .i64 0, .int .i64 0, .bool false, .int .i64 0, .int .i64 0, .int .i64 0, .int .i64 0, .int .i64 0, .int .i64 0, .int .i64 0, .int .i64 0, .int .i64 0, .int .i64 0, .int .i64 0, .int .i64 0, .int .i64 0, .int .i64 0, .int .i64 0, .int .i64 0, .int .i64 0, .int .i64 0, .int .i64 0, .int .i64 0, .int .i64 0, .int .i64 0, .int .i64 0, .int .i64 0, .int .i64 0, .int .i64 0, .int .i64 0, .int .i64 0, .int .i64 0, .int .i64 0, .int .i64 0, .int .i64 0, .int .i64 0, .int .i64 0, .int .i64 0, .int .i64 0, .int .i64 0, .int .i64 0, .int .i64 0, .int .i64 0]:=⟨by kernel_rfl⟩
instance:ST Tryz.prog 153 71 1 8:=⟨by kernel_rfl⟩
instance:OC Tryz.prog 153:=⟨by kernel_rfl⟩
instance:ST Tryz.prog 159 265 3 24:=⟨by kernel_rfl⟩
instance:OC Tryz.prog 159:=⟨by kernel_rfl⟩
instance:FO Tryz.prog 161 0 0:=⟨by kernel_rfl⟩
instance:BT Tryz.prog 161:=⟨by kernel_rfl⟩
instance:ZV Tryz.prog 161 [.slice none 0 0]:=⟨by kernel_rfl⟩
instance:OC Tryz.prog 168:=⟨by kernel_rfl⟩
instance:MT Tryz.prog 168 3 76:=⟨by kernel_rfl⟩
instance:FO Tryz.prog 170 0 0:=⟨by kernel_rfl⟩
instance:FV Tryz.prog 170 0 0 168:=⟨by kernel_rfl⟩
instance:BT Tryz.prog 170:=⟨by kernel_rfl⟩
instance:ZV Tryz.prog 170 [.map none]:=⟨by kernel_rfl⟩
instance:OC Tryz.prog 181:=⟨by kernel_rfl⟩
instance:OC Tryz.prog 182:=⟨by kernel_rfl⟩
instance:ST Tryz.prog 201 249 2 16:=⟨by kernel_rfl⟩
instance:OC Tryz.prog 201:=⟨by kernel_rfl⟩
instance:FO Tryz.prog 203 0 0:=⟨by kernel_rfl⟩
instance:BT Tryz.prog 203:=⟨by kernel_rfl⟩
instance:ZV Tryz.prog 203 [.slice none 0 0]:=⟨by kernel_rfl⟩
instance:ST Tryz.prog 204 306 3 40:=⟨by kernel_rfl⟩
instance:OC Tryz.prog 204:=⟨by kernel_rfl⟩
instance:FO Tryz.prog 206 0 0:=⟨by kernel_rfl⟩
instance:BT Tryz.prog 206:=⟨by kernel_rfl⟩
instance:ZV Tryz.prog 206 [.slice none 0 0]:=⟨by kernel_rfl⟩
instance:FV Tryz.prog 220 0 0 109:=⟨by kernel_rfl⟩
instance:FV Tryz.prog 220 1 2 112:=⟨by kernel_rfl⟩
instance:BT Tryz.prog 220:=⟨by kernel_rfl⟩
instance:AG Tryz.prog 220 10:=⟨by kernel_rfl⟩
instance:ZV Tryz.prog 220 [.int .i64 0, .int .i64 0, .int .i64 0, .int .i64 0, .int .i64 0, .int .u64 0, .int .i64 0, .int .i64 0, .int .i64 0, .int .i64 0]:=⟨by kernel_rfl⟩
instance:FO Tryz.prog 222 0 0:=⟨by kernel_rfl⟩
instance:FV Tryz.prog 222 0 0 109:=⟨by kernel_rfl⟩
instance:FO Tryz.prog 222 1 2:=⟨by kernel_rfl⟩
instance:FV Tryz.prog 222 1 2 3:=⟨by kernel_rfl⟩
instance:BT Tryz.prog 222:=⟨by kernel_rfl⟩
instance:AG Tryz.prog 222 3:=⟨by kernel_rfl⟩
instance:ZV Tryz.prog 222 [.int .i64 0, .int .i64 0, .int .i64 0]:=⟨by kernel_rfl⟩
instance:OC Tryz.prog 227:=⟨by kernel_rfl⟩
instance:PT Tryz.prog 227 340:=⟨by kernel_rfl⟩
instance:OC Tryz.prog 229:=⟨by kernel_rfl⟩
instance:PT Tryz.prog 229 321:=⟨by kernel_rfl⟩
instance:FO Tryz.prog 231 0 0:=⟨by kernel_rfl⟩
instance:FV Tryz.prog 231 0 0 227:=⟨by kernel_rfl⟩
instance:FO Tryz.prog 231 1 1:=⟨by kernel_rfl⟩
instance:FV Tryz.prog 231 1 1 229:=⟨by kernel_rfl⟩
instance:BT Tryz.prog 231:=⟨by kernel_rfl⟩
instance:ZV Tryz.prog 231 [.pointer none, .pointer none]:=⟨by kernel_rfl⟩
instance:FO Tryz.prog 237 0 0:=⟨by kernel_rfl⟩
instance:FO Tryz.prog 237 1 80:=⟨by kernel_rfl⟩
instance:BT Tryz.prog 237:=⟨by kernel_rfl⟩
instance:ZV Tryz.prog 237 [.int .i64 0, .bool false, .int .i64 0, .int .i64 0, .int .i64 0, .int .i64 0, .int .i64 0, .int .i64 0, .int .i64 0, .int .i64 0, .int .i64 0, .bool false, .int .i64 0, .int .i64 0, .int .i64 0, .int .i64 0, .int .i64 0, .int .i64 0, .int .i64 0, .int .i64 0, .int .i64 0, .bool false, .int .i64 0, .int .i64 0, .int .i64 0, .int .i64 0, .int .i64 0, .int .i64 0, .int .i64 0, .int .i64 0, .int .i64 0, .bool false, .int .i64 0, .int .i64 0, .int .i64 0, .int .i64 0, .int .i64 0, .int .i64 0, .int .i64 0, .int .i64 0, .int .i64 0, .bool false, .int .i64 0, .int .i64 0, .int .i64 0, .int .i64 0, .int .i64 0, .int .i64 0, .int .i64 0, .int .i64 0, .int .i64 0, .bool false, .int .i64 0, .int .i64 0, .int .i64 0, .int .i64 0, .int .i64 0, .int .i64 0, .int .i64 0, .int .i64 0, .int .i64 0, .bool false, .int .i64 0, .int .i64 0, .int .i64 0, .int .i64 0, .int .i64 0, .int .i64 0, .int .i64 0, .int .i64 0, .int .i64 0, .bool false, .int .i64 0, .int .i64 0, .int .i64 0, .int .i64 0, .int .i64 0, .int .i64 0, .int .i64 0, .int .i64 0, .int .i64 0, .int .i64 0, .int .i64 0, .int .i64 0, .int .i64 0, .int .i64 0, .int .i64 0, .int .i64 0, .int .i64 0, .int .i64 0, .int .i64 0, .int .i64 0, .int .i64 0, .int .i64 0, .int .i64 0, .int .i64 0, .int .i64 0, .int .i64 0, .int .i64 0, .int .i64 0, .int .i64 0, .int .i64 0, .int .i64 0, .int .i64 0, .int .i64 0, .int .i64 0, .int .i64 0, .int .i64 0, .int .i64 0, .int .i64 0, .int .i64 0, .int .i64 0]:=⟨by kernel_rfl⟩
instance:ST Tryz.prog 242 247 2 32:=⟨by kernel_rfl⟩
instance:OC Tryz.prog 242:=⟨by kernel_rfl⟩
instance:FO Tryz.prog 244 0 0:=⟨by kernel_rfl⟩
instance:BT Tryz.prog 244:=⟨by kernel_rfl⟩
instance:ZV Tryz.prog 244 [.slice none 0 0]:=⟨by kernel_rfl⟩
instance:ST Tryz.prog 245 112 8 64:=⟨by kernel_rfl⟩
instance:OC Tryz.prog 245:=⟨by kernel_rfl⟩
instance:ZO Tryz.prog 245 (.slice none 0 0):=⟨by kernel_rfl⟩
instance:FO Tryz.prog 247 0 0:=⟨by kernel_rfl⟩
instance:FV Tryz.prog 247 0 0 3:=⟨by kernel_rfl⟩
instance:FO Tryz.prog 247 1 1:=⟨by kernel_rfl⟩
instance:FV Tryz.prog 247 1 1 245:=⟨by kernel_rfl⟩
instance:BT Tryz.prog 247:=⟨by kernel_rfl⟩
instance:AG Tryz.prog 247 2:=⟨by kernel_rfl⟩
instance:ZV Tryz.prog 247 [.int .i64 0, .slice none 0 0]:=⟨by kernel_rfl⟩
instance:FO Tryz.prog 249 0 0:=⟨by kernel_rfl⟩
instance:FV Tryz.prog 249 0 0 3:=⟨by kernel_rfl⟩
instance:FO Tryz.prog 249 1 1:=⟨by kernel_rfl⟩
instance:FV Tryz.prog 249 1 1 3:=⟨by kernel_rfl⟩
instance:BT Tryz.prog 249:=⟨by kernel_rfl⟩
instance:AG Tryz.prog 249 2:=⟨by kernel_rfl⟩
instance:ZV Tryz.prog 249 [.int .i64 0, .int .i64 0]:=⟨by kernel_rfl⟩
instance:ST Tryz.prog 250 255 8 64:=⟨by kernel_rfl⟩
instance:OC Tryz.prog 250:=⟨by kernel_rfl⟩
instance:FO Tryz.prog 252 0 0:=⟨by kernel_rfl⟩
instance:FV Tryz.prog 252 0 0 250:=⟨by kernel_rfl⟩
instance:BT Tryz.prog 252:=⟨by kernel_rfl⟩
instance:ZV Tryz.prog 252 [.slice none 0 0]:=⟨by kernel_rfl⟩
instance:FO Tryz.prog 254 0 0:=⟨by kernel_rfl⟩
instance:FV Tryz.prog 254 0 0 153:=⟨by kernel_rfl⟩
instance:BT Tryz.prog 254:=⟨by kernel_rfl⟩
instance:ZV Tryz.prog 254 [.slice none 0 0]:=⟨by kernel_rfl⟩
instance:AT Tryz.prog 255 8 71 1:=⟨by kernel_rfl⟩
instance:AG Tryz.prog 255 8:=⟨by kernel_rfl⟩
instance:ZV Tryz.prog 255 [.int .u64 0, .int .u64 0, .int .u64 0, .int .u64 0, .int .u64 0, .int .u64 0, .int .u64 0, .int .u64 0]:=⟨by kernel_rfl⟩
instance:FV Tryz.prog 257 0 0 3:=⟨by kernel_rfl⟩
instance:FV Tryz.prog 257 1 1 3:=⟨by kernel_rfl⟩
instance:FV Tryz.prog 257 2 2 3:=⟨by kernel_rfl⟩
instance:BT Tryz.prog 257:=⟨by kernel_rfl⟩
instance:AG Tryz.prog 257 3:=⟨by kernel_rfl⟩
instance:ZV Tryz.prog 257 [.int .i64 0, .int .i64 0, .int .i64 0]:=⟨by kernel_rfl⟩
instance:FO Tryz.prog 261 0 0:=⟨by kernel_rfl⟩
instance:FV Tryz.prog 261 0 0 3:=⟨by kernel_rfl⟩
instance:FO Tryz.prog 261 1 1:=⟨by kernel_rfl⟩
instance:FO Tryz.prog 261 2 65:=⟨by kernel_rfl⟩
instance:BT Tryz.prog 261:=⟨by kernel_rfl⟩
instance:ZV Tryz.prog 261 [.int .i64 0, .int .i64 0, .int .i64 0, .int .i64 0, .int .i64 0, .int .i64 0, .int .i64 0, .int .i64 0, .int .i64 0, .int .i64 0, .int .i64 0, .int .i64 0, .int .i64 0, .int .i64 0, .int .i64 0, .int .i64 0, .int .i64 0, .int .i64 0, .int .i64 0, .int .i64 0, .int .i64 0, .int .i64 0, .int .i64 0, .int .i64 0, .int .i64 0, .int .i64 0, .int .i64 0, .int .i64 0, .int .i64 0, .int .i64 0, .int .i64 0, .int .i64 0, .int .i64 0, .int .i64 0, .int .i64 0, .int .i64 0, .int .i64 0, .int .i64 0, .int .i64 0, .int .i64 0, .int .i64 0, .int .i64 0, .int .i64 0, .int .i64 0, .int .i64 0, .int .i64 0, .int .i64 0, .int .i64 0, .int .i64 0, .int .i64 0, .int .i64 0, .int .i64 0, .int .i64 0, .int .i64 0, .int .i64 0, .int .i64 0, .int .i64 0, .int .i64 0, .int .i64 0, .int .i64 0, .int .i64 0, .int .i64 0, .int .i64 0, .int .i64 0, .int .i64 0, .slice none 0 0]:=⟨by kernel_rfl⟩
instance:OC Tryz.prog 262:=⟨by kernel_rfl⟩
instance:FV Tryz.prog 265 0 0 3:=⟨by kernel_rfl⟩
instance:FV Tryz.prog 265 2 2 262:=⟨by kernel_rfl⟩
instance:BT Tryz.prog 265:=⟨by kernel_rfl⟩
instance:ZV Tryz.prog 265 [.int .i64 0, .int .i64 0, .pointer none]:=⟨by kernel_rfl⟩
instance:AT Tryz.prog 267 8 25 1:=⟨by kernel_rfl⟩
instance:FO Tryz.prog 269 0 0:=⟨by kernel_rfl⟩
instance:BT Tryz.prog 269:=⟨by kernel_rfl⟩
instance:ZV Tryz.prog 269 [.slice none 0 0, .slice none 0 0, .slice none 0 0, .slice none 0 0, .slice none 0 0, .slice none 0 0, .slice none 0 0, .slice none 0 0]:=⟨by kernel_rfl⟩
instance:OC Tryz.prog 270:=⟨by kernel_rfl⟩
instance:MT Tryz.prog 270 3 280:=⟨by kernel_rfl⟩
instance:FO Tryz.prog 272 0 0:=⟨by kernel_rfl⟩
instance:FV Tryz.prog 272 0 0 270:=⟨by kernel_rfl⟩
instance:BT Tryz.prog 272:=⟨by kernel_rfl⟩
instance:ZV Tryz.prog 272 [.map none]:=⟨by kernel_rfl⟩
instance:IT Tryz.prog 279 .u64:=⟨by kernel_rfl⟩
instance:PT Tryz.prog 280 282:=⟨by kernel_rfl⟩
instance:ZO Tryz.prog 280 (.pointer none):=⟨by kernel_rfl⟩
instance:BT Tryz.prog 282:=⟨by kernel_rfl⟩
instance:ZV Tryz.prog 282 [.slice none 0 0, .bool false]:=⟨by kernel_rfl⟩
instance:ST Tryz.prog 292 303 3 24:=⟨by kernel_rfl⟩
instance:OC Tryz.prog 292:=⟨by kernel_rfl⟩
instance:FO Tryz.prog 294 0 0:=⟨by kernel_rfl⟩
instance:BT Tryz.prog 294:=⟨by kernel_rfl⟩
instance:ZV Tryz.prog 294 [.slice none 0 0]:=⟨by kernel_rfl⟩
instance:OC Tryz.prog 295:=⟨by kernel_rfl⟩
instance:BT Tryz.prog 301:=⟨by kernel_rfl⟩
instance:ZV Tryz.prog 301 [.int .i64 0, .int .i64 0, .int .i64 0, .bool false, .bool false, .int .i64 0, .int .i64 0, .int .i64 0, .bool false, .bool false, .int .i64 0, .int .i64 0, .int .i64 0, .bool false, .bool false, .int .i64 0, .int .i64 0, .int .i64 0, .bool false, .bool false, .int .i64 0, .int .i64 0, .int .i64 0, .bool false, .bool false, .int .i64 0, .int .i64 0, .int .i64 0, .bool false, .bool false, .int .i64 0, .int .i64 0, .int .i64 0, .bool false, .bool false, .int .i64 0, .int .i64 0, .int .i64 0, .bool false, .bool false, .int .i64 0, .int .i64 0, .int .i64 0, .int .i64 0]:=⟨by kernel_rfl⟩
instance:FO Tryz.prog 303 0 0:=⟨by kernel_rfl⟩
instance:FV Tryz.prog 303 0 0 3:=⟨by kernel_rfl⟩
instance:FO Tryz.prog 303 1 1:=⟨by kernel_rfl⟩
instance:FV Tryz.prog 303 2 2 295:=⟨by kernel_rfl⟩
instance:BT Tryz.prog 303:=⟨by kernel_rfl⟩
instance:ZV Tryz.prog 303 [.int .i64 0, .int .i64 0, .pointer none]:=⟨by kernel_rfl⟩
instance:FO Tryz.prog 306 0 0:=⟨by kernel_rfl⟩
instance:FV Tryz.prog 306 0 0 3:=⟨by kernel_rfl⟩
instance:BT Tryz.prog 306:=⟨by kernel_rfl⟩
instance:ZV Tryz.prog 306 [.int .i64 0, .slice none 0 0, .bool false]:=⟨by kernel_rfl⟩
instance:OC Tryz.prog 318:=⟨by kernel_rfl⟩
instance:PT Tryz.prog 318 323:=⟨by kernel_rfl⟩
instance:ZO Tryz.prog 318 (.pointer none):=⟨by kernel_rfl⟩
instance:OC Tryz.prog 319:=⟨by kernel_rfl⟩
instance:MT Tryz.prog 319 109 318:=⟨by kernel_rfl⟩
instance:FO Tryz.prog 321 0 0:=⟨by kernel_rfl⟩
instance:FV Tryz.prog 321 0 0 318:=⟨by kernel_rfl⟩
instance:FO Tryz.prog 321 1 1:=⟨by kernel_rfl⟩
instance:FV Tryz.prog 321 1 1 319:=⟨by kernel_rfl⟩
instance:BT Tryz.prog 321:=⟨by kernel_rfl⟩
instance:ZV Tryz.prog 321 [.pointer none, .map none]:=⟨by kernel_rfl⟩
instance:FO Tryz.prog 323 0 0:=⟨by kernel_rfl⟩
instance:FV Tryz.prog 323 0 0 109:=⟨by kernel_rfl⟩
instance:FO Tryz.prog 323 1 2:=⟨by kernel_rfl⟩
instance:FV Tryz.prog 323 1 2 3:=⟨by kernel_rfl⟩
instance:FO Tryz.prog 323 2 3:=⟨by kernel_rfl⟩
instance:FV Tryz.prog 323 2 3 318:=⟨by kernel_rfl⟩
instance:FO Tryz.prog 323 3 4:=⟨by kernel_rfl⟩
instance:FV Tryz.prog 323 3 4 318:=⟨by kernel_rfl⟩
instance:BT Tryz.prog 323:=⟨by kernel_rfl⟩
instance:AG Tryz.prog 323 5:=⟨by kernel_rfl⟩
instance:ZV Tryz.prog 323 [.int .i64 0, .int .i64 0, .int .i64 0, .pointer none, .pointer none]:=⟨by kernel_rfl⟩
instance:BT Tryz.prog 337:=⟨by kernel_rfl⟩
instance:ZV Tryz.prog 337 [.int .i64 0, .int .i64 0, .int .i64 0, .bool false, .bool false, .int .i64 0, .int .i64 0, .int .i64 0, .bool false, .bool false, .int .i64 0, .int .i64 0, .int .i64 0, .int .i64 0, .bool false, .bool false, .int .i64 0, .int .i64 0, .int .i64 0, .bool false, .bool false, .int .i64 0, .int .i64 0, .int .i64 0, .int .i64 0, .bool false, .bool false, .int .i64 0, .int .i64 0, .int .i64 0, .bool false, .bool false, .int .i64 0, .int .i64 0, .int .i64 0, .int .i64 0, .bool false, .bool false, .int .i64 0, .int .i64 0, .int .i64 0, .bool false, .bool false, .int .i64 0]:=⟨by kernel_rfl⟩
instance:OC Tryz.prog 338:=⟨by kernel_rfl⟩
instance:MT Tryz.prog 338 3 245:=⟨by kernel_rfl⟩
instance:FO Tryz.prog 340 0 0:=⟨by kernel_rfl⟩
instance:FV Tryz.prog 340 0 0 338:=⟨by kernel_rfl⟩
instance:BT Tryz.prog 340:=⟨by kernel_rfl⟩
instance:ZV Tryz.prog 340 [.map none]:=⟨by kernel_rfl⟩
instance:EN Tryz.prog 5:=⟨Tryz.call5⟩
instance:EN Tryz.prog 6:=⟨Tryz.call6⟩
instance:EN Tryz.prog 7:=⟨Tryz.call7⟩
instance:EN Tryz.prog 8:=⟨Tryz.call8⟩
instance:EN Tryz.prog 9:=⟨Tryz.call9⟩
instance:EN Tryz.prog 10:=⟨Tryz.call10⟩
instance:EN Tryz.prog 11:=⟨Tryz.call11⟩
instance:EN Tryz.prog 12:=⟨Tryz.call12⟩
instance:EN Tryz.prog 13:=⟨Tryz.call13⟩
instance:EN Tryz.prog 14:=⟨Tryz.call14⟩
instance:EN Tryz.prog 15:=⟨Tryz.call15⟩
instance:EN Tryz.prog 16:=⟨Tryz.call16⟩
instance:EN Tryz.prog 17:=⟨Tryz.call17⟩
instance:EN Tryz.prog 18:=⟨Tryz.call18⟩
instance:EN Tryz.prog 19:=⟨Tryz.call19⟩
instance:EN Tryz.prog 20:=⟨Tryz.call20⟩
instance:EN Tryz.prog 22:=⟨Tryz.call22⟩
instance:EN Tryz.prog 23:=⟨Tryz.call23⟩
instance:EN Tryz.prog 24:=⟨Tryz.call24⟩
instance:EN Tryz.prog 25:=⟨Tryz.call25⟩
instance:EN Tryz.prog 26:=⟨Tryz.call26⟩
instance:EN Tryz.prog 27:=⟨Tryz.call27⟩
instance:EN Tryz.prog 28:=⟨Tryz.call28⟩
instance:EN Tryz.prog 29:=⟨Tryz.call29⟩
instance:EN Tryz.prog 30:=⟨Tryz.call30⟩
instance:EN Tryz.prog 31:=⟨Tryz.call31⟩
instance:EN Tryz.prog 32:=⟨Tryz.call32⟩
instance:EN Tryz.prog 33:=⟨Tryz.call33⟩
instance:EN Tryz.prog 34:=⟨Tryz.call34⟩
instance:EN Tryz.prog 35:=⟨Tryz.call35⟩
instance:EN Tryz.prog 36:=⟨Tryz.call36⟩
instance:EN Tryz.prog 37:=⟨Tryz.call37⟩
instance:EN Tryz.prog 38:=⟨Tryz.call38⟩
instance:EN Tryz.prog 39:=⟨Tryz.call39⟩
instance:EN Tryz.prog 40:=⟨Tryz.call40⟩
instance:EN Tryz.prog 41:=⟨Tryz.call41⟩
instance:EN Tryz.prog 42:=⟨Tryz.call42⟩
instance:EN Tryz.prog 43:=⟨Tryz.call43⟩
instance:EN Tryz.prog 44:=⟨Tryz.call44⟩
instance:EN Tryz.prog 45:=⟨Tryz.call45⟩
instance:EN Tryz.prog 46:=⟨Tryz.call46⟩
instance:EN Tryz.prog 47:=⟨Tryz.call47⟩
instance:EN Tryz.prog 48:=⟨Tryz.call48⟩
instance:EN Tryz.prog 49:=⟨Tryz.call49⟩
instance:EN Tryz.prog 50:=⟨Tryz.call50⟩
instance:EN Tryz.prog 51:=⟨Tryz.call51⟩
instance:EN Tryz.prog 52:=⟨Tryz.call52⟩
instance:EN Tryz.prog 53:=⟨Tryz.call53⟩
instance:EN Tryz.prog 54:=⟨Tryz.call54⟩
instance:EN Tryz.prog 55:=⟨Tryz.call55⟩
instance:EN Tryz.prog 56:=⟨Tryz.call56⟩
instance:EN Tryz.prog 57:=⟨Tryz.call57⟩
instance:EN Tryz.prog 58:=⟨Tryz.call58⟩
instance:EN Tryz.prog 59:=⟨Tryz.call59⟩
instance:EN Tryz.prog 60:=⟨Tryz.call60⟩
instance:EN Tryz.prog 61:=⟨Tryz.call61⟩
instance:EN Tryz.prog 64:=⟨Tryz.call64⟩
instance:EN Tryz.prog 65:=⟨Tryz.call65⟩
instance:EN Tryz.prog 66:=⟨Tryz.call66⟩
instance:EN Tryz.prog 67:=⟨Tryz.call67⟩
instance:EN Tryz.prog 68:=⟨Tryz.call68⟩
instance:EN Tryz.prog 69:=⟨Tryz.call69⟩
instance:EN Tryz.prog 70:=⟨Tryz.call70⟩
instance:EN Tryz.prog 71:=⟨Tryz.call71⟩
instance:EN Tryz.prog 72:=⟨Tryz.call72⟩
instance:EN Tryz.prog 73:=⟨Tryz.call73⟩
instance:EN Tryz.prog 74:=⟨Tryz.call74⟩
instance:EN Tryz.prog 75:=⟨Tryz.call75⟩
instance:EN Tryz.prog 76:=⟨Tryz.call76⟩
instance:EN Tryz.prog 77:=⟨Tryz.call77⟩
instance:EN Tryz.prog 78:=⟨Tryz.call78⟩
instance:EN Tryz.prog 79:=⟨Tryz.call79⟩
instance:EN Tryz.prog 80:=⟨Tryz.call80⟩
instance:EN Tryz.prog 81:=⟨Tryz.call81⟩
instance:EN Tryz.prog 82:=⟨Tryz.call82⟩
instance:EN Tryz.prog 83:=⟨Tryz.call83⟩
instance:EN Tryz.prog 84:=⟨Tryz.call84⟩
instance:EN Tryz.prog 85:=⟨Tryz.call85⟩
instance:EN Tryz.prog 86:=⟨Tryz.call86⟩
instance:EN Tryz.prog 87:=⟨Tryz.call87⟩
instance:EN Tryz.prog 88:=⟨Tryz.call88⟩
instance:EN Tryz.prog 89:=⟨Tryz.call89⟩
instance:EN Tryz.prog 90:=⟨Tryz.call90⟩
instance:EN Tryz.prog 91:=⟨Tryz.call91⟩
instance:EN Tryz.prog 93:=⟨Tryz.call93⟩
instance:EN Tryz.prog 94:=⟨Tryz.call94⟩
instance:EN Tryz.prog 95:=⟨Tryz.call95⟩
instance:EN Tryz.prog 96:=⟨Tryz.call96⟩
instance:EN Tryz.prog 97:=⟨Tryz.call97⟩
instance:EN Tryz.prog 98:=⟨Tryz.call98⟩
instance:EN Tryz.prog 99:=⟨Tryz.call99⟩
instance:EN Tryz.prog 100:=⟨Tryz.call100⟩
instance:EN Tryz.prog 101:=⟨Tryz.call101⟩
instance:EN Tryz.prog 102:=⟨Tryz.call102⟩
instance:EN Tryz.prog 103:=⟨Tryz.call103⟩
instance:EN Tryz.prog 104:=⟨Tryz.call104⟩
instance:EN Tryz.prog 105:=⟨Tryz.call105⟩
instance:EN Tryz.prog 106:=⟨Tryz.call106⟩
instance:EN Tryz.prog 107:=⟨Tryz.call107⟩
instance:EN Tryz.prog 108:=⟨Tryz.call108⟩
instance:EN Tryz.prog 109:=⟨Tryz.call109⟩
instance:EN Tryz.prog 110:=⟨Tryz.call110⟩
instance:EN Tryz.prog 111:=⟨Tryz.call111⟩
instance:EN Tryz.prog 112:=⟨Tryz.call112⟩
instance:EN Tryz.prog 113:=⟨Tryz.call113⟩
instance:EN Tryz.prog 114:=⟨Tryz.call114⟩
instance:EN Tryz.prog 115:=⟨Tryz.call115⟩
instance:EN Tryz.prog 116:=⟨Tryz.call116⟩
instance:EN Tryz.prog 117:=⟨Tryz.call117⟩
instance:EN Tryz.prog 119:=⟨Tryz.call119⟩
instance:EN Tryz.prog 120:=⟨Tryz.call120⟩
instance:EN Tryz.prog 121:=⟨Tryz.call121⟩
instance:EN Tryz.prog 122:=⟨Tryz.call122⟩
instance:EN Tryz.prog 123:=⟨Tryz.call123⟩
instance:EN Tryz.prog 124:=⟨Tryz.call124⟩
instance:EN Tryz.prog 125:=⟨Tryz.call125⟩
instance:EN Tryz.prog 126:=⟨Tryz.call126⟩
instance:EN Tryz.prog 127:=⟨Tryz.call127⟩
instance:EN Tryz.prog 128:=⟨Tryz.call128⟩
instance:EN Tryz.prog 129:=⟨Tryz.call129⟩
instance:EN Tryz.prog 130:=⟨Tryz.call130⟩
instance:EN Tryz.prog 131:=⟨Tryz.call131⟩
instance:EN Tryz.prog 132:=⟨Tryz.call132⟩
instance:EN Tryz.prog 133:=⟨Tryz.call133⟩
instance:EN Tryz.prog 136:=⟨Tryz.call136⟩
instance:EN Tryz.prog 137:=⟨Tryz.call137⟩
instance:EN Tryz.prog 138:=⟨Tryz.call138⟩
instance:EN Tryz.prog 139:=⟨Tryz.call139⟩
instance:EN Tryz.prog 140:=⟨Tryz.call140⟩
instance:EN Tryz.prog 141:=⟨Tryz.call141⟩
instance:EN Tryz.prog 142:=⟨Tryz.call142⟩
instance:EN Tryz.prog 143:=⟨Tryz.call143⟩
instance:EN Tryz.prog 144:=⟨Tryz.call144⟩
instance:EN Tryz.prog 145:=⟨Tryz.call145⟩
instance:EN Tryz.prog 146:=⟨Tryz.call146⟩
instance:EN Tryz.prog 147:=⟨Tryz.call147⟩
instance:EN Tryz.prog 148:=⟨Tryz.call148⟩
instance:EN Tryz.prog 149:=⟨Tryz.call149⟩
instance:EN Tryz.prog 150:=⟨Tryz.call150⟩
instance:EN Tryz.prog 151:=⟨Tryz.call151⟩
instance:EN Tryz.prog 152:=⟨Tryz.call152⟩
instance:EN Tryz.prog 153:=⟨Tryz.call153⟩
instance:EN Tryz.prog 154:=⟨Tryz.call154⟩
instance:EN Tryz.prog 155:=⟨Tryz.call155⟩
instance:EN Tryz.prog 156:=⟨Tryz.call156⟩
instance:EN Tryz.prog 158:=⟨Tryz.call158⟩
instance:EN Tryz.prog 159:=⟨Tryz.call159⟩
instance:EN Tryz.prog 160:=⟨Tryz.call160⟩
instance:EN Tryz.prog 161:=⟨Tryz.call161⟩
instance:EN Tryz.prog 162:=⟨Tryz.call162⟩
instance:EN Tryz.prog 163:=⟨Tryz.call163⟩
instance:EN Tryz.prog 164:=⟨Tryz.call164⟩
instance:EN Tryz.prog 165:=⟨Tryz.call165⟩
instance:EN Tryz.prog 166:=⟨Tryz.call166⟩
instance:EN Tryz.prog 167:=⟨Tryz.call167⟩
instance:EN Tryz.prog 168:=⟨Tryz.call168⟩
instance:EN Tryz.prog 169:=⟨Tryz.call169⟩
instance:EN Tryz.prog 171:=⟨Tryz.call171⟩
instance:EN Tryz.prog 172:=⟨Tryz.call172⟩
instance:EN Tryz.prog 173:=⟨Tryz.call173⟩
instance:EN Tryz.prog 174:=⟨Tryz.call174⟩
instance:EN Tryz.prog 175:=⟨Tryz.call175⟩
instance:EN Tryz.prog 176:=⟨Tryz.call176⟩
instance:EN Tryz.prog 177:=⟨Tryz.call177⟩
instance:EN Tryz.prog 178:=⟨Tryz.call178⟩
instance:EN Tryz.prog 179:=⟨Tryz.call179⟩
instance:EN Tryz.prog 180:=⟨Tryz.call180⟩
instance:EN Tryz.prog 181:=⟨Tryz.call181⟩
instance:EN Tryz.prog 182:=⟨Tryz.call182⟩
instance:EN Tryz.prog 183:=⟨Tryz.call183⟩
instance:EN Tryz.prog 184:=⟨Tryz.call184⟩
instance:EN Tryz.prog 187:=⟨Tryz.call187⟩
instance:EN Tryz.prog 188:=⟨Tryz.call188⟩
instance:EN Tryz.prog 189:=⟨Tryz.call189⟩
instance:EN Tryz.prog 190:=⟨Tryz.call190⟩
instance:EN Tryz.prog 191:=⟨Tryz.call191⟩
instance:EN Tryz.prog 192:=⟨Tryz.call192⟩
instance:EN Tryz.prog 193:=⟨Tryz.call193⟩
instance:EN Tryz.prog 194:=⟨Tryz.call194⟩
instance:EN Tryz.prog 195:=⟨Tryz.call195⟩
instance:EN Tryz.prog 196:=⟨Tryz.call196⟩
instance:EN Tryz.prog 197:=⟨Tryz.call197⟩
instance:EN Tryz.prog 198:=⟨Tryz.call198⟩
instance:EN Tryz.prog 199:=⟨Tryz.call199⟩
instance:EN Tryz.prog 200:=⟨Tryz.call200⟩
instance:EN Tryz.prog 201:=⟨Tryz.call201⟩
instance:EN Tryz.prog 202:=⟨Tryz.call202⟩
instance:EN Tryz.prog 203:=⟨Tryz.call203⟩
instance:EN Tryz.prog 204:=⟨Tryz.call204⟩
instance:EN Tryz.prog 205:=⟨Tryz.call205⟩
instance:EN Tryz.prog 206:=⟨Tryz.call206⟩
instance:EN Tryz.prog 207:=⟨Tryz.call207⟩
instance:EN Tryz.prog 208:=⟨Tryz.call208⟩
instance:EN Tryz.prog 209:=⟨Tryz.call209⟩
instance:EN Tryz.prog 210:=⟨Tryz.call210⟩
instance:EN Tryz.prog 211:=⟨Tryz.call211⟩
instance:EN Tryz.prog 212:=⟨Tryz.call212⟩
instance:EN Tryz.prog 214:=⟨Tryz.call214⟩
instance:EN Tryz.prog 215:=⟨Tryz.call215⟩
instance:EN Tryz.prog 216:=⟨Tryz.call216⟩
instance:EN Tryz.prog 217:=⟨Tryz.call217⟩
instance:EN Tryz.prog 218:=⟨Tryz.call218⟩
instance:EN Tryz.prog 219:=⟨Tryz.call219⟩
instance:EN Tryz.prog 220:=⟨Tryz.call220⟩
instance:EN Tryz.prog 224:=⟨Tryz.call224⟩
open Go.RowKit
section
variable {P : Program} {ro : Option Nat} {N : Nat} {E : World} {ops : Array Oper} {Q : Exit → Act → World → Prop} {rest : List Oper} {o : Oper} {fr fr' : Fr} {ds : List Deferred} {l l' : List Chunk} {K : Value → List Chunk → Prop} {v : Value} {d : Nat}
theorem ozq (hk : OpsS P ro N E ops Q rest ((d, v) :: fr) ds l) (h : OpQ P ro N fr l o v := by first | (show OpQ _ _ _ _ _ ⟨_, .move _, _, _, _, _⟩ _; exact q_move rfl) | (show OpQ _ _ _ _ _ ⟨_, .load _ _, _, _, _, _⟩ _; first | exact q_load rfl (by ((repeat (first | with_reducible apply List.mem_cons_self | with_reducible apply List.mem_cons_of_mem)); try with_reducible assumption)) (by (first | with_reducible assumption | ((with_reducible apply cell_get); (repeat (first | with_reducible apply LGet.zero | with_reducible apply LGet.succ))))) | exact q_loadL rfl (by ((repeat (first | with_reducible apply List.mem_cons_self | with_reducible apply List.mem_cons_of_mem)); try with_reducible assumption)) (by (repeat (first | with_reducible apply LSub.done | with_reducible apply LSub.take | with_reducible apply LSub.drop)))) | (show OpQ _ _ _ _ _ ⟨_, .fieldAddr _ _ _, _, _, _, _⟩ _; exact q_fieldAddr rfl (by (first | with_reducible exact Nat.zero_add _ | with_reducible exact Nat.add_zero _ | exact rfl))) | (show OpQ _ _ _ _ _ ⟨_, .nilCheck _, _, _, _, _⟩ _; first | exact q_nilCheck rfl | exact q_nilCheck_f rfl | exact q_nilCheck_y rfl) | (show OpQ _ _ _ _ _ ⟨_, .assign _, _, _, _, _⟩ _; exact q_assign rfl) | (show OpQ _ _ _ _ _ ⟨_, .indexAddr _ _ _, _, _, _, _⟩ _; first | exact q_indexArrN rfl rfl (by omega) (by (first | with_reducible exact Nat.zero_add _ | with_reducible exact Nat.add_zero _ | exact rfl)) | exact q_indexSlN rfl rfl (by omega) (by (first | with_reducible exact Nat.zero_add _ | with_reducible exact Nat.add_zero _ | exact rfl)) | exact q_indexArr rfl rfl (by omega) | exact q_indexSl rfl rfl (by omega)) | (show OpQ _ _ _ _ _ ⟨_, .binOp .eql _ _ _ _, _, _, _, _⟩ _; first | exact q_eql rfl rfl | exact q_eqnil rfl rfl | exact q_eqb rfl rfl Tryz.underlying4 | exact q_eqnilsl rfl rfl) | (show OpQ _ _ _ _ _ ⟨_, .binOp .add _ _ _ _, _, _, _, _⟩ _; exact q_add rfl rfl (rng_i64 (by omega) (by omega))) | (show OpQ _ _ _ _ _ ⟨_, .binOp .lss _ _ _ _, _, _, _, _⟩ _; exact q_lss rfl rfl) | (show OpQ _ _ _ _ _ ⟨_, .pick _ _ _, _, _, _, _⟩ _; first | exact q_pick_t rfl rfl | exact q_pick_f rfl rfl) | (show OpQ _ _ _ _ _ ⟨_, .extract _ _, _, _, _, _⟩ _; exact q_extract rfl rfl) | (show OpQ _ _ _ _ _ ⟨_, .binOp .neq _ _ _ _, _, _, _, _⟩ _; first | exact q_neq rfl rfl | exact q_nenil rfl rfl | exact q_neb rfl rfl Tryz.underlying4 | exact q_nenilsl rfl rfl) | (show OpQ _ _ _ _ _ ⟨_, .binOp .geq _ _ _ _, _, _, _, _⟩ _; exact q_geq rfl rfl) | (show OpQ _ _ _ _ _ ⟨_, .binOp .gtr _ _ _ _, _, _, _, _⟩ _; exact q_gtr rfl rfl) | (show OpQ _ _ _ _ _ ⟨_, .binOp .leq _ _ _ _, _, _, _, _⟩ _; exact q_leq rfl rfl) | (show OpQ _ _ _ _ _ ⟨_, .unOp .not _ _, _, _, _, _⟩ _; exact q_not rfl) | (show OpQ _ _ _ _ _ ⟨_, .binOp .sub _ _ _ _, _, _, _, _⟩ _; exact q_sub rfl rfl (rng_i64 (by omega) (by omega))) | (show OpQ _ _ _ _ _ ⟨_, .call { callee := .builtin .len, args := _, argTypes := _ }, _, _, _, _⟩ _; first | exact q_len_sl rfl | exact q_len_map rfl (by ((repeat (first | with_reducible apply List.mem_cons_self | with_reducible apply List.mem_cons_of_mem)); try with_reducible assumption))) | (show OpQ _ _ _ _ _ ⟨_, .field _ _ _, _, _, _, _⟩ _; first | exact q_field rfl (by (first | with_reducible assumption | ((with_reducible apply cell_get); (repeat (first | with_reducible apply LGet.zero | with_reducible apply LGet.succ))))) | exact q_fieldL rfl (by (repeat (first | with_reducible apply LSub.done | with_reducible apply LSub.take | with_reducible apply LSub.drop)))) | (show OpQ _ _ _ _ _ ⟨_, .build _ _, _, _, _, _⟩ _; exact q_build rfl (by (repeat (first | apply BuildS.nil | (apply BuildS.one; (· infer_instance); (· infer_instance); (· rfl); (· (repeat (first | with_reducible apply LSet.zero | with_reducible apply LSet.succ)))) | (apply BuildS.agg; (· infer_instance); (· infer_instance); (· rfl); (· (repeat (first | with_reducible apply LSetA.done | with_reducible apply LSetA.put | with_reducible apply LSetA.skip)))))))) | (show OpQ _ _ _ _ _ ⟨_, .makeFunc _ _ _, _, _, _, _⟩ _; first | exact q_makeFunc rfl | exact q_makeFunc0) | (show OpQ _ _ _ _ _ ⟨_, .convert _ _ _, _, _, _, _⟩ _; exact q_conv rfl (by exact ⟨by omega, by omega⟩)) | (show OpQ _ _ _ _ _ ⟨_, .binOp .mul _ _ _ _, _, _, _, _⟩ _; exact q_mul rfl rfl (rng_i64 (by omega) (by omega))) | (show OpQ _ _ _ _ _ ⟨_, .binOp .quo _ _ _ _, _, _, _, _⟩ _; exact q_quo rfl rfl (by omega) (by omega) (rng_i64 (by omega) (by omega))) | (show OpQ _ _ _ _ _ ⟨_, .binOp .rem _ _ _ _, _, _, _, _⟩ _; exact q_rem rfl rfl (by omega) (by omega)) | (show OpQ _ _ _ _ _ ⟨_, .lookup _ _ _ _, _, _, _, _⟩ _; first | exact q_lookup rfl rfl (by ((repeat (first | with_reducible apply List.mem_cons_self | with_reducible apply List.mem_cons_of_mem)); try with_reducible assumption)) | exact q_lookup2 rfl rfl (by ((repeat (first | with_reducible apply List.mem_cons_self | with_reducible apply List.mem_cons_of_mem)); try with_reducible assumption))) | fail) (hw : gst ops fr o.guard = some true := by rfl) (hd : o.dst = some d := by rfl) (hb : Nat.blt d N = true := by rfl) : OpsS P ro N E ops Q (o :: rest) fr ds l := t_h h hw hd hb hk
theorem ozs (hk : OpsS P ro N E ops Q rest ((d, undef) :: fr) ds l) (hw : gst ops fr o.guard = some false := by rfl) (hd : o.dst = some d := by rfl) (hb : Nat.blt d N = true := by rfl) : OpsS P ro N E ops Q (o :: rest) fr ds l := t_hs hw hd hb hk
theorem ozt {j t : Nat} {w : Bool} {oj : Oper} {p : Prop} {ip : Decidable p} (h : OpsS P ro N E ops Q (o :: rest) ((t, .bool true) :: fr) ds l) (hw : o.guard = some (j, w) := by rfl) (hj : ops[j]? = some oj := by rfl) (hjd : oj.dst = some t := by rfl) (hc : flook fr t = some (.bool (@decide p ip)) := by rfl) (hp : p := by omega) : OpsS P ro N E ops Q (o :: rest) fr ds l := s_gif_t hw hj hjd hc hp h
theorem ozf {j t : Nat} {w : Bool} {oj : Oper} {p : Prop} {ip : Decidable p} (h : OpsS P ro N E ops Q (o :: rest) ((t, .bool false) :: fr) ds l) (hw : o.guard = some (j, w) := by rfl) (hj : ops[j]? = some oj := by rfl) (hjd : oj.dst = some t := by rfl) (hc : flook fr t = some (.bool (@decide p ip)) := by rfl) (hp : ¬ p := by omega) : OpsS P ro N E ops Q (o :: rest) fr ds l := s_gif_f hw hj hjd hc hp h
theorem ozn {l2 : List Chunk} (hk : OpsS P ro N E ops Q rest fr ds l2) (h : OpE P ro N fr l o (fun v' l' => v' = undef ∧ l' = l2) := by first | (apply e_storeL; (· rfl); (· rfl); (· first | rfl | assumption); (· ((repeat (first | with_reducible apply List.mem_cons_self | with_reducible apply List.mem_cons_of_mem)); try with_reducible assumption)); (· (repeat (first | with_reducible apply LSet.zero | with_reducible apply LSet.succ))); (· (repeat (first | apply Upd.here | apply Upd.there)))) | (apply e_storeLA; (· rfl); (· rfl); (· rfl); (· simp [Value.oneCell']); (· ((repeat (first | with_reducible apply List.mem_cons_self | with_reducible apply List.mem_cons_of_mem)); try with_reducible assumption)); (· (repeat (first | with_reducible apply LSetA.done | with_reducible apply LSetA.put | with_reducible apply LSetA.skip))); (· (repeat (first | apply Upd.here | apply Upd.there)))) | fail) (hw : o.guard = none := by rfl) (hd : o.dst = none := by rfl) : OpsS P ro N E ops Q (o :: rest) fr ds l := t_n h hw hd fun v l' h => by rw [h.2]; exact hk
variable {R : List Chunk} {tbl : List (List Nat)} {sw : Sw} {sp : Spec} {pl : List PlanOp} {i : Nat} {k : Bool}
theorem pzq (hk : PlanS P ro N E ops Q R tbl sw sp pl ((d, v) :: fr) ds l) (h : OpQ P ro N fr R o v := by first | (show OpQ _ _ _ _ _ ⟨_, .move _, _, _, _, _⟩ _; exact q_move rfl) | (show OpQ _ _ _ _ _ ⟨_, .load _ _, _, _, _, _⟩ _; first | exact q_load rfl (by ((repeat (first | with_reducible apply List.mem_cons_self | with_reducible apply List.mem_cons_of_mem)); try with_reducible assumption)) (by (first | with_reducible assumption | ((with_reducible apply cell_get); (repeat (first | with_reducible apply LGet.zero | with_reducible apply LGet.succ))))) | exact q_loadL rfl (by ((repeat (first | with_reducible apply List.mem_cons_self | with_reducible apply List.mem_cons_of_mem)); try with_reducible assumption)) (by (repeat (first | with_reducible apply LSub.done | with_reducible apply LSub.take | with_reducible apply LSub.drop)))) | (show OpQ _ _ _ _ _ ⟨_, .fieldAddr _ _ _, _, _, _, _⟩ _; exact q_fieldAddr rfl (by (first | with_reducible exact Nat.zero_add _ | with_reducible exact Nat.add_zero _ | exact rfl))) | (show OpQ _ _ _ _ _ ⟨_, .nilCheck _, _, _, _, _⟩ _; first | exact q_nilCheck rfl | exact q_nilCheck_f rfl | exact q_nilCheck_y rfl) | (show OpQ _ _ _ _ _ ⟨_, .assign _, _, _, _, _⟩ _; exact q_assign rfl) | (show OpQ _ _ _ _ _ ⟨_, .indexAddr _ _ _, _, _, _, _⟩ _; first | exact q_indexArrN rfl rfl (by omega) (by (first | with_reducible exact Nat.zero_add _ | with_reducible exact Nat.add_zero _ | exact rfl)) | exact q_indexSlN rfl rfl (by omega) (by (first | with_reducible exact Nat.zero_add _ | with_reducible exact Nat.add_zero _ | exact rfl)) | exact q_indexArr rfl rfl (by omega) | exact q_indexSl rfl rfl (by omega)) | (show OpQ _ _ _ _ _ ⟨_, .binOp .eql _ _ _ _, _, _, _, _⟩ _; first | exact q_eql rfl rfl | exact q_eqnil rfl rfl | exact q_eqb rfl rfl Tryz.underlying4 | exact q_eqnilsl rfl rfl) | (show OpQ _ _ _ _ _ ⟨_, .binOp .add _ _ _ _, _, _, _, _⟩ _; exact q_add rfl rfl (rng_i64 (by omega) (by omega))) | (show OpQ _ _ _ _ _ ⟨_, .binOp .lss _ _ _ _, _, _, _, _⟩ _; exact q_lss rfl rfl) | (show OpQ _ _ _ _ _ ⟨_, .pick _ _ _, _, _, _, _⟩ _; first | exact q_pick_t rfl rfl | exact q_pick_f rfl rfl) | (show OpQ _ _ _ _ _ ⟨_, .extract _ _, _, _, _, _⟩ _; exact q_extract rfl rfl) | (show OpQ _ _ _ _ _ ⟨_, .binOp .neq _ _ _ _, _, _, _, _⟩ _; first | exact q_neq rfl rfl | exact q_nenil rfl rfl | exact q_neb rfl rfl Tryz.underlying4 | exact q_nenilsl rfl rfl) | (show OpQ _ _ _ _ _ ⟨_, .binOp .geq _ _ _ _, _, _, _, _⟩ _; exact q_geq rfl rfl) | (show OpQ _ _ _ _ _ ⟨_, .binOp .gtr _ _ _ _, _, _, _, _⟩ _; exact q_gtr rfl rfl) | (show OpQ _ _ _ _ _ ⟨_, .binOp .leq _ _ _ _, _, _, _, _⟩ _; exact q_leq rfl rfl) | (show OpQ _ _ _ _ _ ⟨_, .unOp .not _ _, _, _, _, _⟩ _; exact q_not rfl) | (show OpQ _ _ _ _ _ ⟨_, .binOp .sub _ _ _ _, _, _, _, _⟩ _; exact q_sub rfl rfl (rng_i64 (by omega) (by omega))) | (show OpQ _ _ _ _ _ ⟨_, .call { callee := .builtin .len, args := _, argTypes := _ }, _, _, _, _⟩ _; first | exact q_len_sl rfl | exact q_len_map rfl (by ((repeat (first | with_reducible apply List.mem_cons_self | with_reducible apply List.mem_cons_of_mem)); try with_reducible assumption))) | (show OpQ _ _ _ _ _ ⟨_, .field _ _ _, _, _, _, _⟩ _; first | exact q_field rfl (by (first | with_reducible assumption | ((with_reducible apply cell_get); (repeat (first | with_reducible apply LGet.zero | with_reducible apply LGet.succ))))) | exact q_fieldL rfl (by (repeat (first | with_reducible apply LSub.done | with_reducible apply LSub.take | with_reducible apply LSub.drop)))) | (show OpQ _ _ _ _ _ ⟨_, .build _ _, _, _, _, _⟩ _; exact q_build rfl (by (repeat (first | apply BuildS.nil | (apply BuildS.one; (· infer_instance); (· infer_instance); (· rfl); (· (repeat (first | with_reducible apply LSet.zero | with_reducible apply LSet.succ)))) | (apply BuildS.agg; (· infer_instance); (· infer_instance); (· rfl); (· (repeat (first | with_reducible apply LSetA.done | with_reducible apply LSetA.put | with_reducible apply LSetA.skip)))))))) | (show OpQ _ _ _ _ _ ⟨_, .makeFunc _ _ _, _, _, _, _⟩ _; first | exact q_makeFunc rfl | exact q_makeFunc0) | (show OpQ _ _ _ _ _ ⟨_, .convert _ _ _, _, _, _, _⟩ _; exact q_conv rfl (by exact ⟨by omega, by omega⟩)) | (show OpQ _ _ _ _ _ ⟨_, .binOp .mul _ _ _ _, _, _, _, _⟩ _; exact q_mul rfl rfl (rng_i64 (by omega) (by omega))) | (show OpQ _ _ _ _ _ ⟨_, .binOp .quo _ _ _ _, _, _, _, _⟩ _; exact q_quo rfl rfl (by omega) (by omega) (rng_i64 (by omega) (by omega))) | (show OpQ _ _ _ _ _ ⟨_, .binOp .rem _ _ _ _, _, _, _, _⟩ _; exact q_rem rfl rfl (by omega) (by omega)) | (show OpQ _ _ _ _ _ ⟨_, .lookup _ _ _ _, _, _, _, _⟩ _; first | exact q_lookup rfl rfl (by ((repeat (first | with_reducible apply List.mem_cons_self | with_reducible apply List.mem_cons_of_mem)); try with_reducible assumption)) | exact q_lookup2 rfl rfl (by ((repeat (first | with_reducible apply List.mem_cons_self | with_reducible apply List.mem_cons_of_mem)); try with_reducible assumption))) | fail) (hw : gst ops fr o.guard = some true := by rfl) (hd : o.dst = some d := by rfl) (hb : Nat.blt d N = true := by rfl) : PlanS P ro N E ops Q R tbl sw sp ((i, true, o) :: pl) fr ds l := pl_h h hw hd hb hk
theorem pzs (hk : PlanS P ro N E ops Q R tbl none [] pl ((d, undef) :: fr) ds l) (hR : ∀ c, c ∈ R → c ∈ l := by exact (List.Sublist.subset (by (repeat (first | with_reducible apply List.Sublist.refl | with_reducible apply List.nil_sublist | with_reducible apply List.Sublist.cons_cons | with_reducible apply List.Sublist.cons))))) (hw : gst ops fr o.guard = some false := by rfl) (hd : o.dst = some d := by rfl) (hb : Nat.blt d N = true := by rfl) : PlanS P ro N E ops Q R tbl none [] ((i, k, o) :: pl) fr ds l := pl_hs hR hw hd hb hk
theorem pzt {j t : Nat} {w : Bool} {oj : Oper} {p : Prop} {ip : Decidable p} (h : PlanS P ro N E ops Q R tbl sw sp ((i, k, o) :: pl) ((t, .bool true) :: fr) ds l) (hw : o.guard = some (j, w) := by rfl) (hj : ops[j]? = some oj := by rfl) (hjd : oj.dst = some t := by rfl) (hc : flook fr t = some (.bool (@decide p ip)) := by rfl) (hp : p := by omega) : PlanS P ro N E ops Q R tbl sw sp ((i, k, o) :: pl) fr ds l := pl_gif_t hw hj hjd hc hp h
theorem pzf {j t : Nat} {w : Bool} {oj : Oper} {p : Prop} {ip : Decidable p} (h : PlanS P ro N E ops Q R tbl sw sp ((i, k, o) :: pl) ((t, .bool false) :: fr) ds l) (hw : o.guard = some (j, w) := by rfl) (hj : ops[j]? = some oj := by rfl) (hjd : oj.dst = some t := by rfl) (hc : flook fr t = some (.bool (@decide p ip)) := by rfl) (hp : ¬ p := by omega) : PlanS P ro N E ops Q R tbl sw sp ((i, k, o) :: pl) fr ds l := pl_gif_f hw hj hjd hc hp h
theorem pzn {l2 : List Chunk} (hk : PlanS P ro N E ops Q R tbl none [] pl fr ds l2) (h : OpE P ro N fr l o (fun v' l' => v' = undef ∧ l' = l2) := by first | (apply e_storeL; (· rfl); (· rfl); (· first | rfl | assumption); (· ((repeat (first | with_reducible apply List.mem_cons_self | with_reducible apply List.mem_cons_of_mem)); try with_reducible assumption)); (· (repeat (first | with_reducible apply LSet.zero | with_reducible apply LSet.succ))); (· (repeat (first | apply Upd.here | apply Upd.there)))) | (apply e_storeLA; (· rfl); (· rfl); (· rfl); (· simp [Value.oneCell']); (· ((repeat (first | with_reducible apply List.mem_cons_self | with_reducible apply List.mem_cons_of_mem)); try with_reducible assumption)); (· (repeat (first | with_reducible apply LSetA.done | with_reducible apply LSetA.put | with_reducible apply LSetA.skip))); (· (repeat (first | apply Upd.here | apply Upd.there)))) | fail) (hw : o.guard = none := by rfl) (hd : o.dst = none := by rfl) (hR : ∀ c, c ∈ R → c ∈ l2 := by exact (List.Sublist.subset (by (repeat (first | with_reducible apply List.Sublist.refl | with_reducible apply List.nil_sublist | with_reducible apply List.Sublist.cons_cons | with_reducible apply List.Sublist.cons))))) : PlanS P ro N E ops Q R tbl none [] ((i, false, o) :: pl) fr ds l := pl_n h hw hd (fun v l' h => by rw [h.2]; exact hR) fun v l' h => by rw [h.2]; exact hk
theorem pze (hk : PlanS P ro N E ops Q R tbl none [] pl ((d, v) :: fr) ds l) (h : OpQ P ro N fr l o v := by first | (show OpQ _ _ _ _ _ ⟨_, .load _ _, _, _, _, _⟩ _; first | exact q_load rfl (by ((repeat (first | with_reducible apply List.mem_cons_self | with_reducible apply List.mem_cons_of_mem)); try with_reducible assumption)) (by (first | with_reducible assumption | ((with_reducible apply cell_get); (repeat (first | with_reducible apply LGet.zero | with_reducible apply LGet.succ))))) | exact q_loadL rfl (by ((repeat (first | with_reducible apply List.mem_cons_self | with_reducible apply List.mem_cons_of_mem)); try with_reducible assumption)) (by (repeat (first | with_reducible apply LSub.done | with_reducible apply LSub.take | with_reducible apply LSub.drop)))) | fail) (hw : o.guard = none := by rfl) (hd : o.dst = some d := by rfl) (hb : Nat.blt d N = true := by rfl) (hR : ∀ c, c ∈ R → c ∈ l := by exact (List.Sublist.subset (by (repeat (first | with_reducible apply List.Sublist.refl | with_reducible apply List.nil_sublist | with_reducible apply List.Sublist.cons_cons | with_reducible apply List.Sublist.cons))))) : PlanS P ro N E ops Q R tbl none [] ((i, false, o) :: pl) fr ds l := pl_qe h hw hd hb hR hk
end
theorem OpE.re {P : Program} {ro : Option Nat} {N : Nat} {fr : Fr} {l l2 : List Chunk} {o : Oper} {K K' : Value → List Chunk → Prop} (k : Keep l l2) (h : OpE P ro N fr l2 o K) (hk : ∀ v l', K v l' → ∃ l3, Keep l' l3 ∧ K' v l3) : OpE P ro N fr l o K' :=
  ⟨h.nodef, fun E a W hf hs => (h.val E a W hf (k.sat hs)).mono fun v W' ⟨l', h1, h2⟩ => by
    obtain ⟨l3, h3, h4⟩ := hk v l' h1
    exact ⟨l3, h4, h3.sat h2⟩⟩
theorem Fn.re {P : Program} {f : FuncId} {args : List Value} {l l2 : List Chunk} {K K' : Value → List Chunk → Prop} (k : Keep l l2) (h : Fn P f args l2 K) (hk : ∀ v l', K v l' → ∃ l3, Keep l' l3 ∧ K' v l3) : Fn P f args l K' :=
  ⟨fun E W hs => (h.run E W (k.sat hs)).mono fun e W' he => by
    obtain ⟨v, l', h1, h2, h3⟩ := he
    obtain ⟨l3, h4, h5⟩ := hk v l' h2
    exact ⟨v, l3, h1, h5, h4.sat h3⟩⟩
theorem keep_swap (x : Chunk) (c0 c2 F : List Chunk) : Keep (c2 ++ x :: (c0 ++ F)) (x :: (c2 ++ F)) :=
  ⟨c0, (List.perm_middle.trans ((List.perm_append_comm_assoc c2 c0 F).cons x)).trans List.perm_middle.symm⟩
theorem upd_pre {l l' : List Chunk} {b : Nat} {o o' : Obj} (h : Upd l b o o' l') : ∀ (c : List Chunk), Upd (c ++ l) b o o' (c ++ l')
  | [] => h
  | x :: c => .there (upd_pre h c)
section
variable {P : Program} {ro : Option Nat} {N : Nat} {fr : Fr} {R l : List Chunk} {d : Option Nat} {ty : TypeId} {pos : String} {aft : Array Edge} {g : Option (Nat × Bool)} {x y z s : Operand} {v u w : Value} {b : Nat}
theorem e_copy {T e k yb n : Nat} {xs zs : List Value} {cs : List Chunk} (hs : ev fr s = some (.slice none 0 0)) (hx : ev fr x = some v) [c : ST P T e k yb] [cz : ZV P e zs] (hzs : zs.length = k) (ho : OwnSl e k v n xs cs) (hsub : ∀ c, c ∈ cs → c ∈ l) (h1 : ∀ u ∈ xs, u.oneCell' = true) (hn : n ≤ 1000000) (hby : yb ≤ 1000) :
    OpE P ro N fr l ⟨d, .call { callee := .builtin .append, args := #[s, x], argTypes := #[T, T] }, ty, pos, aft, g⟩ (fun v' l' => ∃ c2, OwnSl e k v' n xs c2 ∧ l' = c2 ++ l) := by
  obtain ⟨hlen, h⟩ := ho
  rcases h with ⟨rfl, rfl, rfl⟩ | ⟨gb, cap, sp, rfl, rfl, hnc, hcm, hcl⟩
  · refine ((q_appendNil (R := l) hs hx (Nat.le_refl _)).run l fun _ h => h).mono ?_
    rintro _ _ ⟨rfl, rfl⟩
    exact ⟨[], ⟨hlen, .inl ⟨rfl, rfl, rfl⟩⟩, rfl⟩
  · have hb : (0 + n) * yb ≤ 140737488355328 := by
      have := Nat.mul_le_mul hn hby
      rw [Nat.zero_add]; omega
    refine (ce_append (xs := []) (cs := []) (F := l) (news := xs) (zs := zs) (cl := List.toArray (xs ++ sp)) hs hx hzs (OwnSl.nil e k) (hsub _ List.mem_cons_self) (fun j u hj => ?_) hlen h1 (by unfold maxLen; omega) hb).mono ?_
    · have hlt := (List.getElem?_eq_some_iff.1 hj).1
      rw [Nat.zero_add, List.getElem?_toArray, List.getElem?_append_left hlt]; exact hj
    · rintro v' l' ⟨c2, ho2, rfl⟩
      rw [List.nil_append, Nat.zero_add] at ho2
      exact ⟨c2, ho2, rfl⟩
theorem e_appX {T e k yb n bl : Nat} {xs ws zs : List Value} {X cs F : List Chunk} (hx : ev fr s = some v) (hy : ev fr x = some (.slice (some ⟨bl, 0, none⟩) 1 1)) [c : ST P T e k yb] [cz : ZV P e zs] (hzs : zs.length = k) (hown : OwnSl e k v n xs cs) (hw : ws.length = k) (h1 : ∀ u ∈ ws, u.oneCell' = true) (hn : n ≤ 1000000) (hby : yb ≤ 1000) :
    OpE P ro N fr ((bl, .cells (List.toArray ws) e (0, 0)) :: (X ++ (cs ++ F))) ⟨d, .call { callee := .builtin .append, args := #[s, x], argTypes := #[T, T] }, ty, pos, aft, g⟩ (fun v' l' => ∃ c2, OwnSl e k v' (n + 1) (xs ++ ws) c2 ∧ l' = X ++ (c2 ++ F)) := by
  have hpm : ((bl, Obj.cells (List.toArray ws) e (0, 0)) :: (X ++ (cs ++ F))).Perm (cs ++ (((bl, Obj.cells (List.toArray ws) e (0, 0)) :: X) ++ F)) :=
    List.perm_append_comm_assoc ((bl, Obj.cells (List.toArray ws) e (0, 0)) :: X) cs F
  have hb : (n + 1) * yb ≤ 140737488355328 := by
    have := Nat.mul_le_mul (show n + 1 ≤ 1000001 by omega) hby
    omega
  refine OpE.re (Keep.of_perm hpm) (ce_append (m := 1) (xs := xs) (news := ws) (zs := zs) hx hy hzs hown (List.mem_append_right _ List.mem_cons_self) (fun j u hj => by simpa using hj) (by rw [hw, Nat.one_mul]) h1 (by unfold maxLen; omega) hb) ?_
  rintro v' _ ⟨c2, ho, rfl⟩
  exact ⟨_, Keep.trans (Keep.of_perm (List.perm_append_comm_assoc c2 ((bl, Obj.cells (List.toArray ws) e (0, 0)) :: X) F)) (.drop .refl), c2, ho, rfl⟩
theorem e_appY {T e k yb n bl : Nat} {xs ws zs : List Value} {cs F : List Chunk} (hx : ev fr s = some v) (hy : ev fr x = some (.slice (some ⟨bl, 0, none⟩) 1 1)) [c : ST P T e k yb] [cz : ZV P e zs] (hzs : zs.length = k) (hown : OwnSl e k v n xs cs) (hw : ws.length = k) (h1 : ∀ u ∈ ws, u.oneCell' = true) (hn : n ≤ 1000000) (hby : yb ≤ 1000) :
    OpE P ro N fr (cs ++ ((bl, .cells (List.toArray ws) e (0, 0)) :: F)) ⟨d, .call { callee := .builtin .append, args := #[s, x], argTypes := #[T, T] }, ty, pos, aft, g⟩ (fun v' l' => ∃ c2, OwnSl e k v' (n + 1) (xs ++ ws) c2 ∧ l' = c2 ++ F) := by
  refine OpE.re (Keep.of_perm List.perm_middle) (e_appX (X := []) (F := F) hx hy hzs hown hw h1 hn hby) ?_
  rintro v' _ ⟨c2, ho, rfl⟩
  exact ⟨_, .refl, c2, ho, rfl⟩
theorem yielded_un {ops : Array Oper} {a : Act} {j d : Nat} {oj : Oper} (hf : FSat N fr a) (hj : ops[j]? = some oj) (hd : oj.dst = some d) (hb : flook fr d = some undef) : yielded ops a.tmps j = none := by
  have := hf.at_ d _ hb
  simp [yielded, hj, hd, this, undef]
theorem t_hu {ops : Array Oper} {Q : Exit → Act → World → Prop} {rest : List Oper} {ds : List Deferred} {E : World} {o oj : Oper} {d j dj : Nat} {bw : Bool} (hw : o.guard = some (j, bw)) (hj : ops[j]? = some oj) (hjd : oj.dst = some dj) (hb : flook fr dj = some undef) (hd : o.dst = some d) (hbl : Nat.blt d N = true) (hk : OpsS P ro N E ops Q rest ((d, undef) :: fr) ds l) : OpsS P ro N E ops Q (o :: rest) fr ds l :=
  ⟨fun a W hf hds hs => by
    have hy := yielded_un hf hj hjd hb
    refine wpListIn_step fun K' hK' => ?_
    rw [if_neg (by simp [Region.wanted, hw, hy])]
    refine ⟨fun _ _ => trivial, hK' _ _ (hk.run _ _ ?_ ((put_defers _ _ _).trans hds) hs)⟩
    have := hf.put (d := o.dst) undef (by rw [hd]; exact hbl)
    rw [hd] at this ⊢
    exact this⟩
end
structure Bx (H : Prop) : Prop where
  h : H
theorem gz {H G : Prop} (k : H) (h : Bx H → G := by (intro k; (repeat (first | (show OpsS _ _ _ _ _ _ (_ :: _) _ _ _; first | refine ozq ?_ | refine ozs ?_ | refine ozs0 ?_ | refine ozt ?_ | refine ozf ?_ | refine ozn ?_) | refine c_seq ?_ | refine p_then ?_ | refine c_region ?_ | refine s_nil ?_ | refine c_cond_t rfl ?_ | refine c_cond_f rfl ?_ | refine c_block ?_ | refine c_skip ?_ | refine c_exit ?_ | refine p_block ?_ | refine p_then_exit ?_ | refine p_block_here ?_ | refine p_block_on rfl ?_ | refine c_ret ?_ | refine p_then_ret ?_ | refine p_block_ret ?_ | refine c_scope ?_ | refine c_label ?_ | refine p_scope ?_ | refine p_scope_ret ?_ | refine p_scope_exit ?_ | refine p_end ?_ | refine c_if_t rfl (by omega) ?_ | refine c_if_f rfl (by omega) ?_)); exact k.h)) : G := h ⟨k⟩
theorem gzU {H G : Prop} (k : H) (h : Bx H → G := by (intro k; (repeat (first | (show OpsS _ _ _ _ _ _ (_ :: _) _ _ _; first | refine ozq ?_ | refine ozs ?_ | refine ozs0 ?_ | refine ozt ?_ | refine ozf ?_ | refine t_hu rfl rfl rfl rfl rfl rfl ?_ | refine ozn ?_) | refine c_seq ?_ | refine p_then ?_ | refine c_region ?_ | refine s_nil ?_ | refine c_cond_t rfl ?_ | refine c_cond_f rfl ?_ | refine c_block ?_ | refine c_skip ?_ | refine c_exit ?_ | refine p_block ?_ | refine p_then_exit ?_ | refine p_block_here ?_ | refine p_block_on rfl ?_ | refine c_ret ?_ | refine p_then_ret ?_ | refine p_block_ret ?_ | refine c_scope ?_ | refine c_label ?_ | refine p_scope ?_ | refine p_scope_ret ?_ | refine p_scope_exit ?_ | refine p_end ?_ | refine c_if_t rfl (by omega) ?_ | refine c_if_f rfl (by omega) ?_)); exact k.h)) : G := h ⟨k⟩
theorem gzS {H G : Prop} (k : H) (h : Bx H → G := by (intro k; ((first | (show OpsS _ _ _ _ _ _ (_ :: _) _ _ _; first | refine ozq ?_ | refine ozs ?_ | refine ozs0 ?_ | refine ozt ?_ | refine ozf ?_ | refine ozn ?_) | refine c_seq ?_ | refine p_then ?_ | refine c_region ?_ | refine s_nil ?_ | refine c_cond_t rfl ?_ | refine c_cond_f rfl ?_ | refine c_block ?_ | refine c_skip ?_ | refine c_exit ?_ | refine p_block ?_ | refine p_then_exit ?_ | refine p_block_here ?_ | refine p_block_on rfl ?_ | refine c_ret ?_ | refine p_then_ret ?_ | refine p_block_ret ?_ | refine c_scope ?_ | refine c_label ?_ | refine p_scope ?_ | refine p_scope_ret ?_ | refine p_scope_exit ?_ | refine p_end ?_ | refine c_if_t rfl (by omega) ?_ | refine c_if_f rfl (by omega) ?_)); exact k.h)) : G := h ⟨k⟩
theorem gzSU {H G : Prop} (k : H) (h : Bx H → G := by (intro k; ((first | (show OpsS _ _ _ _ _ _ (_ :: _) _ _ _; first | refine ozq ?_ | refine ozs ?_ | refine ozs0 ?_ | refine ozt ?_ | refine ozf ?_ | refine t_hu rfl rfl rfl rfl rfl rfl ?_ | refine ozn ?_) | refine c_seq ?_ | refine p_then ?_ | refine c_region ?_ | refine s_nil ?_ | refine c_cond_t rfl ?_ | refine c_cond_f rfl ?_ | refine c_block ?_ | refine c_skip ?_ | refine c_exit ?_ | refine p_block ?_ | refine p_then_exit ?_ | refine p_block_here ?_ | refine p_block_on rfl ?_ | refine c_ret ?_ | refine p_then_ret ?_ | refine p_block_ret ?_ | refine c_scope ?_ | refine c_label ?_ | refine p_scope ?_ | refine p_scope_ret ?_ | refine p_scope_exit ?_ | refine p_end ?_ | refine c_if_t rfl (by omega) ?_ | refine c_if_f rfl (by omega) ?_)); exact k.h)) : G := h ⟨k⟩
theorem gzQU {H G : Prop} (k : H) (h : Bx H → G := by (intro k; (repeat (first | (show OpsS _ _ _ _ _ _ (_ :: _) _ _ _; first | refine ozq ?_ | refine ozs ?_ | refine ozs0 ?_ | refine ozt ?_ | refine ozf ?_ | refine t_hu rfl rfl rfl rfl rfl rfl ?_) | refine c_seq ?_ | refine p_then ?_ | refine c_region ?_ | refine s_nil ?_ | refine c_cond_t rfl ?_ | refine c_cond_f rfl ?_ | refine c_block ?_ | refine c_skip ?_ | refine c_exit ?_ | refine p_block ?_ | refine p_then_exit ?_ | refine p_block_here ?_ | refine p_block_on rfl ?_ | refine c_ret ?_ | refine p_then_ret ?_ | refine p_block_ret ?_ | refine c_scope ?_ | refine c_label ?_ | refine p_scope ?_ | refine p_scope_ret ?_ | refine p_scope_exit ?_ | refine p_end ?_ | refine c_if_t rfl (by omega) ?_ | refine c_if_f rfl (by omega) ?_)); exact k.h)) : G := h ⟨k⟩
theorem pz {H G : Prop} (k : H) (h : Bx H → G := by (intro k; (repeat (first | refine pl_nil ?_ | (show PlanS _ _ _ _ _ _ _ _ _ _ ((_, true, _) :: _) _ _ _; first | refine pzq ?_ | refine pzt ?_ | refine pzf ?_) | (show PlanS _ _ _ _ _ _ _ _ none [] ((_, _, _) :: _) _ _ _; first | refine pzs ?_ | refine pzs0 ?_) | (show PlanS _ _ _ _ _ _ _ _ _ _ ((_, _, _) :: _) _ _ _; first | refine pzt ?_ | refine pzf ?_) | (show PlanS _ _ _ _ _ _ _ _ none [] ((_, false, _) :: _) _ _ _; first | refine pzn ?_ | refine pze ?_))); exact k.h)) : G := h ⟨k⟩
theorem pzU {H G : Prop} (k : H) (h : Bx H → G := by (intro k; (repeat (first | refine pl_nil ?_ | (show PlanS _ _ _ _ _ _ _ _ _ _ ((_, true, _) :: _) _ _ _; first | refine pzq ?_ | refine pzt ?_ | refine pzf ?_) | (show PlanS _ _ _ _ _ _ _ _ none [] ((_, _, _) :: _) _ _ _; first | refine pzs ?_ | refine pzs0 ?_ | refine pl_hu (List.Sublist.subset (by (repeat (first | with_reducible apply List.Sublist.refl | with_reducible apply List.nil_sublist | with_reducible apply List.Sublist.cons_cons | with_reducible apply List.Sublist.cons)))) rfl rfl rfl rfl rfl rfl ?_) | (show PlanS _ _ _ _ _ _ _ _ _ _ ((_, _, _) :: _) _ _ _; first | refine pzt ?_ | refine pzf ?_) | (show PlanS _ _ _ _ _ _ _ _ none [] ((_, false, _) :: _) _ _ _; first | refine pzn ?_ | refine pze ?_))); exact k.h)) : G := h ⟨k⟩
theorem zMem {p : Prop} (h : p := by (((repeat (first | with_reducible apply List.mem_cons_self | with_reducible apply List.mem_cons_of_mem)); try with_reducible assumption))) : p := h
theorem zUpd {p : Prop} (h : p := by ((repeat (first | apply Upd.here | apply Upd.there)))) : p := h
theorem zSubl {p : Prop} (h : p := by ((repeat (first | with_reducible apply List.Sublist.refl | with_reducible apply List.nil_sublist | with_reducible apply List.Sublist.cons_cons | with_reducible apply List.Sublist.cons)))) : p := h
theorem zRes {p : Prop} (h : p := by ((repeat (first | apply ResS.nil | (apply rs_tmp; (· rfl)) | (apply rs_cell1; (· rfl); (· ((repeat (first | with_reducible apply List.mem_cons_self | with_reducible apply List.mem_cons_of_mem)); try with_reducible assumption)); (· rfl)) | (apply rs_cellA; (· rfl); (· ((repeat (first | with_reducible apply List.mem_cons_self | with_reducible apply List.mem_cons_of_mem)); try with_reducible assumption)); (· (repeat (first | with_reducible apply LSub.done | with_reducible apply LSub.take | with_reducible apply LSub.drop)))))))) : p := h
theorem zKeep {p : Prop} (h : p := by (((try simp only [List.cons_append, List.nil_append, List.map_cons, List.map_nil]); repeat (first | with_reducible apply Keep.refl | (apply Keep.pick; · (repeat (first | apply Pick.here | apply Pick.there))) | apply Keep.drop)))) : p := h
theorem zLd {p : Prop} (h : p := by (first | exact q_load rfl (.head _) (by (first | with_reducible assumption | ((with_reducible apply cell_get); (repeat (first | with_reducible apply LGet.zero | with_reducible apply LGet.succ))))) | exact q_loadL rfl (.head _) (by (repeat (first | with_reducible apply LSub.done | with_reducible apply LSub.take | with_reducible apply LSub.drop))))) : p := h
theorem zAtt {p : Prop} (h : p := by ((repeat (first | apply Attach.nil | (apply Attach.cons; · rfl))))) : p := h
theorem zHR {l l' : List Chunk} (h : l.Sublist l' := by ((repeat (first | with_reducible apply List.Sublist.refl | with_reducible apply List.nil_sublist | with_reducible apply List.Sublist.cons_cons | with_reducible apply List.Sublist.cons)))) : ∀ c, c ∈ l → c ∈ l' := fun _ hc => h.subset hc
end Go.Proofs.YtcjknmpogkofpaaGreat
