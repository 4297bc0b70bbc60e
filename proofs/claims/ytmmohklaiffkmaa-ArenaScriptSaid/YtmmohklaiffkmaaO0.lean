/- copy, cap, append of zeros, slices.overlaps. Laws of my own, no program's. -/
import Derived.Test.YtmmohklaiffkmaaX7
import Derived.Lib.Overlaps
import Derived.Laws.CopyRow
set_option linter.unusedVariables false
set_option linter.unusedSimpArgs false
namespace Go.Proofs.Ytmmohklaiffkmaa
open Go.RowKit

theorem run_copy_k {P : Program} (w : World) (dT sT ty elem : TypeId) (i : TypeInfo) (g o dLen dCap : Nat) (a : Addr) (sLen sCap : Nat) (cur : Array Value) (t : TypeId) (cs : List Value)
    (hu : P.underlying dT = some (.slice elem)) (hi : P.info? elem = some i)
    (hg : w.heap[g]? = some (.cells cur t (0, 0))) (hn : cs.length = Nat.min sLen dLen * i.size)
    (hsrc : ∀ j v, cs[j]? = some v → w.cell? (a.add j) = some v) (hfit : o + cs.length ≤ cur.size) (h1 : ∀ v ∈ cs, v.oneCell' = true) :
    (Builtin.copy_ #[dT, sT] ty #[.slice (some ⟨g, o, none⟩) dLen dCap, .slice (some a) sLen sCap]).run P w =
      .ok (goInt (Nat.min sLen dLen)) (w.setRow g (cur.toList.take o ++ cs ++ cur.toList.drop (o + cs.length)).toArray) := by
  have hl := run_firstCells_some (P := P) (w := w) i.size (Nat.min sLen dLen) a sLen sCap cs hn hsrc
  have hst := run_storeCells_at P g o t cs 0 cur w hg (by simpa using hfit) h1
  simp only [Nat.add_zero] at hst
  have e1 : (Builtin.lenOf (.slice (some a) sLen sCap)).run P w = .ok sLen w := rfl
  have e2 : (sizeOf elem).run P w = .ok i.size w := by simp [sizeOf, typeInfo, hi]
  unfold Builtin.copy_
  simp only [List.getElem?_toArray, List.getElem?_cons_zero, List.getElem?_cons_succ, Sem.run_bind, run_underlying hu, Result.andThen_ok, e1, e2, hl, hst]
  rfl
theorem run_append_zeros {P : Program} (w : World) (t tn ty e : TypeId) (i : TypeInfo) (z : Value) (k kn : IntKind) (ht : P.underlying t = some (.slice e)) (htn : P.underlying tn = some (.int kn)) (hi : P.info? e = some i) (hz : i.zero = some z)
    (b : Addr) (sLen sCap : Nat) (olds : List Value) (hlo : olds.length = sLen * i.size) (holds : ∀ j v, olds[j]? = some v → w.cell? (b.add j) = some v)
    (n : Nat) (h0 : 0 < n) (hs : 0 < i.size) (hg : sCap < sLen + n) (h63 : sLen + n ≤ 1000000) (hby : i.bytes ≤ 1000) (hfit : Builtin.nextslicecap (sLen + n) sCap * i.bytes ≤ 281474976710656) :
    (Builtin.append_ #[t, tn] ty #[.slice (some b) sLen sCap, .int k n]).run P w =
      .ok (.slice (some ⟨w.heap.size, 0, none⟩) (sLen + n) (grownCap w (sLen + n) sCap e)) (w.drew.alloc (.cells (olds.toArray ++ Builtin.zeroCells z.cells n ++ Builtin.zeroCells z.cells (grownCap w (sLen + n) sCap e - (sLen + n))) e)) := by
  have hw : IntKind.i64.wrap (n : Int) = n := by rw [IntKind.wrap_i64]; omega
  have h48 : (n : Int) * (i.bytes : Int) ≤ 1000000000 := by
    have : n * i.bytes ≤ 1000000 * 1000 := Nat.mul_le_mul (by omega) hby
    rw [← Int.natCast_mul]; omega
  have h48i : ¬ (281474976710656 < (n : Int) * (i.bytes : Int)) := by omega
  have hneg : ¬ ((n : Int) < 0) := by omega
  have hns : ¬ (n * i.size = 0) := Nat.mul_ne_zero (by omega) (by omega)
  have hn : ¬ (sLen + n ≤ sCap) := by omega
  have h63' : ¬ (9223372036854775807 < ((sLen : Int) + (n : Int))) := by omega
  have h48' : ¬ (281474976710656 < Builtin.nextslicecap (sLen + n) sCap * i.bytes) := by omega
  have hfo := run_firstCells_some (P := P) (w := w.drew) i.size sLen b sLen sCap olds hlo (by simpa using holds)
  simp [Builtin.append_, run_underlying ht, run_underlying htn, sizeOf, typeInfo, zeroValue, hi, hz, asInt, asIntOf, hw, hn, hneg, hns, h63', h48', h48i, Question.forced, hfo, newRow, grownCap]

section
variable {P : Program} {ro : Option Nat} {N : Nat} {fr : Fr} {R l : List Chunk} {d : Option Nat} {ty t : TypeId} {pos : String} {aft : Array Edge} {g : Option (Nat × Bool)} {x y s : Operand} {off b : Nat}
theorem q_cap {p : Option Addr} {n cap e kk yb : Nat} (hx : ev fr x = some (.slice p n cap)) [c : ST P t e kk yb] : OpQ P ro N fr R ⟨d, .call { callee := .builtin .cap, args := #[x], argTypes := #[t] }, ty, pos, aft, g⟩ (.int .i64 (cap : Nat)) := opQ_of_sl rfl fun ρ l hρ _ => by
  obtain ⟨inf, h1, _⟩ := stV_spec c.out
  simp only [execOp, resolve, sl_bind, sl_pure, invoke, builtin, List.map_toArray, List.map_cons, List.map_nil, hρ x _ hx, Builtin.cap_]
  show sl P (underlying t >>= _) l _
  rw [sl_under h1]
  exact ⟨rfl, rfl⟩
/-- copy: as many elements as the shorter one has -/
theorem e_copyK {T T2 e k yb gb o sb so dLen dCap sLen sCap m : Nat} {cur cs : List Value} {cl : Array Value} {ct : TypeId} {fz : Nat × Nat} {F : List Chunk} (hx : ev fr x = some (.slice (some ⟨gb, o, none⟩) dLen dCap)) (hy : ev fr y = some (.slice (some ⟨sb, so, none⟩) sLen sCap)) [c : ST P T e k yb]
    (hm : Nat.min sLen dLen = m) (hl : cs.length = m * k) (hs : (sb, Obj.cells cl ct fz) ∈ (gb, .cells (List.toArray cur) e (0, 0)) :: F) (hsrc : ∀ j u, cs[j]? = some u → cl[so + j]? = some u) (hfit : o + cs.length ≤ cur.length) (h1 : ∀ u ∈ cs, u.oneCell' = true) :
    OpE P ro N fr ((gb, .cells (List.toArray cur) e (0, 0)) :: F) ⟨d, .call { callee := .builtin .copy, args := #[x, y], argTypes := #[T, T2] }, ty, pos, aft, g⟩ (fun v' l' => v' = .int .i64 (m : Nat) ∧ l' = (gb, .cells (List.toArray (cur.take o ++ cs ++ cur.drop (o + cs.length))) e (0, 0)) :: F) := by
  subst hm
  refine ⟨rfl, fun E a W hf hs' => ?_⟩
  have hρ := hf.agrees
  obtain ⟨inf, u1, u2, u3, u4⟩ := stV_spec c.out
  have hex : execOp a.eval ⟨d, .call { callee := .builtin .copy, args := #[x, y], argTypes := #[T, T2] }, ty, pos, aft, g⟩ = (do pure (.value (← Builtin.copy_ #[T, T2] ty #[.slice (some ⟨gb, o, none⟩) dLen dCap, .slice (some ⟨sb, so, none⟩) sLen sCap])) : Sem Next) := by
    simp [execOp, resolve, hρ x _ hx, hρ y _ hy, invoke, builtin]
  unfold OpVal
  rw [hex, Sem.run_bind]
  have hr := run_copy_k (P := P) W T T2 ty e inf gb o dLen dCap ⟨sb, so, none⟩ sLen sCap (List.toArray cur) e cs u1 u2 (hs'.has (gb, _) List.mem_cons_self) (by rw [u3]; exact hl) (fun j u hj => by rw [addr_add, hs'.cell hs]; exact hsrc j u hj) (by simpa using hfit) h1
  rw [hr]
  exact ⟨_, ⟨rfl, rfl⟩, hs'.row⟩
/-- nothing is copied -/
theorem e_copyNo {T T2 e k yb dLen dCap sLen sCap : Nat} {p q : Option Addr} (hx : ev fr x = some (.slice p dLen dCap)) (hy : ev fr y = some (.slice q sLen sCap)) [c : ST P T e k yb] (hm : Nat.min sLen dLen = 0) :
    OpE P ro N fr l ⟨d, .call { callee := .builtin .copy, args := #[x, y], argTypes := #[T, T2] }, ty, pos, aft, g⟩ (fun v' l' => v' = .int .i64 0 ∧ l' = l) := by
  refine ⟨rfl, fun E a W hf hs' => ?_⟩
  have hρ := hf.agrees
  obtain ⟨inf, u1, u2, u3, u4⟩ := stV_spec c.out
  have hex : execOp a.eval ⟨d, .call { callee := .builtin .copy, args := #[x, y], argTypes := #[T, T2] }, ty, pos, aft, g⟩ = (do pure (.value (← Builtin.copy_ #[T, T2] ty #[.slice p dLen dCap, .slice q sLen sCap])) : Sem Next) := by
    simp [execOp, resolve, hρ x _ hx, hρ y _ hy, invoke, builtin]
  unfold OpVal
  rw [hex, Sem.run_bind]
  have hr : (Builtin.copy_ #[T, T2] ty #[.slice p dLen dCap, .slice q sLen sCap]).run P W = .ok (goInt 0) W := by
    cases p <;> cases q <;> simp [Builtin.copy_, run_underlying u1, sizeOf, typeInfo, u2, Builtin.lenOf, Builtin.firstCells, hm, storeCells, loadCells, loadCellsFrom]
  rw [hr]
  exact ⟨_, ⟨rfl, rfl⟩, hs'⟩
/-- zeros appended where there is no room -/
theorem e_appendZ {T tn e k yb n m gb cap : Nat} {xs sp zs : List Value} {F : List Chunk} (hx : ev fr s = some (.slice (some ⟨gb, 0, none⟩) n cap)) (hy : ev fr x = some (.int .i64 (m : Nat))) [c : ST P T e k yb] [cz : ZV P e zs] [ci : IT P tn .i64] (hzs : zs.length = k) (hk : 0 < k)
    (hxs : xs.length = n * k) (hm0 : 0 < m) (hroom : cap < n + m) (hn : n + m ≤ 1000000) (hby : yb ≤ 1000) :
    OpE P ro N fr ((gb, .cells (List.toArray (xs ++ sp)) e (0, 0)) :: F) ⟨d, .call { callee := .builtin .append, args := #[s, x], argTypes := #[T, tn] }, ty, pos, aft, g⟩ (fun v' l' => ∃ nb cap' sp', (∀ c, c ∈ (gb, Obj.cells (List.toArray (xs ++ sp)) e (0, 0)) :: F → c.1 ≠ nb) ∧ v' = .slice (some ⟨nb, 0, none⟩) (n + m) cap' ∧ l' = (nb, .cells (List.toArray (xs ++ (List.replicate m zs).flatten ++ sp')) e (0, 0)) :: (gb, .cells (List.toArray (xs ++ sp)) e (0, 0)) :: F ∧ n + m ≤ cap' ∧ cap' ≤ maxLen ∧ (xs ++ (List.replicate m zs).flatten ++ sp').length = cap' * k) := by
  refine ⟨rfl, fun E a W hf hs => ?_⟩
  have hρ := hf.agrees
  obtain ⟨inf, u1, u2, u3, u4⟩ := stV_spec c.out
  obtain ⟨inf', zv, z1, z2, z3⟩ := zvV_spec cz.out
  rw [u2] at z1; cases z1
  have hu := itV_spec ci.out
  have hex : execOp a.eval ⟨d, .call { callee := .builtin .append, args := #[s, x], argTypes := #[T, tn] }, ty, pos, aft, g⟩ = (do pure (.value (← Builtin.append_ #[T, tn] ty #[.slice (some ⟨gb, 0, none⟩) n cap, .int .i64 (m : Nat)])) : Sem Next) := by
    simp [execOp, resolve, hρ s _ hx, hρ x _ hy, invoke, builtin]
  unfold OpVal
  rw [hex, Sem.run_bind]
  have hzc : zv.cells = List.toArray zs := by rw [← z3]
  have hold : ∀ j u, xs[j]? = some u → W.cell? ((⟨gb, 0, none⟩ : Addr).add j) = some u := fun j u hj => by
    rw [addr_add, hs.cell List.mem_cons_self, Nat.zero_add]
    have hlt := (List.getElem?_eq_some_iff.1 hj).1
    simp only [List.getElem?_toArray]
    rw [List.getElem?_append_left hlt]
    exact hj
  have hb2 : (n + m) * yb ≤ 140737488355328 := by
    have := Nat.mul_le_mul hn hby; omega
  have hr := run_append_zeros (P := P) W T tn ty e inf zv .i64 .i64 u1 hu u2 z2 ⟨gb, 0, none⟩ n cap xs (by rw [u3]; exact hxs) hold m hm0 (by rw [u3]; exact hk) hroom hn (by rw [u4]; exact hby) (growslice_fits (by omega) (by rw [u4]; exact hb2))
  rw [hr]
  have hsz := size_zeroCells zv.cells (grownCap W (n + m) cap e - (n + m))
  have hzm : Builtin.zeroCells zv.cells m = List.toArray (List.replicate m zs).flatten := by
    unfold Builtin.zeroCells
    have hk2 : 0 < m * k := Nat.mul_pos hm0 hk
    have := row_zeros hzc hzs hk2
    rw [show zv.cells.size = k by rw [hzc]; simpa using hzs]
    rw [← this, show zv.cells.size = k by rw [hzc]; simpa using hzs]
  refine ⟨_, ⟨W.heap.size, grownCap W (n + m) cap e, (Builtin.zeroCells zv.cells (grownCap W (n + m) cap e - (n + m))).toList, fun c hc => ?_, rfl, rfl, grownCap_ge _ _ _ _, grownCap_le_maxLen _ _ _ _ (by unfold maxLen; omega), ?_⟩, ?_⟩
  · intro e1
    have := hs.has c hc
    rw [e1] at this
    simp at this
  · have hge := grownCap_ge W (n + m) cap e
    have h1 : (Builtin.zeroCells zv.cells (grownCap W (n + m) cap e - (n + m))).toList.length = (grownCap W (n + m) cap e - (n + m)) * k := by
      rw [Array.length_toList, hsz, show zv.cells.size = k by rw [hzc]; simpa using hzs]
    have : (List.replicate m zs).flatten.length = m * k := by simp [hzs]
    rw [List.length_append, List.length_append, hxs, h1, this, ← Nat.add_mul, ← Nat.add_mul]
    congr 1; omega
  · have h2 := hs.drew.alloc (.cells (xs.toArray ++ Builtin.zeroCells zv.cells m ++ Builtin.zeroCells zv.cells (grownCap W (n + m) cap e - (n + m))) e)
    have e1 : W.drew.heap.size = W.heap.size := rfl
    rw [e1] at h2
    have e2 : List.toArray (xs ++ (List.replicate m zs).flatten ++ (Builtin.zeroCells zv.cells (grownCap W (n + m) cap e - (n + m))).toList) = xs.toArray ++ Builtin.zeroCells zv.cells m ++ Builtin.zeroCells zv.cells (grownCap W (n + m) cap e - (n + m)) := by
      rw [hzm]; apply Array.toList_inj.1; simp
    rw [e2]
    exact h2
/-- what is in two blocks does not overlap -/
theorem q_overlaps {f T e k yb : Nat} {fn : Func} {at_ : Array TypeId} {a1 o1 a2 o2 n1 c1 n2 c2 : Nat} {cl1 cl2 : Array Value} {t1 t2 : TypeId} (hfx : ev fr s = some (.func (.func f) #[] #[])) (hx : ev fr x = some (.slice (some ⟨a1, o1, none⟩) n1 c1)) (hy : ev fr y = some (.slice (some ⟨a2, o2, none⟩) n2 c2)) [c : ST P T e k yb]
    (hf : P.funcs[f]? = some fn) (hfn : (fn.name == "runtime.NumGoroutine") = false) (hb : fn.body.isNone = true) (hnx : Extern.findNext fn = none) (tR : TypeId) (hext : Extern.find fn = some (Extern.SlicesOverlaps.overlaps #[T, T] #[tR]))
    (h1 : (a1, Obj.cells cl1 t1 (0, 0)) ∈ R) (h2 : (a2, Obj.cells cl2 t2 (0, 0)) ∈ R) (hne : a1 ≠ a2) (h0 : 0 < cl2.size) :
    OpQ P ro N fr R ⟨d, .call { callee := .value s, args := #[x, y], argTypes := at_ }, ty, pos, aft, g⟩ (.bool false) := by
  refine ⟨fun l hl => ⟨rfl, fun E a W hfs hs => ?_⟩⟩
  have hρ := hfs.agrees
  obtain ⟨inf, u1, u2, u3, u4⟩ := stV_spec c.out
  have k1 := hs.has _ (hl _ h1)
  have k2 := hs.has _ (hl _ h2)
  simp only at k1 k2
  have hr := Lib.run_overlaps_apart (P := P) W T tR e u1 inf.size (fun w => by simp [sizeOf, typeInfo, u2]) ⟨a1, o1, none⟩ ⟨a2, o2, none⟩ n1 c1 n2 c2 hne t1 t2 cl1.size cl2.size (by simp [World.shape?, k1]) (by simp [World.shape?, k2]) (by omega) (by simp [World.frozen?, k1]) (by simp [World.frozen?, k1])
  have hc := run_callFunc_extern (P := P) hf hfn hb hnx hext #[.slice (some ⟨a1, o1, none⟩) n1 c1, .slice (some ⟨a2, o2, none⟩) n2 c2] W
  unfold OpVal
  have hex : (execOp a.eval ⟨d, .call { callee := .value s, args := #[x, y], argTypes := at_ }, ty, pos, aft, g⟩).run P W = .ok (.value (.bool false)) W := by
    simp only [execOp, resolve, List.map_toArray, List.map_cons, List.map_nil, hρ s _ hfx, hρ x _ hx, hρ y _ hy, Deferred.ofValue, Sem.run_bind]
    simp only [Sem.run_pure, Result.andThen, invoke]
    simp only [Array.append_empty, Array.empty_append]
    rw [hc, hr]
    rfl
  rw [hex]
  exact ⟨_, ⟨rfl, rfl⟩, hs⟩
end
end Go.Proofs.Ytmmohklaiffkmaa
