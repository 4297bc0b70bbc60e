/- Building structs and slices; append; results that lie in cells. Laws of my own, no program's. -/
import Derived.Test.YtmmohklaiffkmaaS7
set_option linter.unusedVariables false
set_option linter.unusedSimpArgs false
namespace Go.Proofs.Ytmmohklaiffkmaa
open Go.RowKit

def btV (P : Program) (t : Nat) : Bool := match P.underlying t with
  | some (.struct fs) => fs.all fun f => (P.info? f.type).isSome
  | _ => false
class BT (P : Program) (t : Nat) : Prop where out : btV P t = true

section
variable {P : Program} {ro : Option Nat} {N : Nat} {fr : Fr} {R l : List Chunk} {K : Value → List Chunk → Prop} {d : Option Nat} {ty : TypeId} {pos : String} {aft : Array Edge} {g : Option (Nat × Bool)} {x y z : Operand} {v u w : Value} {b off : Nat} {t t2 : TypeId}

theorem sl_mapM {α β : Type} {f : α → Sem β} {h : α → β} {Q : List β → List Chunk → Prop} : ∀ {xs : List α}, (∀ x, x ∈ xs → ∀ (Q : β → List Chunk → Prop) l, sl P (f x) l Q ↔ Q (h x) l) → (sl P (xs.mapM f) l Q ↔ Q (xs.map h) l)
  | [], _ => by simp only [List.mapM_nil, List.map_nil]; exact Iff.rfl
  | x :: xs, hx => by
    rw [List.mapM_cons, sl_bind, hx x List.mem_cons_self, sl_bind, sl_mapM (h := h) fun y hy => hx y (List.mem_cons_of_mem _ hy)]
    exact Iff.rfl
def evps (fr : Fr) : List (Nat × Operand) → Option (List (Nat × Value))
  | [] => some []
  | (i, x) :: r => match ev fr x, evps fr r with
    | some v, some vs => some ((i, v) :: vs)
    | _, _ => none
theorem Agrees.parts {ρ : Operand → Value} (h : Agrees fr ρ) : ∀ {xs : List (Nat × Operand)} {vs : List (Nat × Value)}, evps fr xs = some vs → (xs.map fun (i, x) => (i, ρ x)) = vs
  | [], vs, e => by cases e; rfl
  | (i, x) :: r, vs, e => by
    unfold evps at e
    split at e
    · rename_i v us h1 h2
      cases e
      rw [List.map_cons, h.parts h2]
      show (i, ρ x) :: us = _
      rw [h x v h1]
    · cases e
inductive BuildS (P : Program) (t : Nat) : List Value → List (Nat × Value) → List Value → Prop
  | nil {cs : List Value} : BuildS P t cs [] cs
  | one {cs cs1 cs2 : List Value} {i off ft : Nat} {v : Value} {r : List (Nat × Value)} (c : FV P t i off ft) (c2 : OC P ft) : v.oneCell' = true → LSet cs off v cs1 → BuildS P t cs1 r cs2 → BuildS P t cs ((i, v) :: r) cs2
  | agg {cs cs1 cs2 ws : List Value} {i off ft n : Nat} {r : List (Nat × Value)} (c : FV P t i off ft) (c2 : AG P ft n) : ws.length = n → LSetA cs off ws cs1 → BuildS P t cs1 r cs2 → BuildS P t cs ((i, .agg (List.toArray ws)) :: r) cs2
theorem zipIdx_set (vs : List Value) : ∀ (cs : Array Value) (off k : Nat), (vs.zipIdx k).foldl (fun cs (c, j) => cs.setIfInBounds (off + j) c) cs = setFrom cs (off + k) vs := by
  induction vs with
  | nil => intro cs off k; rfl
  | cons v vs ih =>
    intro cs off k
    rw [List.zipIdx_cons, List.foldl_cons, ih]
    rfl
theorem array_zip_set (vs cs : Array Value) (off : Nat) : vs.zipIdx.foldl (fun cs (c, j) => cs.setIfInBounds (off + j) c) cs = setFrom cs off vs.toList := by
  rw [← Array.foldl_toList, Array.toList_zipIdx, zipIdx_set]; rfl
theorem buildS_fill {fs : Array Field} (hu : P.underlying t = some (.struct fs)) {place : Nat → Option (Nat × Nat)} (hp : ∀ i fd inf, fs[i]? = some fd → P.info? fd.type = some inf → place i = some (fd.offset, inf.size)) {cs cs2 : List Value} {parts : List (Nat × Value)} (h : BuildS P t cs parts cs2) :
    Instr.fill place (List.toArray cs) parts = some (List.toArray cs2) := by
  induction h with
  | nil => rfl
  | @one cs cs1 cs2 i off ft v r c c2 h1 hs _ ih =>
    obtain ⟨fs', fd, k1, k2, k3, k4⟩ := fvV_spec c.out
    rw [hu] at k1; cases k1
    obtain ⟨ud, inf, _, _, i1, i2⟩ := ocV_spec c2.out
    rw [← k4] at i1
    unfold Instr.fill
    rw [hp _ _ _ k2 i1, k3, i2, oc1_cells h1]
    have hlt := hs.spec.2
    simp only
    rw [if_neg (by simp; omega), array_zip_set #[v] (List.toArray cs) off]
    simp only [setFrom, List.setIfInBounds_toArray, hs.spec.1]
    exact ih
  | @agg cs cs1 cs2 ws i off ft n r c c2 hn hs _ ih =>
    obtain ⟨fs', fd, k1, k2, k3, k4⟩ := fvV_spec c.out
    rw [hu] at k1; cases k1
    obtain ⟨ud, inf, _, _, i1, i2⟩ := agV_spec c2.out
    rw [← k4] at i1
    unfold Instr.fill
    rw [hp _ _ _ k2 i1, k3, i2]
    have hlt := hs.spec.2
    have e : (Value.agg (List.toArray ws)).cells = List.toArray ws := rfl
    simp only [e]
    rw [if_neg (by simp [hn]; omega), array_zip_set (List.toArray ws) (List.toArray cs) off]
    have := hs.spec.1
    simp only at this ⊢
    rw [this]
    exact ih
theorem q_build {xs : List (Nat × Operand)} {ps : List (Nat × Value)} {zs cs : List Value} (hx : evps fr xs = some ps) [c : ZV P t zs] [cb : BT P t] (hb : BuildS P t zs ps cs) : OpQ P ro N fr R ⟨d, .build t (List.toArray xs), ty, pos, aft, g⟩ (.agg (List.toArray cs)) := opQ_of_sl rfl fun ρ l hρ _ => by
  obtain ⟨i, zv, h1, h2, h3⟩ := zvV_spec c.out
  have hbt := cb.out
  unfold btV at hbt
  split at hbt
  · rename_i fs hu
    simp only [execOp, sl_bind, Instr.build, zeroValue, List.map_toArray, hρ.parts hx]
    rw [← sl_bind, sl_info h1, h2]
    simp only [sl_pure]
    rw [sl_under' hu]
    simp only [sl_bind]
    have hfm : fs = List.toArray fs.toList := by simp
    rw [hfm, List.mapM_toArray, map_eq_pure_bind, sl_bind, sl_mapM (h := fun f => (f.offset, ((P.info? f.type).map (·.size)).getD 0)) (by
      intro f hf Q l
      have := Array.all_eq_true'.1 hbt f (by simpa using hf)
      cases hi : P.info? f.type with
      | none => rw [hi] at this; cases this
      | some inf =>
        rw [sl_bind, sl_sizeOf' hi]
        exact Iff.rfl)]
    simp only [sl_pure]
    have hfill := buildS_fill (place := fun i => (List.toArray (fs.toList.map fun f => (f.offset, ((P.info? f.type).map (·.size)).getD 0)))[i]?) hu (by
      intro i fd inf k1 k2
      simp [k1, k2]) hb
    have hz : zv.cells = List.toArray zs := by rw [← h3]
    rw [hz, hfill]
    exact ⟨rfl, rfl⟩
  · cases hbt

theorem run_isAgg {T : TypeId} {ud : TypeDesc} (h : P.underlying T = some ud) (W : World) : (isAgg T).run P W = .ok (isAggD ud) W := by
  unfold isAgg
  rw [Sem.run_bind, run_underlying h]
  cases ud <;> rfl
theorem run_loadVar1 {E W : World} {T : TypeId} {cs : List Value} {ct : TypeId} {fz : Nat × Nat} (hc : ocV P T = true) (hs : Sat E l W) (hm : (b, Obj.cells (List.toArray cs) ct fz) ∈ l) (hv : lget cs off = some v) : (loadVar T ⟨b, off, none⟩).run P W = .ok v W := by
  obtain ⟨ud, i, e1, e2, _, _⟩ := ocV_spec hc
  have hcell := hs.cell hm off
  rw [cell_lit hv] at hcell
  unfold loadVar
  rw [Sem.run_bind, run_isAgg e1, e2]
  simp [Result.andThen, hcell]
theorem run_loadVarA {E W : World} {T n : Nat} {cs ws : List Value} {ct : TypeId} {fz : Nat × Nat} (hc : agV P T = some n) (hs : Sat E l W) (hm : (b, Obj.cells (List.toArray cs) ct fz) ∈ l) (hv : LSub cs off n ws) : (loadVar T ⟨b, off, none⟩).run P W = .ok (.agg (List.toArray ws)) W := by
  obtain ⟨ud, i, e1, e2, e3, e4⟩ := agV_spec hc
  have hsz : (sizeOf T).run P W = .ok n W := by
    unfold sizeOf typeInfo
    simp [Sem.run_bind, Result.andThen, program, Sem.run, e3, e4]
  obtain ⟨hv1, hv2⟩ := hv.spec
  have hlen : ws.length = n := by rw [← hv1]; simp; omega
  unfold loadVar
  rw [Sem.run_bind, run_isAgg e1, e2]
  simp only [Result.andThen, if_true]
  rw [Sem.run_bind, hsz]
  simp only [Result.andThen]
  rw [Sem.run_bind]
  have := run_loadCells_list (P := P) (w := W) ⟨b, off, none⟩ ws (fun j u hj => by
    rw [addr_add, hs.cell hm]
    rw [← hv1] at hj
    simp only [List.getElem?_toArray]
    rw [List.getElem?_take] at hj
    split at hj
    · simpa [List.getElem?_drop] using hj
    · cases hj)
  rw [hlen] at this
  rw [this]
  rfl
theorem rs_tmp {t : Nat} {v : Value} {rs : List ResultVar} {vs : List Value} (h1 : flook fr t = some v) (h : ResS P fr l rs vs) : ResS P fr l (.tmp t :: rs) (v :: vs) := .tmp h1 h
theorem rs_cell1 {T : TypeId} {cs : List Value} {ct : TypeId} {fz : Nat × Nat} {rs : List ResultVar} {vs : List Value} {k : Nat} (h1 : flook fr k = some (.pointer (some ⟨b, off, none⟩))) [c : OC P T] (hm : (b, Obj.cells (List.toArray cs) ct fz) ∈ l) (hv : lget cs off = some v) (h : ResS P fr l rs vs) : ResS P fr l (.cell k T :: rs) (v :: vs) :=
  .cell h1 (fun E W hs => run_loadVar1 c.out hs hm hv) h
theorem rs_cellA {T n : Nat} {cs ws : List Value} {ct : TypeId} {fz : Nat × Nat} {rs : List ResultVar} {vs : List Value} {k : Nat} (h1 : flook fr k = some (.pointer (some ⟨b, off, none⟩))) [c : AG P T n] (hm : (b, Obj.cells (List.toArray cs) ct fz) ∈ l) (hv : LSub cs off n ws) (h : ResS P fr l rs vs) : ResS P fr l (.cell k T :: rs) (.agg (List.toArray ws) :: vs) :=
  .cell h1 (fun E W hs => run_loadVarA c.out hs hm hv) h
/-- a call of a function value that has captured something; it has one result and leaves all blocks -/
theorem q_callC {f : Nat} {xs : List Operand} {vs fs cs : List Value} {at_ : Array TypeId} (hx : ev fr x = some (.func (.func f) (List.toArray fs) (List.toArray cs))) (hy : evs fr xs = some vs) [c : EN P f] (h : ∀ l, (∀ c, c ∈ R → c ∈ l) → Fn P f (fs ++ vs ++ cs) l (fun v' l' => v' = v ∧ l' = l)) : OpQ P ro N fr R ⟨d, .call { callee := .value x, args := xs.toArray, argTypes := at_ }, ty, pos, aft, g⟩ v :=
  ⟨fun l hl => e_call hx hy (by simpa using h l hl)⟩
end
def baV (P : Program) (t : Nat) : Bool := match P.underlying t with
  | some (.array _ e) => (P.info? e).isSome
  | _ => false
class BA (P : Program) (t : Nat) : Prop where out : baV P t = true
/-- an array of zeros -/
theorem q_build0 {P : Program} {ro : Option Nat} {N : Nat} {fr : Fr} {R : List Chunk} {d : Option Nat} {ty : TypeId} {pos : String} {aft : Array Edge} {g : Option (Nat × Bool)} {t : TypeId} {zs : List Value} [c : ZV P t zs] [cb : BA P t] : OpQ P ro N fr R ⟨d, .build t #[], ty, pos, aft, g⟩ (.agg (List.toArray zs)) := opQ_of_sl rfl fun ρ l hρ _ => by
  obtain ⟨i, zv, h1, h2, h3⟩ := zvV_spec c.out
  have hbt := cb.out
  unfold baV at hbt
  split at hbt
  · rename_i n e hu
    cases hi : P.info? e with
    | none => rw [hi] at hbt; cases hbt
    | some inf =>
      simp only [execOp, sl_bind, Instr.build, zeroValue, List.map_toArray, Array.map_empty]
      rw [← sl_bind, sl_info h1, h2]
      simp only [sl_pure]
      rw [sl_under' hu]
      show sl P (sizeOf e >>= _) l _
      rw [sl_bind, sl_sizeOf' hi]
      simp only [List.map_nil, Instr.fill]
      refine ⟨?_, rfl⟩
      rw [← h3]
  · cases hbt
end Go.Proofs.Ytmmohklaiffkmaa
