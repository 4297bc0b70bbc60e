/- Laws that the statement's proof leans on (joined out of several texts). -/
import Derived.WalkKit
import Derived.ProofKit
import Derived.OpenShut
import Derived.ChangeOld
import Derived.Below
import Derived.Deep.Slices
import Derived.Handy
import Derived.RangeFuncNested
import Derived.RangeFuncBound
import Derived.RangeFuncCalls
import Derived.RangeFuncLeaves
import Derived.Shelf.Abstract
import Derived.Shelf.RegionOpen
import Derived.OwnWalkIn
import Derived.TacticsInMore
import Derived.LoopNIn
import Derived.LoopIn
import Derived.WalkSmall
import Derived.Lib.Hide
import Derived.BigFrameIn
import Derived.BigRegion
import Derived.Deep.QuietTactic
import Derived.BigQuiet
import Derived.WalkMore
set_option linter.unusedVariables false
set_option linter.unusedSimpArgs false
namespace Go.Proofs.YtcjknmpogkofpaaGreat
open Go.ChangeShapes Go.WideShapes Go.ChangeAt Go.RowKit Go.Deep
def CellIs : Option IntKind → Value → Prop
  | some k, v => ∃ a : Int, v = .int k a ∧ (Lit.int k a).wf = true
  | none, v => ∃ b : Bool, v = .bool b
def AllIs : List (Option IntKind) → List Value → Prop
  | [], cs => cs = []
  | k :: ks, cs => ∃ c r, cs = c :: r ∧ CellIs k c ∧ AllIs ks r
theorem AllIs.append {a b : List (Option IntKind)} {x y : List Value} (h : AllIs a x) (k : AllIs b y) : AllIs (a ++ b) (x ++ y) := by
  induction a generalizing x with
  | nil => cases h; exact k
  | cons q a ih => obtain ⟨c, r, rfl, h1, h2⟩ := h; exact ⟨c, r ++ y, rfl, h1, ih h2⟩
def flatK (P : Program) : Nat → TypeId → Option (List (Option IntKind))
  | 0, _ => none
  | n + 1, t =>
    match P.underlying t with
    | some (.int k) => some [some k]
    | some .bool => some [none]
    | some (.struct fs) => fs.toList.foldl (fun acc f => acc.bind fun l => (flatK P n f.type).bind fun ks => if f.offset = l.length ∧ ks.length = P.cellsOf f.type then some (l ++ ks) else none) (some []) |>.bind fun ks => if ks.length = P.cellsOf t then some ks else none
    | some (.array len e) => (flatK P n e).bind fun ks => if ks.length = P.cellsOf e ∧ len * P.cellsOf e = P.cellsOf t then some ((List.replicate len ks).flatten) else none
    | _ => none
theorem foldl_none {α β : Type} (g : List α → β → Option (List α)) (fs : List β) : fs.foldl (fun acc f => acc.bind fun l => g l f) none = none := by
  induction fs with
  | nil => rfl
  | cons f fs ih => simpa using ih
section
variable {H : Type} {enc : TypeId × Value → H} {P : Program} {w : World} {base : Nat} {spare : Nat → Bool} {held : Bool}
theorem flat_fields (n m : Nat) (ih : ∀ (t : TypeId) (m : Nat) (cs : List Value) (x : DataW H × List MemPlace) (ks : List (Option IntKind)), DataW.trod enc P w base spare held m t cs = some x → flatK P n t = some ks → AllIs ks cs) (cs : List Value) :
    ∀ (fs : List Field) (l ks : List (Option IntKind)), (∀ f ∈ fs, ∃ x, DataW.trod enc P w base spare held m f.type ((cs.drop f.offset).take (P.cellsOf f.type)) = some x) →
      AllIs l (cs.take l.length) → fs.foldl (fun acc f => acc.bind fun l => (flatK P n f.type).bind fun ks => if f.offset = l.length ∧ ks.length = P.cellsOf f.type then some (l ++ ks) else none) (some l) = some ks → AllIs ks (cs.take ks.length) := by
  intro fs
  induction fs with
  | nil => intro l ks _ hl h; simp at h; subst h; exact hl
  | cons f fs ihf =>
    intro l ks hx hl h
    simp only [List.foldl_cons, Option.bind_some] at h
    cases hk : flatK P n f.type with
    | none => rw [hk] at h; simp only [Option.bind_none] at h; rw [foldl_none] at h; cases h
    | some kf =>
      rw [hk] at h
      simp only [Option.bind_some] at h
      by_cases hc : f.offset = l.length ∧ kf.length = P.cellsOf f.type
      · rw [if_pos hc] at h
        refine ihf _ _ (fun g hg => hx g (List.mem_cons_of_mem _ hg)) ?_ h
        obtain ⟨x, hxf⟩ := hx f List.mem_cons_self
        have := ih f.type m _ x kf hxf hk
        rw [List.length_append, List.take_add, ← hc.1]
        rw [← hc.2] at this
        rw [hc.1] at this ⊢
        exact hl.append this
      · rw [if_neg hc, foldl_none] at h; cases h
theorem flat_rows (n m : Nat) (e : TypeId) (ks : List (Option IntKind)) (ih : ∀ (cs : List Value) (x : DataW H × List MemPlace), DataW.trod enc P w base spare held m e cs = some x → AllIs ks cs) (cs : List Value) (hk : ks.length = P.cellsOf e) :
    ∀ (k : Nat), (∀ i, i < k → ∃ x, DataW.trod enc P w base spare held m e ((cs.drop (i * P.cellsOf e)).take (P.cellsOf e)) = some x) → AllIs ((List.replicate k ks).flatten) (cs.take (k * P.cellsOf e)) := by
  intro k
  induction k with
  | zero => intro _; simp [AllIs]
  | succ k ihk =>
    intro h
    have h1 := ihk (fun i hi => h i (by omega))
    obtain ⟨x, hx⟩ := h k (by omega)
    have h2 := ih _ x hx
    rw [Nat.succ_mul, List.take_add, List.replicate_succ', List.flatten_append]
    simpa using h1.append h2
theorem flat_open : ∀ (n : Nat) (t : TypeId) (m : Nat) (cs : List Value) (x : DataW H × List MemPlace) (ks : List (Option IntKind)), DataW.trod enc P w base spare held m t cs = some x → flatK P n t = some ks → AllIs ks cs := by
  intro n
  induction n with
  | zero => intro t m cs x ks _ h; simp [flatK] at h
  | succ n ih =>
    intro t m cs x ks hx h
    unfold flatK at h
    split at h
    · rename_i k ht
      obtain ⟨a, rfl, _, wa⟩ := DataW.trod_int ht hx
      cases h
      exact ⟨_, _, rfl, ⟨a, rfl, wa⟩, rfl⟩
    · rename_i ht
      obtain ⟨b, rfl, _⟩ := DataW.trod_bool ht hx
      cases h
      exact ⟨_, _, rfl, ⟨b, rfl⟩, rfl⟩
    · rename_i fs ht
      obtain ⟨xs, m', _, _, hl, hlen, hf⟩ := DataW.trod_struct ht hx
      obtain ⟨k0, hk0, hk1⟩ := Option.bind_eq_some_iff.1 h
      by_cases hc : k0.length = P.cellsOf t
      · rw [if_pos hc] at hk1
        cases hk1
        have := flat_fields n m' ih cs fs.toList [] ks (fun f hfm => by
          obtain ⟨i, hi, he⟩ := List.getElem_of_mem hfm
          have h0 := hf i f (by rw [← Array.getElem?_toList]; exact List.getElem?_eq_some_iff.2 ⟨hi, he⟩)
          have hix : i < xs.length := by rw [hlen]; simpa using hi
          exact ⟨xs[i], by rw [h0]; exact List.getElem?_eq_getElem hix⟩) rfl hk0
        rwa [hc, ← hl, List.take_length] at this
      · rw [if_neg hc] at hk1; cases hk1
    · rename_i len e ht
      obtain ⟨xs, m', _, _, hl, hlen, hf⟩ := DataW.trod_array ht hx
      cases hk : flatK P n e with
      | none => rw [hk] at h; cases h
      | some ke =>
        rw [hk] at h
        simp only [Option.bind_some] at h
        by_cases hc : ke.length = P.cellsOf e ∧ len * P.cellsOf e = P.cellsOf t
        · rw [if_pos hc] at h
          cases h
          have := flat_rows n m' e ke (fun cs' x' hx' => ih e m' cs' x' ke hx' hk) cs hc.1 len (fun i hi => by
            have h0 := hf i hi
            have hix : i < xs.length := by omega
            exact ⟨xs[i], by rw [h0]; exact List.getElem?_eq_getElem hix⟩)
          rwa [hc.2, ← hl, List.take_length] at this
        · rw [if_neg hc] at h; cases h
    · cases h
theorem open_flat {r : Reach} {b0 : Nat} {t : TypeId} {v : Value} {d : DataW H} {p : List MemPlace} {ks : List (Option IntKind)} (n : Nat)
    (hag : (match P.underlying t with | some (.struct _) | some (.array _ _) => true | _ => false) = true) (hk : flatK P n t = some ks)
    (hv : Value.okWide P w r b0 t v) (h : DataW.Trod enc P w base spare held t v d p) : ∃ cs : List Value, v = .agg cs.toArray ∧ AllIs ks cs := by
  obtain ⟨cs, rfl⟩ : ∃ cs, v = .agg cs := by
    unfold Value.okWide at hv
    split at hv
    · obtain ⟨cs, h1, _⟩ := hv; exact ⟨cs, h1⟩
    · obtain ⟨cs, h1, _⟩ := hv; exact ⟨cs, h1⟩
    · rename_i h1 h2
      split at hag
      · rename_i hu; exact absurd hu (h1 _)
      · rename_i hu; exact absurd hu (h2 _ _)
      · cases hag
  obtain ⟨fuel, hf⟩ := h
  simp only [Value.cells] at hf
  exact ⟨cs.toList, by simp, flat_open n t fuel _ _ ks hf hk⟩
end
end Go.Proofs.YtcjknmpogkofpaaGreat
namespace Go.Proofs.YtcjknmpogkofpaaGreat
open Go.RowKit
theorem blk_cell {W : World} {b : Nat} {c : Array Value} {t : TypeId} {fr : Nat × Nat} (h : W.heap[b]? = some (.cells c t fr)) : ∀ i, W.cell? ⟨b, i, none⟩ = c[i]? := fun i => by simp [World.cell?, h]
theorem blk_set {W : World} {b i : Nat} {c : Array Value} {t : TypeId} {fr : Nat × Nat} (h : W.heap[b]? = some (.cells c t fr)) (v : Value) : (W.setCell ⟨b, i, none⟩ v).heap[b]? = some (.cells (c.setIfInBounds i v) t fr) := by
  obtain ⟨hlt, hk⟩ := Array.getElem?_eq_some_iff.1 h
  show (W.heap.modify b _)[b]? = _
  rw [Array.getElem?_eq_getElem (by rw [Array.size_modify]; exact hlt), Array.getElem_modify_self, hk]
  rfl
theorem stepR_scope {P : Program} {b : Frame} {a : Act} {k : List Item} {cs : List Frame} {w : World} {c : Code} : step P (lone (b.atR a (.code (.scope c) :: k)) cs w) = .next (lone (b.atR a (.code c :: .inScope c :: k)) cs w) :=
  step_lone_go (by simp [stepG, stepG.exec, Frame.atR])
theorem stepR_inScope {P : Program} {b : Frame} {a : Act} {k : List Item} {cs : List Frame} {w : World} {c : Code} : step P (lone (b.atR a (.inScope c :: k)) cs w) = .next (lone (b.atR a k) cs w) :=
  step_lone_go (by simp [stepG, stepG.exec, Frame.atR])
theorem wpIn_scope {F : Fence} {n : Nat} {P : Program} {Q : Exit → Act → World → Prop} {a : Act} {w : World} {c : Code} (h : c.wpIn F n P (Exit.noGoto Q) a w) : (Code.scope c).wpIn F n P Q a w := by
  intro b k cs hro hb hr
  have h0 : (lone (b.atR a (.code (.scope c) :: k)) cs w).fenced P F := fenced_calm hb hr rfl
  obtain ⟨e, a₁, w₁, hq, harr⟩ := h b (.inScope c :: k) cs hro hb hr
  cases e with
  | normal => exact ⟨.normal, a₁, w₁, hq, .head h0 stepR_scope (StepsIn.trans harr (.one (fenced_calm hb hr rfl) stepR_inScope))⟩
  | exit id => exact ⟨.exit id, a₁, w₁, hq, .of_steps (.one h0 stepR_scope) ⟨fun k' hk => harr.1 k' (by simp [exitTo, hk]), fun hr' hk => harr.2 hr' (by simp [exitTo, hk])⟩⟩
  | goto l => exact hq.elim
  | ret => exact ⟨_, a₁, w₁, hq, .of_steps (.one h0 stepR_scope) harr⟩
  | panic ch => exact ⟨_, a₁, w₁, hq, .of_steps (.one h0 stepR_scope) harr⟩
  | outgrown => exact ⟨_, a₁, w₁, hq, .of_steps (.one h0 stepR_scope) harr⟩
abbrev Chunk := Nat × Obj
structure Sat (E : World) (l : List Chunk) (W : World) : Prop where
  os : W.os = E.os
  tape : W.tape = E.tape
  output : W.output = E.output
  nodup : (l.map Prod.fst).Nodup
  has : ∀ c, c ∈ l → W.heap[c.1]? = some c.2
section
variable {E W : World} {l l' : List Chunk} {c : Chunk} {b : Nat} {o o' : Obj}
theorem Sat.perm (h : Sat E l W) (p : l.Perm l') : Sat E l' W :=
  ⟨h.os, h.tape, h.output, (p.map _).nodup_iff.1 h.nodup, fun c hc => h.has c (p.mem_iff.2 hc)⟩
theorem Sat.sub (h : Sat E l W) (s : l'.Sublist l) : Sat E l' W :=
  ⟨h.os, h.tape, h.output, List.Nodup.sublist (s.map _) h.nodup, fun c hc => h.has c (s.subset hc)⟩
theorem Sat.tail (h : Sat E (c :: l) W) : Sat E l W := h.sub (List.sublist_cons_self _ _)
theorem Sat.lt (h : Sat E l W) (hc : c ∈ l) : c.1 < W.heap.size := (Array.getElem?_eq_some_iff.1 (h.has c hc)).1
theorem Sat.drawn (h : Sat E l W) (n : Nat) : Sat E l { W with drawn := n } := ⟨h.os, h.tape, h.output, h.nodup, h.has⟩
theorem Sat.drew (h : Sat E l W) : Sat E l W.drew := ⟨h.os, h.tape, h.output, h.nodup, h.has⟩
theorem Sat.alloc (h : Sat E l W) (o : Obj) : Sat E ((W.heap.size, o) :: l) (W.alloc o) := by
  refine ⟨h.os, h.tape, h.output, ?_, fun c hc => ?_⟩
  · rw [List.map_cons, List.nodup_cons]
    refine ⟨fun hm => ?_, h.nodup⟩
    obtain ⟨c, hc, he⟩ := List.mem_map.1 hm
    have := h.lt hc
    simp only at he
    omega
  · rcases List.mem_cons.1 hc with rfl | hc
    · exact World.alloc_heap_new W o
    · exact (Below.heap_alloc W o c.1 (h.lt hc)).trans (h.has c hc)
inductive Upd : List Chunk → Nat → Obj → Obj → List Chunk → Prop
  | here {l : List Chunk} {b : Nat} {o o' : Obj} : Upd ((b, o) :: l) b o o' ((b, o') :: l)
  | there {l l' : List Chunk} {b : Nat} {o o' : Obj} {c : Chunk} : Upd l b o o' l' → Upd (c :: l) b o o' (c :: l')
theorem Upd.mem (h : Upd l b o o' l') : (b, o) ∈ l := by
  induction h with
  | here => exact List.mem_cons_self
  | there _ ih => exact List.mem_cons_of_mem _ ih
theorem Upd.keys (h : Upd l b o o' l') : l'.map Prod.fst = l.map Prod.fst := by
  induction h with
  | here => rfl
  | there _ ih => simp [ih]
theorem Upd.inv (h : Upd l b o o' l') : ∀ c, c ∈ l' → c = (b, o') ∨ c ∈ l := by
  induction h with
  | here => intro c hc; rcases List.mem_cons.1 hc with rfl | hc
            · exact .inl rfl
            · exact .inr (List.mem_cons_of_mem _ hc)
  | there _ ih => intro c hc; rcases List.mem_cons.1 hc with rfl | hc
                  · exact .inr List.mem_cons_self
                  · exact (ih c hc).imp id (List.mem_cons_of_mem _)
theorem nodup_key {l : List Chunk} (h : (l.map Prod.fst).Nodup) {b : Nat} {o o' : Obj} (h1 : (b, o) ∈ l) (h2 : (b, o') ∈ l) : o = o' := by
  induction l with
  | nil => cases h1
  | cons c l ih =>
    rw [List.map_cons, List.nodup_cons] at h
    rcases List.mem_cons.1 h1 with e1 | h1 <;> rcases List.mem_cons.1 h2 with e2 | h2
    · rw [← e1] at e2; cases e2; rfl
    · exact absurd (List.mem_map.2 ⟨_, h2, by rw [← e1]⟩) h.1
    · exact absurd (List.mem_map.2 ⟨_, h1, by rw [← e2]⟩) h.1
    · exact ih h.2 h1 h2
theorem Upd.other (h : Upd l b o o' l') (hn : (l.map Prod.fst).Nodup) : ∀ c, c ∈ l' → c = (b, o') ∨ (c ∈ l ∧ c.1 ≠ b) := by
  intro c hc
  by_cases hb : c.1 = b
  · left
    obtain ⟨k, x⟩ := c
    simp only at hb
    subst hb
    have hm : (k, o') ∈ l' := by
      clear hc hn
      induction h with
      | here => exact List.mem_cons_self
      | there _ ih => exact List.mem_cons_of_mem _ ih
    rw [nodup_key (by rw [h.keys]; exact hn) hc hm]
  · rcases h.inv c hc with rfl | hc
    · exact absurd rfl hb
    · exact .inr ⟨hc, hb⟩
theorem Sat.upd (h : Sat E l W) (u : Upd l b o o' l') : Sat E l' (W.putObj b o') := by
  refine ⟨h.os, h.tape, h.output, by rw [u.keys]; exact h.nodup, fun c hc => ?_⟩
  rcases u.other h.nodup c hc with rfl | ⟨hm, hne⟩
  · exact World.putObj_heap_same (h.lt u.mem)
  · exact (World.putObj_heap_other hne).trans (h.has c hm)
theorem Sat.setCell {cs : Array Value} {t : TypeId} {fz : Nat × Nat} {i : Nat} {v : Value} (h : Sat E l W) (u : Upd l b (.cells cs t fz) (.cells (cs.setIfInBounds i v) t fz) l') : Sat E l' (W.setCell ⟨b, i, none⟩ v) := by
  refine ⟨h.os, h.tape, h.output, by rw [u.keys]; exact h.nodup, fun c hc => ?_⟩
  rcases u.other h.nodup c hc with rfl | ⟨hm, hne⟩
  · exact blk_set (h.has _ u.mem) v
  · exact (Below.heap_setCell _ _ _ _ hne).trans (h.has c hm)
theorem Sat.cell {cs : Array Value} {t : TypeId} {fz : Nat × Nat} (h : Sat E l W) (hm : (b, Obj.cells cs t fz) ∈ l) (i : Nat) : W.cell? ⟨b, i, none⟩ = cs[i]? := blk_cell (h.has _ hm) i
theorem Sat.frz {cs : Array Value} {t : TypeId} {fz : Nat × Nat} (h : Sat E l W) (hm : (b, Obj.cells cs t fz) ∈ l) (i : Nat) : W.frozen? ⟨b, i, none⟩ = (decide (fz.1 ≤ i) && decide (i < fz.2)) := by
  obtain ⟨lo, hi⟩ := fz
  simp [World.frozen?, h.has _ hm]
end
def sl (P : Program) {α : Type} : Sem α → List Chunk → (α → List Chunk → Prop) → Prop
  | .pure a, l, Q => Q a l
  | .load _ a k, l, Q => ∃ c t fz v, (a.block, Obj.cells c t fz) ∈ l ∧ a.spot = none ∧ c[a.off]? = some v ∧ sl P (k v) l Q
  | .store _ a v k, l, Q => v.oneCell' = true ∧ ∃ c t fz l', Upd l a.block (.cells c t fz) (.cells (c.setIfInBounds a.off v) t fz) l' ∧ a.spot = none ∧ a.off < c.size ∧ (decide (fz.1 ≤ a.off) && decide (a.off < fz.2)) = false ∧ sl P k l' Q
  | .new o k, l, Q => ∀ b, (∀ c, c ∈ l → c.1 ≠ b) → sl P (k b) ((b, o) :: l) Q
  | .shape r k, l, Q => ∃ c t fz, (r, Obj.cells c t fz) ∈ l ∧ sl P (k (some (t, c.size))) l Q
  | .frozen a k, l, Q => ∃ c t fz, (a.block, Obj.cells c t fz) ∈ l ∧ a.spot = none ∧ sl P (k (decide (fz.1 ≤ a.off) && decide (a.off < fz.2))) l Q
  | .getObj r k, l, Q => ∃ o, (r, o) ∈ l ∧ o.isCells = false ∧ sl P (k o) l Q
  | .setObj r o' k, l, Q => ∃ o l', Upd l r o o' l' ∧ o.isCells = false ∧ sl P k l' Q
  | .choose q k, l, Q => ∀ t, sl P (k (if q.forced then 0 else q.cut t)) l Q
  | .program k, l, Q => sl P (k P) l Q
  | .mark _ k, l, Q => sl P k l Q
  | .halt _, _, _ => False
  | .freeze .., _, _ => False
  | .sys .., _, _ => False
theorem sl_mono {P : Program} {α : Type} {Q Q' : α → List Chunk → Prop} (hq : ∀ a l, Q a l → Q' a l) (s : Sem α) : ∀ l, sl P s l Q → sl P s l Q' := by
  induction s with
  | pure a => exact fun l h => hq _ _ h
  | load m a k ih => rintro l ⟨c, t, fz, v, h1, h2, h3, h4⟩; exact ⟨c, t, fz, v, h1, h2, h3, ih _ _ h4⟩
  | store m a v k ih => rintro l ⟨h0, c, t, fz, l', h1, h2, h3, h4, h5⟩; exact ⟨h0, c, t, fz, l', h1, h2, h3, h4, ih _ h5⟩
  | new o k ih => exact fun l h b hb => ih _ _ (h b hb)
  | shape r k ih => rintro l ⟨c, t, fz, h1, h2⟩; exact ⟨c, t, fz, h1, ih _ _ h2⟩
  | frozen a k ih => rintro l ⟨c, t, fz, h1, h2, h3⟩; exact ⟨c, t, fz, h1, h2, ih _ _ h3⟩
  | getObj r k ih => rintro l ⟨o, h1, h2, h3⟩; exact ⟨o, h1, h2, ih _ _ h3⟩
  | setObj r o' k ih => rintro l ⟨o, l', h1, h2, h3⟩; exact ⟨o, l', h1, h2, ih _ h3⟩
  | choose q k ih => exact fun l h t => ih _ _ (h t)
  | program k ih => exact fun l h => ih _ _ h
  | mark m k ih => exact fun l h => ih _ h
  | halt h => exact fun l h => h
  | freeze a n k ih => exact fun l h => h
  | sys c k ih => exact fun l h => h
theorem sl_bind {P : Program} {α β : Type} {Q : β → List Chunk → Prop} {f : α → Sem β} (s : Sem α) : ∀ l, sl P (s >>= f) l Q ↔ sl P s l (fun a l' => sl P (f a) l' Q) := by
  show ∀ l, sl P (s.bind f) l Q ↔ _
  induction s with
  | pure a => exact fun l => Iff.rfl
  | load m a k ih => intro l; simp only [Sem.bind, sl, ih]
  | store m a v k ih => intro l; simp only [Sem.bind, sl, ih]
  | new o k ih => intro l; simp only [Sem.bind, sl, ih]
  | shape r k ih => intro l; simp only [Sem.bind, sl, ih]
  | frozen a k ih => intro l; simp only [Sem.bind, sl, ih]
  | getObj r k ih => intro l; simp only [Sem.bind, sl, ih]
  | setObj r o' k ih => intro l; simp only [Sem.bind, sl, ih]
  | choose q k ih => intro l; simp only [Sem.bind, sl, ih]
  | program k ih => intro l; simp only [Sem.bind, sl, ih]
  | mark m k ih => intro l; simp only [Sem.bind, sl, ih]
  | halt h => exact fun l => Iff.rfl
  | freeze a n k ih => exact fun l => Iff.rfl
  | sys c k ih => exact fun l => Iff.rfl
theorem sl_pure {P : Program} {α : Type} {Q : α → List Chunk → Prop} (a : α) (l : List Chunk) : sl P (pure a : Sem α) l Q ↔ Q a l := Iff.rfl
theorem sl_sound {P : Program} {α : Type} {E : World} {Q : α → List Chunk → Prop} (s : Sem α) : ∀ (l : List Chunk) (W : World), sl P s l Q → Sat E l W → ∃ a W' l', s.run P W = .ok a W' ∧ Q a l' ∧ Sat E l' W' := by
  induction s with
  | pure a => exact fun l W h hs => ⟨a, W, l, rfl, h, hs⟩
  | load m a k ih =>
    rintro l W ⟨c, t, fz, v, h1, h2, h3, h4⟩ hs
    obtain ⟨x, W', l', hr, hq, hs'⟩ := ih v l W h4 hs
    obtain ⟨ab, ao, asp⟩ := a
    simp only at h2 h3 h1
    subst h2
    exact ⟨x, W', l', by simp [Sem.run, hs.cell h1, h3, hr], hq, hs'⟩
  | store m a v k ih =>
    rintro l W ⟨h0, c, t, fz, l1, h1, h2, h3, h4, h5⟩ hs
    obtain ⟨ab, ao, asp⟩ := a
    simp only at h2 h3 h1 h4
    subst h2
    obtain ⟨x, W', l', hr, hq, hs'⟩ := ih l1 _ h5 (hs.setCell h1)
    refine ⟨x, W', l', ?_, hq, hs'⟩
    have hc := hs.cell h1.mem ao
    rw [Array.getElem?_eq_getElem h3] at hc
    have hf := (hs.frz h1.mem ao).trans h4
    cases v <;> simp only [Value.oneCell', Bool.false_eq_true] at h0 <;> simp [Sem.run, hc, hf, hr]
  | new o k ih =>
    intro l W h hs
    obtain ⟨x, W', l', hr, hq, hs'⟩ := ih W.heap.size _ (W.alloc o) (h W.heap.size (fun c hc => by have := hs.lt hc; omega)) (hs.alloc o)
    exact ⟨x, W', l', hr, hq, hs'⟩
  | shape r k ih =>
    rintro l W ⟨c, t, fz, h1, h2⟩ hs
    obtain ⟨x, W', l', hr, hq, hs'⟩ := ih _ l W h2 hs
    refine ⟨x, W', l', ?_, hq, hs'⟩
    have : W.shape? r = some (t, c.size) := by simp [World.shape?, hs.has _ h1]
    simp [Sem.run, this, hr]
  | frozen a k ih =>
    rintro l W ⟨c, t, fz, h1, h2, h3⟩ hs
    obtain ⟨ab, ao, asp⟩ := a
    simp only at h2 h3 h1
    subst h2
    obtain ⟨x, W', l', hr, hq, hs'⟩ := ih _ l W h3 hs
    exact ⟨x, W', l', by simp only [Sem.run, hs.frz h1]; exact hr, hq, hs'⟩
  | getObj r k ih =>
    rintro l W ⟨o, h1, h2, h3⟩ hs
    obtain ⟨x, W', l', hr, hq, hs'⟩ := ih _ l W h3 hs
    refine ⟨x, W', l', ?_, hq, hs'⟩
    have := hs.has _ h1
    simp only at this
    cases o <;> first | (simp [Obj.isCells] at h2; done) | simp [Sem.run, this, hr]
  | setObj r o' k ih =>
    rintro l W ⟨o, l1, h1, h2, h3⟩ hs
    obtain ⟨x, W', l', hr, hq, hs'⟩ := ih l1 _ h3 (hs.upd h1)
    refine ⟨x, W', l', ?_, hq, hs'⟩
    have := hs.has _ h1.mem
    simp only at this
    simp only [World.putObj] at hr
    cases o <;> first | (simp [Obj.isCells] at h2; done) | simp [Sem.run, this, hr]
  | choose q k ih =>
    intro l W h hs
    by_cases hf : q.forced = true
    · obtain ⟨x, W', l', hr, hq, hs'⟩ := ih _ l W (h 0) hs
      refine ⟨x, W', l', ?_, hq, hs'⟩
      rw [if_pos hf] at hr
      simp [Sem.run, hf, hr]
    · obtain ⟨x, W', l', hr, hq, hs'⟩ := ih _ l { W with drawn := W.drawn + 1 } (h (W.tape W.drawn q)) (hs.drawn _)
      refine ⟨x, W', l', ?_, hq, hs'⟩
      rw [if_neg hf] at hr
      simp only [Bool.not_eq_true] at hf
      simp [Sem.run, hf]
      exact hr
  | program k ih => exact fun l W h hs => ih _ l W h hs
  | mark m k ih => exact fun l W h hs => ih l W h hs
  | halt h => exact fun l W h hs => h.elim
  | freeze a n k ih => exact fun l W h hs => h.elim
  | sys c k ih => exact fun l W h hs => h.elim
abbrev Fr := List (Nat × Value)
def flook : Fr → Nat → Option Value
  | [], _ => none
  | (k, v) :: r, d => bif Nat.beq k d then some v else flook r d
structure FSat (N : Nat) (fr : Fr) (a : Act) : Prop where
  size : a.tmps.size = N
  at_ : ∀ d v, flook fr d = some v → a.tmps[d]? = some v
def ev (fr : Fr) : Operand → Option Value
  | .tmp t => flook fr t
  | .const v => some v
  | .global g => some (.pointer (some ⟨g, 0, none⟩))
  | .func f => some (.func (.func f) #[] #[])
def evs (fr : Fr) : List Operand → Option (List Value)
  | [] => some []
  | x :: r => match ev fr x, evs fr r with
    | some v, some vs => some (v :: vs)
    | _, _ => none
def Agrees (fr : Fr) (ρ : Operand → Value) : Prop := ∀ x v, ev fr x = some v → ρ x = v
theorem FSat.agrees {N : Nat} {fr : Fr} {a : Act} (h : FSat N fr a) : Agrees fr a.eval := by
  intro x v hx
  cases x with
  | tmp t => have := h.at_ t v hx; simp [Act.eval, Array.getD_eq_getD_getElem?, this]
  | const u => cases hx; rfl
  | global g => cases hx; rfl
  | func f => cases hx; rfl
theorem Agrees.list {fr : Fr} {ρ : Operand → Value} (h : Agrees fr ρ) : ∀ {xs : List Operand} {vs : List Value}, evs fr xs = some vs → xs.map ρ = vs
  | [], vs, e => by cases e; rfl
  | x :: r, vs, e => by
    unfold evs at e
    split at e
    · rename_i v us h1 h2
      cases e
      rw [List.map_cons, h x v h1, h.list h2]
    · cases e
def putF (d : Option Nat) (v : Value) (fr : Fr) : Fr := match d with | some d => (d, v) :: fr | none => fr
def okDst (N : Nat) : Option Nat → Bool
  | some d => Nat.blt d N
  | none => true
theorem FSat.put {N : Nat} {fr : Fr} {a : Act} (h : FSat N fr a) {d : Option Nat} (v : Value) (hd : okDst N d = true) : FSat N (putF d v fr) (a.put d v) := by
  cases d with
  | none => exact h
  | some d =>
    have hlt : d < N := by simpa [okDst, Nat.blt_eq] using hd
    refine ⟨by simp [Act.put, h.size], fun k u hk => ?_⟩
    simp only [putF, flook] at hk
    simp only [Act.put]
    by_cases e : d = k
    · subst e
      simp at hk
      subst hk
      simp [h.size, hlt]
    · have : Nat.beq d k = false := by
        cases hb : Nat.beq d k
        · rfl
        · exact absurd (Nat.eq_of_beq_eq_true hb) e
      rw [this] at hk
      rw [Array.getElem?_setIfInBounds_ne e]
      exact h.at_ k u hk
theorem FSat.sub {N : Nat} {fr fr' : Fr} {a : Act} (h : FSat N fr a) (hs : ∀ d v, flook fr' d = some v → flook fr d = some v) : FSat N fr' a := ⟨h.size, fun d v hd => h.at_ d v (hs d v hd)⟩
def FSub : Fr → Fr → Prop
  | [], _ => True
  | (d, v) :: r, fr => flook fr d = some v ∧ FSub r fr
theorem FSub.spec : ∀ {fr' fr : Fr}, FSub fr' fr → ∀ d v, flook fr' d = some v → flook fr d = some v
  | [], _, _, d, v, hd => by cases hd
  | (k, u) :: r, fr, h, d, v, hd => by
    unfold flook at hd
    cases hb : Nat.beq k d
    · rw [hb] at hd; exact h.2.spec d v hd
    · rw [hb] at hd
      have := Nat.eq_of_beq_eq_true hb
      subst this
      simp at hd
      subst hd
      exact h.1
def argF : Nat → List Value → Fr
  | _, [] => []
  | i, v :: r => (i, v) :: argF (i + 1) r
theorem flook_argF : ∀ (l : List Value) (i d : Nat) (v : Value), flook (argF i l) d = some v → i ≤ d ∧ l[d - i]? = some v
  | [], i, d, v, h => by cases h
  | u :: r, i, d, v, h => by
    unfold argF flook at h
    cases hb : Nat.beq i d
    · rw [hb] at h
      obtain ⟨h1, h2⟩ := flook_argF r (i + 1) d v h
      exact ⟨by omega, by rw [show d - i = (d - (i + 1)) + 1 by omega]; simpa using h2⟩
    · rw [hb] at h
      have := Nat.eq_of_beq_eq_true hb
      subst this
      simp at h
      subst h
      simp
theorem fsat_args (args : List Value) (N : Nat) (ds : List Deferred) (h : args.length ≤ N) : FSat N (argF 0 args) { tmps := args.toArray ++ Array.replicate (N - args.toArray.size) undef, defers := ds } := by
  refine ⟨by simp; omega, fun d v hd => ?_⟩
  obtain ⟨_, h2⟩ := flook_argF args 0 d v hd
  simp only [Nat.sub_zero] at h2
  have hlt := (List.getElem?_eq_some_iff.1 h2).1
  show (args.toArray ++ _)[d]? = some v
  rw [Array.getElem?_append_left (by simpa using hlt)]
  simpa using h2
def Fw (ro : Option Nat) : Fence := { Fence.wide with round := ro }
structure Fn (P : Program) (f : FuncId) (args : List Value) (l : List Chunk) (K : Value → List Chunk → Prop) : Prop where
  run : ∀ E W, Sat E l W → Calls P f args.toArray W fun e W' => ∃ v l', e = .returned v ∧ K v l' ∧ Sat E l' W'
theorem Fn.mono {P : Program} {f : FuncId} {args : List Value} {l : List Chunk} {K K' : Value → List Chunk → Prop} (h : Fn P f args l K) (hk : ∀ v l', K v l' → K' v l') : Fn P f args l K' :=
  ⟨fun E W hs => (h.run E W hs).mono fun e W' ⟨v, l', h1, h2, h3⟩ => ⟨v, l', h1, hk _ _ h2, h3⟩⟩
structure YieldS (P : Program) (r : Nat) (vs : List Value) (l : List Chunk) (K : Value → List Chunk → Prop) : Prop where
  run : ∀ E W, Sat E l W → ∃ fn tmps assign body, (Instr.yield r vs.toArray).run P W = .ok (.round r fn tmps assign body) W ∧
    RoundIn Fence.wide 0 P r fn tmps assign body W fun e W' => ∃ v l', e = .returned v ∧ K v l' ∧ Sat E l' W'
theorem roundIn_fw {ro : Option Nat} {n : Nat} {P : Program} {l : Nat} {f : FuncId} {tmps : Array Value} {assign body : Code} {w : World} {R : Ending → World → Prop} (h : RoundIn Fence.wide n P l f tmps assign body w R) : RoundIn (Fw ro) n P l f tmps assign body w R := h
theorem callsIn_fw {ro : Option Nat} {n : Nat} {P : Program} {f : FuncId} {args : Array Value} {w : World} {R : Ending → World → Prop} (h : Calls P f args w R) : CallsIn (Fw ro) n P f args w R := (callsIn_wide (n := n)).2 h
def notDefer : Op → Bool
  | .defer _ => false
  | _ => true
def OpVal (P : Program) (ro : Option Nat) (o : Oper) (ρ : Operand → Value) (W : World) (K : Value → World → Prop) : Prop :=
  match (execOp ρ o).run P W with
  | .ok (.value v) w' => K v w'
  | .ok .skip w' => K undef w'
  | .ok (.enter f args) w' => CallsIn (Fw ro) 0 P f args w' (fun e w'' => ∃ v, e = .returned v ∧ K v w'')
  | .ok (.round r f tm asg bo) w' => RoundIn (Fw ro) 0 P r f tm asg bo w' (fun e w'' => ∃ v, e = .returned v ∧ K v w'')
  | _ => False
theorem OpVal.mono {P : Program} {ro : Option Nat} {o : Oper} {ρ : Operand → Value} {W : World} {K K' : Value → World → Prop} (hk : ∀ v w, K v w → K' v w) (h : OpVal P ro o ρ W K) : OpVal P ro o ρ W K' := by
  unfold OpVal at *
  split at h
  · exact hk _ _ h
  · exact hk _ _ h
  · exact h.mono fun e w ⟨v, h1, h2⟩ => ⟨v, h1, hk _ _ h2⟩
  · exact h.mono fun e w ⟨v, h1, h2⟩ => ⟨v, h1, hk _ _ h2⟩
  · exact h.elim
theorem OpVal.wpIn {P : Program} {ro : Option Nat} {o : Oper} {a : Act} {W : World} {K : Value → World → Prop} {next : Act → World → Prop} {Q : Exit → Act → World → Prop} (hd : notDefer o.op = true) (h : OpVal P ro o a.eval W K) (hk : ∀ v w, K v w → next (a.put o.dst v) w) : o.wpIn (Fw ro) 0 P a W next Q := by
  unfold Oper.wpIn
  refine ⟨fun _ _ => trivial, ?_⟩
  rw [Oper.semAt_eq _ _ _ (fun c hc => by rw [hc] at hd; cases hd)]
  unfold OpVal at h
  split at h
  · rename_i heq; rw [heq]; exact hk _ _ h
  · rename_i heq; rw [heq]; exact hk _ _ h
  · rename_i heq; rw [heq]; exact ⟨fun h0 => (by cases h0), h.mono fun e w ⟨v, h1, h2⟩ => by subst h1; exact hk _ _ h2⟩
  · rename_i heq; rw [heq]; exact ⟨fun h0 => (by cases h0), h.mono fun e w ⟨v, h1, h2⟩ => by subst h1; exact hk _ _ h2⟩
  · exact h.elim
structure OpE (P : Program) (ro : Option Nat) (N : Nat) (fr : Fr) (l : List Chunk) (o : Oper) (K : Value → List Chunk → Prop) : Prop where
  nodef : notDefer o.op = true
  val : ∀ E a W, FSat N fr a → Sat E l W → OpVal P ro o a.eval W (fun v W' => ∃ l', K v l' ∧ Sat E l' W')
theorem OpE.run {P : Program} {ro : Option Nat} {N : Nat} {fr : Fr} {l : List Chunk} {o : Oper} {K : Value → List Chunk → Prop} {Q : Exit → Act → World → Prop} (h : OpE P ro N fr l o K) (E : World) (a : Act) (W : World) (hf : FSat N fr a) (hs : Sat E l W) :
    o.wpIn (Fw ro) 0 P a W (fun a' W' => ∃ v l', a' = a.put o.dst v ∧ K v l' ∧ Sat E l' W') Q :=
  OpVal.wpIn h.nodef (h.val E a W hf hs) fun v w ⟨l', h1, h2⟩ => ⟨v, l', rfl, h1, h2⟩
structure OpQ (P : Program) (ro : Option Nat) (N : Nat) (fr : Fr) (R : List Chunk) (o : Oper) (v : Value) : Prop where
  run : ∀ l, (∀ c, c ∈ R → c ∈ l) → OpE P ro N fr l o (fun v' l' => v' = v ∧ l' = l)
theorem OpE.mono {P : Program} {ro : Option Nat} {N : Nat} {fr : Fr} {l : List Chunk} {o : Oper} {K K' : Value → List Chunk → Prop} (h : OpE P ro N fr l o K) (hk : ∀ v l', K v l' → K' v l') : OpE P ro N fr l o K' :=
  ⟨h.nodef, fun E a W hf hs => (h.val E a W hf hs).mono fun v w ⟨l', h1, h2⟩ => ⟨l', hk _ _ h1, h2⟩⟩
def NextK (P : Program) (K : Value → List Chunk → Prop) : Next → List Chunk → Prop
  | .value v, l => K v l
  | .skip, l => K undef l
  | .enter f args, l => Fn P f args.toList l K
  | _, _ => False
theorem opE_of_sl {P : Program} {ro : Option Nat} {N : Nat} {fr : Fr} {l : List Chunk} {o : Oper} {K : Value → List Chunk → Prop} (hd : notDefer o.op = true)
    (h : ∀ ρ, Agrees fr ρ → sl P (execOp ρ o) l (NextK P K)) : OpE P ro N fr l o K := by
  refine ⟨hd, fun E a W hf hs => ?_⟩
  obtain ⟨x, W', l', hr, hq, hs'⟩ := sl_sound _ l W (h _ hf.agrees) hs
  unfold OpVal
  rw [hr]
  cases x <;> simp only [NextK] at hq
  case value v => exact ⟨l', hq, hs'⟩
  case skip => exact ⟨l', hq, hs'⟩
  case enter f args =>
    have := hq.run E W' hs'
    simp only [Array.toArray_toList] at this
    refine callsIn_fw (this.mono ?_)
    rintro e W'' ⟨v, l'', rfl, hk, hs''⟩
    exact ⟨v, rfl, l'', hk, hs''⟩
section
variable {P : Program} {ro : Option Nat} {N : Nat} {E : World} {ops : Array Oper} {Q : Exit → Act → World → Prop} {rest : List Oper} {o : Oper} {fr fr' : Fr} {ds : List Deferred} {l l' : List Chunk} {K : Value → List Chunk → Prop} {v : Value}
structure OpsS (P : Program) (ro : Option Nat) (N : Nat) (E : World) (ops : Array Oper) (Q : Exit → Act → World → Prop) (rest : List Oper) (fr : Fr) (ds : List Deferred) (l : List Chunk) : Prop where
  run : ∀ a W, FSat N fr a → a.defers = ds → Sat E l W → wpListIn (Fw ro) 0 P ops Q rest a W
structure CodeS (P : Program) (ro : Option Nat) (N : Nat) (E : World) (c : Code) (Q : Exit → Act → World → Prop) (fr : Fr) (ds : List Deferred) (l : List Chunk) : Prop where
  run : ∀ a W, FSat N fr a → a.defers = ds → Sat E l W → c.wpIn (Fw ro) 0 P Q a W
structure PostS (N : Nat) (E : World) (Q : Exit → Act → World → Prop) (e : Exit) (fr : Fr) (ds : List Deferred) (l : List Chunk) : Prop where
  run : ∀ a W, FSat N fr a → a.defers = ds → Sat E l W → Q e a W
theorem put_defers (a : Act) (d : Option Nat) (v : Value) : (a.put d v).defers = a.defers := by cases d <;> rfl
theorem s_nil (h : PostS N E Q .normal fr ds l) : OpsS P ro N E ops Q [] fr ds l := ⟨h.run⟩
theorem s_e (h : OpE P ro N fr l o K) (hw : o.guard = none) (hd : okDst N o.dst = true) (hk : ∀ v l', K v l' → OpsS P ro N E ops Q rest (putF o.dst v fr) ds l') : OpsS P ro N E ops Q (o :: rest) fr ds l := by
  refine ⟨fun a W hf hds hs => ?_⟩
  refine wpListIn_plain hw fun K' hK' => Oper.wpIn_mono ?_ (h.run E a W hf hs)
  rintro a' W' ⟨v, l', rfl, hkv, hs'⟩
  exact hK' _ _ ((hk v l' hkv).run _ _ (hf.put v hd) ((put_defers _ _ _).trans hds) hs')
theorem s_q (h : OpQ P ro N fr l o v) (hw : o.guard = none) (hd : okDst N o.dst = true) (hk : OpsS P ro N E ops Q rest (putF o.dst v fr) ds l) : OpsS P ro N E ops Q (o :: rest) fr ds l :=
  s_e (h.run l fun _ hc => hc) hw hd fun v' l' ⟨h1, h2⟩ => by rw [h1, h2]; exact hk
theorem yielded_of {fr : Fr} {a : Act} {j d : Nat} {oj : Oper} {b : Bool} (hf : FSat N fr a) (hj : ops[j]? = some oj) (hd : oj.dst = some d) (hb : flook fr d = some (.bool b)) : yielded ops a.tmps j = some b := by
  unfold yielded
  simp [hj, hd, hf.at_ _ _ hb]
theorem s_ge {j d : Nat} {oj : Oper} {b : Bool} (h : OpE P ro N fr l o K) (hw : o.guard = some (j, b)) (hj : ops[j]? = some oj) (hjd : oj.dst = some d) (hb : flook fr d = some (.bool b)) (hd : okDst N o.dst = true) (hk : ∀ v l', K v l' → OpsS P ro N E ops Q rest (putF o.dst v fr) ds l') : OpsS P ro N E ops Q (o :: rest) fr ds l := by
  refine ⟨fun a W hf hds hs => ?_⟩
  have hy := yielded_of hf hj hjd hb
  refine wpListIn_step fun K' hK' => ?_
  rw [if_pos (by simp [Region.wanted, hw, hy])]
  refine Oper.wpIn_mono ?_ (h.run E a W hf hs)
  rintro a' W' ⟨v, l', rfl, hkv, hs'⟩
  exact hK' _ _ ((hk v l' hkv).run _ _ (hf.put v hd) ((put_defers _ _ _).trans hds) hs')
theorem s_gq {j d : Nat} {oj : Oper} {b : Bool} (h : OpQ P ro N fr l o v) (hw : o.guard = some (j, b)) (hj : ops[j]? = some oj) (hjd : oj.dst = some d) (hb : flook fr d = some (.bool b)) (hd : okDst N o.dst = true) (hk : OpsS P ro N E ops Q rest (putF o.dst v fr) ds l) : OpsS P ro N E ops Q (o :: rest) fr ds l :=
  s_ge (h.run l fun _ hc => hc) hw hj hjd hb hd fun v' l' ⟨h1, h2⟩ => by rw [h1, h2]; exact hk
theorem s_gs {j d : Nat} {oj : Oper} {b b' : Bool} (hw : o.guard = some (j, b)) (hj : ops[j]? = some oj) (hjd : oj.dst = some d) (hb : flook fr d = some (.bool b')) (hne : (b' == b) = false) (hd : okDst N o.dst = true) (hk : OpsS P ro N E ops Q rest (putF o.dst undef fr) ds l) : OpsS P ro N E ops Q (o :: rest) fr ds l := by
  refine ⟨fun a W hf hds hs => ?_⟩
  have hy := yielded_of hf hj hjd hb
  refine wpListIn_step fun K' hK' => ?_
  rw [if_neg (by simp [Region.wanted, hw, hy]; intro e; rw [e] at hne; simp at hne)]
  exact ⟨fun _ _ => trivial, hK' _ _ (hk.run _ _ (hf.put undef hd) ((put_defers _ _ _).trans hds) hs)⟩
theorem flook_over {d : Nat} {v : Value} (hb : flook fr d = some v) : ∀ k u, flook ((d, v) :: fr) k = some u → flook fr k = some u := by
  intro k u h
  unfold flook at h
  cases e : Nat.beq d k
  · rw [e] at h; exact h
  · rw [e] at h
    have := Nat.eq_of_beq_eq_true e
    subst this
    rw [hb]; exact h
/-! code -/
theorem c_seq {x y : Code} (h : CodeS P ro N E x (Exit.then (y.wpIn (Fw ro) 0 P Q) Q) fr ds l) : CodeS P ro N E (.seq x y) Q fr ds l := ⟨fun a W hf hds hs => wpIn_seq (h.run a W hf hds hs)⟩
theorem c_skip (h : PostS N E Q .normal fr ds l) : CodeS P ro N E .skip Q fr ds l := ⟨fun a W hf hds hs => wpIn_skip (h.run a W hf hds hs)⟩
theorem c_label {k : Nat} (h : PostS N E Q .normal fr ds l) : CodeS P ro N E (.label k) Q fr ds l := ⟨fun a W hf hds hs => wpIn_label (h.run a W hf hds hs)⟩
theorem c_exit {k : Nat} (h : PostS N E Q (.exit k) fr ds l) : CodeS P ro N E (.exit k) Q fr ds l := ⟨fun a W hf hds hs => wpIn_exit (h.run a W hf hds hs)⟩
theorem c_ret (h : PostS N E Q .ret fr ds l) : CodeS P ro N E .ret Q fr ds l := ⟨fun a W hf hds hs => wpIn_ret (h.run a W hf hds hs)⟩
theorem c_block {k : Nat} {x : Code} (h : CodeS P ro N E x (Exit.inBlock k Q) fr ds l) : CodeS P ro N E (.block k x) Q fr ds l := ⟨fun a W hf hds hs => wpIn_block (h.run a W hf hds hs)⟩
theorem c_scope {x : Code} (h : CodeS P ro N E x (Exit.noGoto Q) fr ds l) : CodeS P ro N E (.scope x) Q fr ds l := ⟨fun a W hf hds hs => wpIn_scope (h.run a W hf hds hs)⟩
theorem c_region {k : Nat} {os : List Oper} (h : OpsS P ro N E os.toArray Q os fr ds l) : CodeS P ro N E (.region k os.toArray false) Q fr ds l := ⟨fun a W hf hds hs => wpIn_region_lit (h.run a W hf hds hs)⟩
theorem c_cond_t {c : Operand} {x y : Code} (hc : ev fr c = some (.bool true)) (h : CodeS P ro N E x Q fr ds l) : CodeS P ro N E (.cond c x y) Q fr ds l := ⟨fun a W hf hds hs => wpIn_cond_true (hf.agrees _ _ hc) (h.run a W hf hds hs)⟩
theorem c_cond_f {c : Operand} {x y : Code} (hc : ev fr c = some (.bool false)) (h : CodeS P ro N E y Q fr ds l) : CodeS P ro N E (.cond c x y) Q fr ds l := ⟨fun a W hf hds hs => wpIn_cond_false (hf.agrees _ _ hc) (h.run a W hf hds hs)⟩
theorem c_sub {c : Code} (hs' : FSub fr' fr) (h : CodeS P ro N E c Q fr' ds l) : CodeS P ro N E c Q fr ds l := ⟨fun a W hf hds hs => h.run a W (hf.sub hs'.spec) hds hs⟩
def LoopK (N : Nat) (E : World) {α : Type} (fx : α → Fr) (ds : List Deferred) (lx : α → List Chunk) (pre : α → Prop) (μ : α → Nat) (x : α) (a : Act) (W : World) : Prop :=
  ∃ y, pre y ∧ μ y < μ x ∧ FSat N (fx y) a ∧ a.defers = ds ∧ Sat E (lx y) W
theorem exists_least {p : Nat → Prop} (h : ∃ n, p n) : ∃ n, p n ∧ ∀ m, p m → n ≤ m := by
  obtain ⟨n, hn⟩ := h
  induction n using Nat.strongRecOn with
  | _ n ih =>
    by_cases hc : ∃ m, m < n ∧ p m
    · obtain ⟨m, hlt, hm⟩ := hc; exact ih m hlt hm
    · exact ⟨n, hn, fun m hm => Nat.le_of_not_lt fun hlt => hc ⟨m, hlt, hm⟩⟩
open Classical in
noncomputable def leastN (p : Nat → Prop) : Nat := if h : ∃ n, p n then Classical.choose (exists_least h) else 0
theorem leastN_spec {p : Nat → Prop} (h : ∃ n, p n) : p (leastN p) ∧ ∀ m, p m → leastN p ≤ m := by
  unfold leastN
  rw [dif_pos h]
  exact Classical.choose_spec (exists_least h)
theorem c_loop {α : Type} {c : Code} (fx : α → Fr) (lx : α → List Chunk) (pre : α → Prop) (μ : α → Nat) (x₀ : α) (h0 : pre x₀) (hf0 : FSub (fx x₀) fr) (hl0 : l.Perm (lx x₀))
    (round : ∀ x, pre x → CodeS P ro N E c (Exit.then (LoopK N E fx ds lx pre μ x) Q) (fx x) ds (lx x)) : CodeS P ro N E (.loop c) Q fr ds l := by
  refine ⟨fun a W hf hds hs => ?_⟩
  refine wpIn_loop (fun a W => ∃ x, pre x ∧ FSat N (fx x) a ∧ a.defers = ds ∧ Sat E (lx x) W) (fun a W => leastN fun n => ∃ x, pre x ∧ FSat N (fx x) a ∧ a.defers = ds ∧ Sat E (lx x) W ∧ μ x = n) ⟨x₀, h0, hf.sub hf0.spec, hds, hs.perm hl0⟩ ?_
  intro a W hI
  have hex : ∃ n, ∃ x, pre x ∧ FSat N (fx x) a ∧ a.defers = ds ∧ Sat E (lx x) W ∧ μ x = n := by
    obtain ⟨x, h1, h2, h3, h4⟩ := hI
    exact ⟨_, x, h1, h2, h3, h4, rfl⟩
  obtain ⟨⟨x, h1, h2, h3, h4, h5⟩, _⟩ := leastN_spec hex
  refine wpIn_mono ((round x h1).run a W h2 h3 h4) ?_
  intro e a' W' hq
  cases e with
  | normal =>
    obtain ⟨y, k1, k2, k3, k4, k5⟩ := hq
    refine ⟨⟨y, k1, k3, k4, k5⟩, ?_⟩
    exact Nat.lt_of_le_of_lt ((leastN_spec (p := fun n => ∃ x, pre x ∧ FSat N (fx x) a' ∧ a'.defers = ds ∧ Sat E (lx x) W' ∧ μ x = n) ⟨_, y, k1, k3, k4, k5, rfl⟩).2 (μ y) ⟨y, k1, k3, k4, k5, rfl⟩) (by rw [← h5]; exact k2)
  | _ => exact hq
/-! what stands behind -/
theorem p_then {y : Code} (h : CodeS P ro N E y Q fr ds l) : PostS N E (Exit.then (y.wpIn (Fw ro) 0 P Q) Q) .normal fr ds l := ⟨h.run⟩
theorem p_then_exit {Kx : Act → World → Prop} {k : Nat} (h : PostS N E Q (.exit k) fr ds l) : PostS N E (Exit.then Kx Q) (.exit k) fr ds l := ⟨h.run⟩
theorem p_then_ret {Kx : Act → World → Prop} (h : PostS N E Q .ret fr ds l) : PostS N E (Exit.then Kx Q) .ret fr ds l := ⟨h.run⟩
theorem p_block {k : Nat} (h : PostS N E Q .normal fr ds l) : PostS N E (Exit.inBlock k Q) .normal fr ds l := ⟨h.run⟩
theorem p_block_ret {k : Nat} (h : PostS N E Q .ret fr ds l) : PostS N E (Exit.inBlock k Q) .ret fr ds l := ⟨h.run⟩
theorem p_block_here {k : Nat} (h : PostS N E Q .normal fr ds l) : PostS N E (Exit.inBlock k Q) (.exit k) fr ds l := ⟨fun a W hf hds hs => by simp only [Exit.inBlock, if_true]; exact h.run a W hf hds hs⟩
theorem p_block_on {k j : Nat} (hne : Nat.beq j k = false) (h : PostS N E Q (.exit j) fr ds l) : PostS N E (Exit.inBlock k Q) (.exit j) fr ds l := ⟨fun a W hf hds hs => by
  have : ¬ j = k := fun e => by subst e; simp at hne
  simp only [Exit.inBlock, if_neg this]; exact h.run a W hf hds hs⟩
theorem p_scope (h : PostS N E Q .normal fr ds l) : PostS N E (Exit.noGoto Q) .normal fr ds l := ⟨h.run⟩
theorem p_scope_ret (h : PostS N E Q .ret fr ds l) : PostS N E (Exit.noGoto Q) .ret fr ds l := ⟨h.run⟩
theorem p_loop {α : Type} {fx : α → Fr} {lx : α → List Chunk} {pre : α → Prop} {μ : α → Nat} {x : α} (y : α) (h1 : pre y) (h2 : μ y < μ x) (h3 : FSub (fx y) fr) (h4 : l.Perm (lx y)) : PostS N E (Exit.then (LoopK N E fx ds lx pre μ x) Q) .normal fr ds l :=
  ⟨fun a W hf hds hs => ⟨y, h1, h2, hf.sub h3.spec, hds, hs.perm h4⟩⟩
end
/-! functions -/
def RK (E : World) (K : Value → List Chunk → Prop) : Ending → World → Prop := fun e W' => ∃ v l', e = .returned v ∧ K v l' ∧ Sat E l' W'
theorem fn_of_body {P : Program} {f : FuncId} {fn : Func} {c : Code} {args : List Value} {l : List Chunk} {K : Value → List Chunk → Prop} (hf : P.funcs[f]? = some fn) (hb : fn.body = some c) (hn : Nat.ble args.length fn.ntmps = true)
    (h : ∀ E, CodeS P none fn.ntmps E c (bodyPostM Fence.wide 0 P fn (RK E K)) (argF 0 args) [] l) : Fn P f args l K := by
  refine ⟨fun E W hs => ?_⟩
  refine (callsIn_wide (n := 0)).1 (callsIn_of_wp_marks hf hb trivial ?_ rfl)
  exact (h E).run _ W (fsat_args args _ [] (Nat.le_of_ble_eq_true hn)) rfl hs
inductive ResS (P : Program) (fr : Fr) (l : List Chunk) : List ResultVar → List Value → Prop
  | nil : ResS P fr l [] []
  | tmp {t : Nat} {v : Value} {rs : List ResultVar} {vs : List Value} : flook fr t = some v → ResS P fr l rs vs → ResS P fr l (.tmp t :: rs) (v :: vs)
  | cell {t : Nat} {T : TypeId} {v : Value} {b off : Nat} {rs : List ResultVar} {vs : List Value} : flook fr t = some (.pointer (some ⟨b, off, none⟩)) → (∀ E W, Sat E l W → (loadVar T ⟨b, off, none⟩).run P W = .ok v W) → ResS P fr l rs vs → ResS P fr l (.cell t T :: rs) (v :: vs)
def tup : List Value → Value
  | [v] => v
  | vs => .tuple vs.toArray
def resF (tmps : Array Value) : ResultVar → Sem Value
  | .tmp t => pure (tmps.getD t undef)
  | .cell b t => do loadVar t (← asAddr (tmps.getD b undef))
theorem resS_run {P : Program} {N : Nat} {fr : Fr} {l : List Chunk} {E W : World} {a : Act} (hf : FSat N fr a) (hs : Sat E l W) : ∀ {rs : List ResultVar} {vs : List Value}, ResS P fr l rs vs → (rs.mapM (resF a.tmps)).run P W = .ok vs W
  | [], _, .nil => by simp [Sem.run]
  | _, _, .tmp (t := t) (v := v) (rs := rs) (vs := vs) h1 h2 => by
    have e : a.tmps.getD t undef = v := by rw [Array.getD_eq_getD_getElem?, hf.at_ _ _ h1]; rfl
    have e1 : (resF a.tmps (.tmp t)).run P W = .ok v W := by show (pure _ : Sem Value).run P W = _; rw [e]; rfl
    rw [List.mapM_cons, Sem.run_bind, e1]
    simp only [Result.andThen]
    rw [Sem.run_bind, resS_run hf hs h2]
    rfl
  | _, _, .cell (t := t) (v := v) (T := T) (b := b) (off := off) h1 h3 h2 => by
    have e : a.tmps.getD t undef = .pointer (some ⟨b, off, none⟩) := by rw [Array.getD_eq_getD_getElem?, hf.at_ _ _ h1]; rfl
    have e1 : (resF a.tmps (.cell t T)).run P W = .ok v W := by
      show (asAddr (a.tmps.getD t undef) >>= loadVar T).run P W = _
      rw [e, Sem.run_bind]
      exact h3 E W hs
    rw [List.mapM_cons, Sem.run_bind, e1]
    simp only [Result.andThen]
    rw [Sem.run_bind, resS_run hf hs h2]
    rfl
theorem results_run {P : Program} {N : Nat} {fn : Func} {fr : Fr} {l : List Chunk} {E W : World} {a : Act} {rs : List ResultVar} {vs : List Value} (hr : fn.results = rs.toArray) (hf : FSat N fr a) (hs : Sat E l W) (h : ResS P fr l rs vs) :
    (results fn a.tmps).run P W = .ok (tup vs) W := by
  have e : results fn a.tmps = (do let us ← fn.results.mapM (resF a.tmps); pure (if h : us.size = 1 then us[0] else .tuple us)) := rfl
  rw [e, hr, List.mapM_toArray, Sem.run_bind, map_eq_pure_bind, Sem.run_bind, resS_run hf hs h]
  simp only [Result.andThen, Sem.run_pure]
  congr 1
  match vs with
  | [] => rfl
  | [v] => rfl
  | _ :: _ :: _ => rfl
def markC (D : Nat) : Chunk := (D, .deferred (some []))
def markD (D : Nat) : Deferred := { target := .collected D, args := #[] }
theorem leaves_sl {P : Program} {fn : Func} {R : Ending → World → Prop} {tmps : Array Value} {E : World} {l : List Chunk} {v : Value} : ∀ (Ds : List Nat) (W : World), Sat E (Ds.map markC ++ l) W →
    (∀ W', Sat E l W' → (results fn tmps).run P W' = .ok v W' ∧ R (.returned v) W') → LeavesInM Fence.wide 0 P fn tmps R (Ds.map markD) .returning W
  | [], W, hs, hr => ⟨v, hr W hs⟩
  | D :: Ds, W, hs, hr => by
    have hK : W.heap[D]? = some (.deferred (some [])) := hs.has (D, _) List.mem_cons_self
    have hs1 : Sat E ((D, .deferred none) :: (Ds.map markC ++ l)) (W.putObj D (.deferred none)) := hs.upd Upd.here
    exact ⟨by simp, .inl ⟨D, _, rfl, run_takeDeferred hK, leaves_sl Ds _ hs1.tail hr⟩⟩
theorem p_ret {P : Program} {N : Nat} {E : World} {fn : Func} {K : Value → List Chunk → Prop} {fr : Fr} {l l' : List Chunk} {rs : List ResultVar} {vs : List Value} (Ds : List Nat) (hr : fn.results = rs.toArray) (hp : l.Perm (Ds.map markC ++ l')) (h : ResS P fr l' rs vs) (hk : K (tup vs) l') :
    PostS N E (bodyPostM Fence.wide 0 P fn (RK E K)) .ret fr (Ds.map markD) l := by
  refine ⟨fun a W hf hds hs => ?_⟩
  show LeavesInM Fence.wide 0 P fn a.tmps (RK E K) a.defers .returning W
  rw [hds]
  exact leaves_sl (v := tup vs) Ds W (hs.perm hp) fun W' hs' => ⟨results_run hr hf hs' h, _, l', rfl, hk, hs'⟩
theorem p_end {P : Program} {N : Nat} {E : World} {fn : Func} {R : Ending → World → Prop} {fr : Fr} {l : List Chunk} {ds : List Deferred} (h : PostS N E (bodyPostM Fence.wide 0 P fn R) .ret fr ds l) : PostS N E (bodyPostM Fence.wide 0 P fn R) .normal fr ds l := ⟨h.run⟩
/-! what is asked of the program's types -/
def foV (P : Program) (s f : Nat) : Option Nat := match P.underlying s with
  | some (.struct fs) => match fs[f]? with
    | some fd => match P.info? fd.type with
      | some i => if i.size = 0 then none else some fd.offset
      | none => none
    | none => none
  | _ => none
def fvV (P : Program) (s f : Nat) : Option (Nat × Nat) := match P.underlying s with
  | some (.struct fs) => (fs[f]?).map fun fd => (fd.offset, fd.type)
  | _ => none
def atV (P : Program) (t : Nat) : Option (Nat × Nat × Nat) := match P.underlying t with
  | some (.array n e) => (P.info? e).map fun i => (n, e, i.size)
  | _ => none
def stV (P : Program) (t : Nat) : Option (Nat × Nat × Nat) := match P.underlying t with
  | some (.slice e) => (P.info? e).map fun i => (e, i.size, i.bytes)
  | _ => none
def zvV (P : Program) (t : Nat) : Option (List Value) := match P.info? t with
  | some i => match i.zero with
    | some z => some z.cells.toList
    | none => none
  | none => none
def ocV (P : Program) (t : Nat) : Bool := match P.underlying t with
  | some (.struct _) => false
  | some (.array ..) => false
  | some _ => (P.info? t).any fun i => i.size == 1
  | none => false
def agV (P : Program) (t : Nat) : Option Nat := match P.underlying t with
  | some (.struct _) => (P.info? t).map (·.size)
  | some (.array ..) => (P.info? t).map (·.size)
  | _ => none
def itV (P : Program) (t : Nat) : Option IntKind := match P.underlying t with
  | some (.int k) => some k
  | _ => none
def ptV (P : Program) (t : Nat) : Option Nat := match P.underlying t with
  | some (.pointer e) => some e
  | _ => none
def mtV (P : Program) (t : Nat) : Option (Nat × Nat) := match P.underlying t with
  | some (.map k e) => some (k, e)
  | _ => none
class FO (P : Program) (s f : Nat) (k : outParam Nat) : Prop where out : foV P s f = some k
class FV (P : Program) (s f : Nat) (k t : outParam Nat) : Prop where out : fvV P s f = some (k, t)
class AT (P : Program) (t : Nat) (n e z : outParam Nat) : Prop where out : atV P t = some (n, e, z)
class ST (P : Program) (t : Nat) (e z y : outParam Nat) : Prop where out : stV P t = some (e, z, y)
class ZV (P : Program) (t : Nat) (z : outParam (List Value)) : Prop where out : zvV P t = some z
class OC (P : Program) (t : Nat) : Prop where out : ocV P t = true
class AG (P : Program) (t : Nat) (z : outParam Nat) : Prop where out : agV P t = some z
class IT (P : Program) (t : Nat) (k : outParam IntKind) : Prop where out : itV P t = some k
class PT (P : Program) (t : Nat) (e : outParam Nat) : Prop where out : ptV P t = some e
class MT (P : Program) (t : Nat) (k e : outParam Nat) : Prop where out : mtV P t = some (k, e)
class EN (P : Program) (f : Nat) : Prop where out : ∀ args w, (callFunc f args).run P w = .ok (.enter f args) w
section
variable {P : Program} {α : Type} {Q : α → List Chunk → Prop} {l : List Chunk}
theorem sl_under {t : Nat} {d : TypeDesc} {f : TypeDesc → Sem α} (h : P.underlying t = some d) : sl P (underlying t >>= f) l Q ↔ sl P (f d) l Q := by
  rw [sl_bind]
  show sl P (match P.underlying t with | some d => pure d | none => stuck "no such type") l _ ↔ _
  rw [h]; rfl
theorem sl_under' {Q : TypeDesc → List Chunk → Prop} {t : Nat} {d : TypeDesc} (h : P.underlying t = some d) : sl P (underlying t) l Q ↔ Q d l := by
  show sl P (match P.underlying t with | some d => pure d | none => stuck "no such type") l _ ↔ _
  rw [h]; rfl
theorem sl_info {t : Nat} {i : TypeInfo} {f : TypeInfo → Sem α} (h : P.info? t = some i) : sl P (typeInfo t >>= f) l Q ↔ sl P (f i) l Q := by
  rw [sl_bind]
  show sl P (match P.info? t with | some i => pure i | none => stuck "no such type") l _ ↔ _
  rw [h]; rfl
theorem sl_sizeOf {t : Nat} {i : TypeInfo} {f : Nat → Sem α} (h : P.info? t = some i) : sl P (sizeOf t >>= f) l Q ↔ sl P (f i.size) l Q := by
  rw [sl_bind]
  show sl P (typeInfo t >>= fun i => pure i.size) l _ ↔ _
  rw [sl_info h]; rfl
theorem sl_sizeOf' {Q : Nat → List Chunk → Prop} {t : Nat} {i : TypeInfo} (h : P.info? t = some i) : sl P (sizeOf t) l Q ↔ Q i.size l := by
  show sl P (typeInfo t >>= fun i => pure i.size) l _ ↔ _
  rw [sl_info h]; rfl
theorem sl_program {f : Program → Sem α} : sl P (program >>= f) l Q ↔ sl P (f P) l Q := Iff.rfl
def isAggD : TypeDesc → Bool
  | .struct _ => true
  | .array _ _ => true
  | _ => false
theorem sl_isAgg {t : Nat} {d : TypeDesc} {f : Bool → Sem α} (h : P.underlying t = some d) : sl P (isAgg t >>= f) l Q ↔ sl P (f (isAggD d)) l Q := by
  rw [sl_bind]
  show sl P (underlying t >>= fun d => match d with | .struct _ | .array _ _ => pure true | _ => pure false) l _ ↔ _
  rw [sl_under h]
  cases d <;> rfl
end
theorem addr_add (b off n : Nat) : (⟨b, off, none⟩ : Addr).add n = ⟨b, off + n, none⟩ := by
  unfold Addr.add
  split
  · rename_i h; subst h; rfl
  · rfl
section
variable {P : Program} {ro : Option Nat} {N : Nat} {fr : Fr} {R l : List Chunk} {K : Value → List Chunk → Prop} {d : Option Nat} {ty : TypeId} {pos : String} {aft : Array Edge} {g : Option (Nat × Bool)} {x y z : Operand} {v u w : Value} {b off : Nat}
theorem opQ_of_sl {o : Oper} (hd : notDefer o.op = true) (h : ∀ ρ l, Agrees fr ρ → (∀ c, c ∈ R → c ∈ l) → sl P (execOp ρ o) l (fun nx l' => nx = .value v ∧ l' = l)) : OpQ P ro N fr R o v :=
  ⟨fun l hl => opE_of_sl hd fun ρ hρ => sl_mono (fun nx l' ⟨h1, h2⟩ => by rw [h1]; exact ⟨rfl, h2⟩) _ _ (h ρ l hρ hl)⟩
theorem q_move (hx : ev fr x = some v) : OpQ P ro N fr R ⟨d, .move x, ty, pos, aft, g⟩ v := opQ_of_sl rfl fun ρ l hρ _ => ⟨by rw [hρ x v hx], rfl⟩
theorem q_assign (hx : ev fr x = some v) : OpQ P ro N fr R ⟨d, .assign x, ty, pos, aft, g⟩ v := opQ_of_sl rfl fun ρ l hρ _ => ⟨by rw [hρ x v hx], rfl⟩
theorem q_pick_t (hx : ev fr x = some (.bool true)) (hy : ev fr y = some v) : OpQ P ro N fr R ⟨d, .pick x y z, ty, pos, aft, g⟩ v := opQ_of_sl rfl fun ρ l hρ _ => by
  simp only [execOp, hρ x _ hx, asBool]
  exact ⟨by simp [hρ y _ hy], rfl⟩
theorem q_pick_f (hx : ev fr x = some (.bool false)) (hz : ev fr z = some v) : OpQ P ro N fr R ⟨d, .pick x y z, ty, pos, aft, g⟩ v := opQ_of_sl rfl fun ρ l hρ _ => by
  simp only [execOp, hρ x _ hx, asBool]
  exact ⟨by simp [hρ z _ hz], rfl⟩
theorem q_nilCheck {a : Addr} (hx : ev fr x = some (.pointer (some a))) : OpQ P ro N fr R ⟨d, .nilCheck x, ty, pos, aft, g⟩ (.pointer (some a)) := opQ_of_sl rfl fun ρ l hρ _ => by
  simp only [execOp, hρ x _ hx]
  exact ⟨rfl, rfl⟩
theorem foV_spec {s f k : Nat} (h : foV P s f = some k) : ∃ fs fd i, P.underlying s = some (.struct fs) ∧ fs[f]? = some fd ∧ P.info? fd.type = some i ∧ i.size ≠ 0 ∧ fd.offset = k := by
  unfold foV at h
  split at h
  · rename_i fs hu
    split at h
    · rename_i fd hf
      split at h
      · rename_i i hi
        split at h
        · cases h
        · rename_i hz
          cases h
          exact ⟨fs, fd, i, hu, hf, hi, hz, rfl⟩
      · cases h
    · cases h
  · cases h
theorem q_fieldAddr {s f k off' : Nat} (hx : ev fr x = some (.pointer (some ⟨b, off, none⟩))) [c : FO P s f k] (ho : off + k = off') : OpQ P ro N fr R ⟨d, .fieldAddr s x f, ty, pos, aft, g⟩ (.pointer (some ⟨b, off', none⟩)) := opQ_of_sl rfl fun ρ l hρ _ => by
  subst ho
  obtain ⟨fs, fd, i, h1, h2, h3, h4, h5⟩ := foV_spec c.out
  simp only [execOp, hρ x _ hx, Instr.fieldAt, sl_bind]
  rw [← sl_bind, sl_under h1]
  simp only [h2, sl_bind, sl_pure, Instr.sureAddr, fieldPlace]
  rw [← sl_bind, sl_sizeOf h3]
  simp only [h4, if_false, sl_pure, addr_add, h5]
  exact ⟨trivial, trivial⟩
theorem atV_spec {t n e k : Nat} (h : atV P t = some (n, e, k)) : ∃ i, P.underlying t = some (.array n e) ∧ P.info? e = some i ∧ i.size = k := by
  unfold atV at h
  split at h
  · rename_i hu
    obtain ⟨i, hi, h2⟩ := Option.map_eq_some_iff.1 h
    cases h2
    exact ⟨i, hu, hi, rfl⟩
  · cases h
theorem stV_spec {t e k y : Nat} (h : stV P t = some (e, k, y)) : ∃ i, P.underlying t = some (.slice e) ∧ P.info? e = some i ∧ i.size = k ∧ i.bytes = y := by
  unfold stV at h
  split at h
  · rename_i hu
    obtain ⟨i, hi, h2⟩ := Option.map_eq_some_iff.1 h
    cases h2
    exact ⟨i, hu, hi, rfl, rfl⟩
  · cases h
theorem q_indexArr {t n e k : Nat} {ki : IntKind} {i : Int} (hx : ev fr x = some (.pointer (some ⟨b, off, none⟩))) (hy : ev fr y = some (.int ki i)) [c : AT P t n e k] (hi : 0 ≤ i ∧ i < (n : Int)) :
    OpQ P ro N fr R ⟨d, .indexAddr t x y, ty, pos, aft, g⟩ (.pointer (some ⟨b, off + i.toNat * k, none⟩)) := opQ_of_sl rfl fun ρ l hρ _ => by
  obtain ⟨inf, h1, h2, h3⟩ := atV_spec c.out
  simp only [execOp, hρ x _ hx, hρ y _ hy, Instr.indexAt, sl_bind, asIntOf, sl_pure]
  rw [← sl_bind, sl_under h1]
  simp only [sl_bind, sl_pure, Instr.sureAddr]
  rw [← sl_bind, sl_under h1]
  simp only [if_pos hi, sl_bind, sl_pure]
  rw [sl_sizeOf' h2]
  simp only [addr_add, h3]
  exact ⟨trivial, trivial⟩
theorem q_indexArrN {t n e k m off' : Nat} {ki : IntKind} (hx : ev fr x = some (.pointer (some ⟨b, off, none⟩))) (hy : ev fr y = some (.int ki (m : Nat))) [c : AT P t n e k] (hi : m < n) (ho : off + m * k = off') :
    OpQ P ro N fr R ⟨d, .indexAddr t x y, ty, pos, aft, g⟩ (.pointer (some ⟨b, off', none⟩)) := by
  subst ho
  have := q_indexArr (P := P) (ro := ro) (N := N) (R := R) (d := d) (ty := ty) (pos := pos) (aft := aft) (g := g) (c := c) hx hy ⟨by omega, by omega⟩
  simpa using this
theorem q_indexSl {t e k yb : Nat} {ki : IntKind} {i : Int} {n cap : Nat} (hx : ev fr x = some (.slice (some ⟨b, off, none⟩) n cap)) (hy : ev fr y = some (.int ki i)) [c : ST P t e k yb] (hi : 0 ≤ i ∧ i < (n : Int)) :
    OpQ P ro N fr R ⟨d, .indexAddr t x y, ty, pos, aft, g⟩ (.pointer (some ⟨b, off + i.toNat * k, none⟩)) := opQ_of_sl rfl fun ρ l hρ _ => by
  obtain ⟨inf, h1, h2, h3, _⟩ := stV_spec c.out
  simp only [execOp, hρ x _ hx, hρ y _ hy, Instr.indexAt, sl_bind, asIntOf, sl_pure]
  rw [← sl_bind, sl_under h1]
  simp only [sl_bind, sl_pure]
  rw [← sl_bind, sl_under h1]
  simp only [if_pos hi, sl_bind, sl_pure]
  rw [sl_sizeOf' h2]
  simp only [addr_add, h3]
  exact ⟨trivial, trivial⟩
theorem q_indexSlN {t e k yb m off' : Nat} {ki : IntKind} {n cap : Nat} (hx : ev fr x = some (.slice (some ⟨b, off, none⟩) n cap)) (hy : ev fr y = some (.int ki (m : Nat))) [c : ST P t e k yb] (hi : m < n) (ho : off + m * k = off') :
    OpQ P ro N fr R ⟨d, .indexAddr t x y, ty, pos, aft, g⟩ (.pointer (some ⟨b, off', none⟩)) := by
  subst ho
  have := q_indexSl (P := P) (ro := ro) (N := N) (R := R) (d := d) (ty := ty) (pos := pos) (aft := aft) (g := g) (c := c) hx hy ⟨by omega, by omega⟩
  simpa using this
def lget : List Value → Nat → Option Value
  | [], _ => none
  | x :: _, 0 => some x
  | _ :: r, n + 1 => lget r n
theorem lget_eq (l : List Value) : ∀ i, lget l i = l[i]? := by
  induction l with
  | nil => intro i; cases i <;> rfl
  | cons x r ih => intro i; cases i with
    | zero => rfl
    | succ n => simp only [lget, List.getElem?_cons_succ]; exact ih n
theorem cell_lit {l : List Value} {i : Nat} {v : Value} (h : lget l i = some v) : (List.toArray l)[i]? = some v := by rw [List.getElem?_toArray, ← lget_eq]; exact h
inductive LGet : List Value → Nat → Value → Prop
  | zero {x : Value} {r : List Value} : LGet (x :: r) 0 x
  | succ {x v : Value} {r : List Value} {n : Nat} : LGet r n v → LGet (x :: r) (n + 1) v
theorem LGet.spec {l : List Value} {i : Nat} {v : Value} (h : LGet l i v) : lget l i = some v := by
  induction h with
  | zero => rfl
  | succ _ ih => exact ih
theorem cell_get {l : List Value} {i : Nat} {v : Value} (h : LGet l i v) : (List.toArray l)[i]? = some v := cell_lit h.spec
inductive LSet : List Value → Nat → Value → List Value → Prop
  | zero {x v : Value} {r : List Value} : LSet (x :: r) 0 v (v :: r)
  | succ {x v : Value} {r r' : List Value} {n : Nat} : LSet r n v r' → LSet (x :: r) (n + 1) v (x :: r')
theorem LSet.spec {l l' : List Value} {i : Nat} {v : Value} (h : LSet l i v l') : l.set i v = l' ∧ i < l.length := by
  induction h with
  | zero => simp
  | succ _ ih => simp [ih.1, ih.2]
inductive LSub : List Value → Nat → Nat → List Value → Prop
  | done {l : List Value} : LSub l 0 0 []
  | take {x : Value} {l r : List Value} {n : Nat} : LSub l 0 n r → LSub (x :: l) 0 (n + 1) (x :: r)
  | drop {x : Value} {l r : List Value} {k n : Nat} : LSub l k n r → LSub (x :: l) (k + 1) n r
theorem LSub.spec {l r : List Value} {k n : Nat} (h : LSub l k n r) : (l.drop k).take n = r ∧ k + n ≤ l.length := by
  induction h with
  | done => simp
  | take _ ih => simp only [List.drop_zero] at ih ⊢; simp [ih.1]; omega
  | drop _ ih => simp only [List.drop_succ_cons, List.length_cons]; exact ⟨ih.1, by omega⟩
inductive LSetA : List Value → Nat → List Value → List Value → Prop
  | done {l : List Value} : LSetA l 0 [] l
  | put {x v : Value} {l r vs : List Value} : LSetA l 0 vs r → LSetA (x :: l) 0 (v :: vs) (v :: r)
  | skip {x : Value} {l r vs : List Value} {k : Nat} : LSetA l k vs r → LSetA (x :: l) (k + 1) vs (x :: r)
theorem ocV_spec {t : Nat} (h : ocV P t = true) : ∃ u i, P.underlying t = some u ∧ isAggD u = false ∧ P.info? t = some i ∧ i.size = 1 := by
  unfold ocV at h
  split at h
  · cases h
  · cases h
  · rename_i u hn1 hn2 hu
    cases hi : P.info? t with
    | none => rw [hi] at h; cases h
    | some i =>
      rw [hi] at h
      refine ⟨u, i, hu, ?_, rfl, by simpa using h⟩
      cases u <;> first | rfl | exact (hn1 _ rfl).elim | exact (hn2 _ _ rfl).elim
  · cases h
theorem sl_loadVar1 {α : Type} {Q : α → List Chunk → Prop} {f : Value → Sem α} {t : Nat} {cs : Array Value} {T : TypeId} {fz : Nat × Nat} (hc : ocV P t = true) (hm : (b, Obj.cells cs T fz) ∈ l) (hv : cs[off]? = some v) (h : sl P (f v) l Q) : sl P (loadVar t ⟨b, off, none⟩ >>= f) l Q := by
  obtain ⟨u, i, h1, h2, _, _⟩ := ocV_spec hc
  rw [sl_bind]
  unfold loadVar
  rw [sl_isAgg h1, h2]
  exact ⟨cs, T, fz, v, hm, rfl, hv, h⟩
theorem q_load {t : Nat} {cs : Array Value} {T : TypeId} {fz : Nat × Nat} (hx : ev fr x = some (.pointer (some ⟨b, off, none⟩))) [c : OC P t] (hm : (b, Obj.cells cs T fz) ∈ R) (hv : cs[off]? = some v) : OpQ P ro N fr R ⟨d, .load t x, ty, pos, aft, g⟩ v := opQ_of_sl rfl fun ρ l hρ hR => by
  simp only [execOp, hρ x _ hx, Instr.loadAt, sl_bind, Instr.sureAddr, sl_pure]
  have := sl_loadVar1 (P := P) (f := fun v => (pure v : Sem Value)) (Q := fun a l' => Next.value a = .value v ∧ l' = l) c.out (hR _ hm) hv ⟨rfl, rfl⟩
  rw [sl_bind] at this
  exact this
theorem sl_loadCells {α : Type} {Q : α → List Chunk → Prop} {f : Array Value → Sem α} {cs : Array Value} {T : TypeId} {fz : Nat × Nat} (hm : (b, Obj.cells cs T fz) ∈ l) : ∀ (n i : Nat) (acc : Array Value), off + i + n ≤ cs.size → sl P (f (acc ++ cs.extract (off + i) (off + i + n))) l Q → sl P (loadCellsFrom ⟨b, off, none⟩ i n acc >>= f) l Q
  | 0, i, acc, _, h => by
    have e : cs.extract (off + i) (off + i + 0) = #[] := by simp; omega
    rw [e, Array.append_empty] at h
    exact h
  | n + 1, i, acc, hle, h => by
    unfold loadCellsFrom
    rw [sl_bind, sl_bind]
    show sl P (load ((⟨b, off, none⟩ : Addr).add i)) l _
    rw [addr_add]
    have hlt : off + i < cs.size := by omega
    refine ⟨cs, T, fz, cs[off + i], hm, rfl, Array.getElem?_eq_getElem hlt, ?_⟩
    show sl P (loadCellsFrom ⟨b, off, none⟩ (i + 1) n (acc.push cs[off + i])) l _
    rw [← sl_bind]
    refine sl_loadCells hm n (i + 1) _ (by omega) ?_
    have e : acc.push cs[off + i] ++ cs.extract (off + (i + 1)) (off + (i + 1) + n) = acc ++ cs.extract (off + i) (off + i + (n + 1)) := by
      apply Array.toList_inj.1
      simp only [Array.toList_append, Array.toList_push, Array.toList_extract, List.extract_eq_take_drop, List.append_assoc, List.singleton_append]
      congr 1
      rw [show off + i + (n + 1) - (off + i) = n + 1 by omega, show off + (i + 1) + n - (off + (i + 1)) = n by omega]
      rw [List.drop_eq_getElem_cons (i := off + i) (by simpa using hlt), List.take_succ_cons]
      simp [Nat.add_assoc]
    rw [e]; exact h
theorem agV_spec {t n : Nat} (h : agV P t = some n) : ∃ u i, P.underlying t = some u ∧ isAggD u = true ∧ P.info? t = some i ∧ i.size = n := by
  unfold agV at h
  split at h
  · rename_i hu
    obtain ⟨i, hi, h2⟩ := Option.map_eq_some_iff.1 h
    exact ⟨_, i, hu, rfl, hi, h2⟩
  · rename_i hu
    obtain ⟨i, hi, h2⟩ := Option.map_eq_some_iff.1 h
    exact ⟨_, i, hu, rfl, hi, h2⟩
  · cases h
theorem sl_loadVarA {α : Type} {Q : α → List Chunk → Prop} {f : Value → Sem α} {t n : Nat} {cs : Array Value} {T : TypeId} {fz : Nat × Nat} (hc : agV P t = some n) (hm : (b, Obj.cells cs T fz) ∈ l) (hle : off + n ≤ cs.size) (h : sl P (f (.agg (cs.extract off (off + n)))) l Q) : sl P (loadVar t ⟨b, off, none⟩ >>= f) l Q := by
  obtain ⟨u, i, h1, h2, h3, h4⟩ := agV_spec hc
  rw [sl_bind]
  unfold loadVar
  rw [sl_isAgg h1, h2]
  simp only [if_true]
  rw [sl_sizeOf h3, h4]
  refine sl_loadCells hm n 0 #[] (by omega) ?_
  simp only [Nat.add_zero, Array.empty_append]
  exact h
theorem q_loadA {t n : Nat} {cs : Array Value} {T : TypeId} {fz : Nat × Nat} (hx : ev fr x = some (.pointer (some ⟨b, off, none⟩))) [c : AG P t n] (hm : (b, Obj.cells cs T fz) ∈ R) {wc : Array Value} (hle : off + n ≤ cs.size) (hv : cs.extract off (off + n) = wc) : OpQ P ro N fr R ⟨d, .load t x, ty, pos, aft, g⟩ (.agg wc) := opQ_of_sl rfl fun ρ l hρ hR => by
  subst hv
  simp only [execOp, hρ x _ hx, Instr.loadAt, sl_bind, Instr.sureAddr, sl_pure]
  have := sl_loadVarA (P := P) (f := fun v => (pure v : Sem Value)) (Q := fun a l' => Next.value a = .value (.agg (cs.extract off (off + n))) ∧ l' = l) c.out (hR _ hm) hle ⟨rfl, rfl⟩
  rw [sl_bind] at this
  exact this
theorem q_loadL {t n : Nat} {cs : List Value} {T : TypeId} {fz : Nat × Nat} (hx : ev fr x = some (.pointer (some ⟨b, off, none⟩))) [c : AG P t n] (hm : (b, Obj.cells (List.toArray cs) T fz) ∈ R) {wc : List Value} (hv : LSub cs off n wc) : OpQ P ro N fr R ⟨d, .load t x, ty, pos, aft, g⟩ (.agg (List.toArray wc)) :=
  q_loadA hx hm (by simpa using hv.spec.2) (by
    apply Array.toList_inj.1
    rw [Array.toList_extract, List.extract_eq_take_drop]
    simpa using hv.spec.1)
end
section
variable {P : Program} {ro : Option Nat} {N : Nat} {fr : Fr} {R l : List Chunk} {K : Value → List Chunk → Prop} {d : Option Nat} {ty : TypeId} {pos : String} {aft : Array Edge} {g : Option (Nat × Bool)} {x y z : Operand} {v u w : Value} {b off : Nat} {t t2 : TypeId}
/-! numbers -/
def kmin (k : IntKind) : Int := if k.signed then -(2 ^ (k.bits - 1) : Int) else 0
def kmax (k : IntKind) : Int := if k.signed then (2 ^ (k.bits - 1) : Int) - 1 else (2 ^ k.bits : Int) - 1
theorem wrap_in (k : IntKind) (n : Int) (h1 : kmin k ≤ n) (h2 : n ≤ kmax k) : k.wrap n = n := by
  unfold IntKind.wrap kmin kmax at *
  cases k <;> simp [IntKind.signed, IntKind.bits] at * <;> (try split) <;> omega
theorem i64_in (n : Int) (h : -9223372036854775808 ≤ n ∧ n ≤ 9223372036854775807) : IntKind.i64.wrap n = n := wrap_in _ _ (by simpa [kmin, IntKind.signed, IntKind.bits] using h.1) (by simpa [kmax, IntKind.signed, IntKind.bits] using h.2)
def Rng (k : IntKind) (n : Int) : Prop := match k with
  | .i64 => -9223372036854775808 ≤ n ∧ n ≤ 9223372036854775807
  | .u64 => 0 ≤ n ∧ n ≤ 18446744073709551615
  | .u8 => 0 ≤ n ∧ n ≤ 255
  | .i32 => -2147483648 ≤ n ∧ n ≤ 2147483647
  | .u32 => 0 ≤ n ∧ n ≤ 4294967295
  | _ => False
theorem rng_wrap {k : IntKind} {n : Int} (h : Rng k n) : k.wrap n = n := by
  cases k <;> simp only [Rng] at h <;> first | exact h.elim | exact wrap_in _ _ (by simpa [kmin, IntKind.signed, IntKind.bits] using h.1) (by simpa [kmax, IntKind.signed, IntKind.bits] using h.2)
theorem rng_i64 {n : Int} (h1 : -9223372036854775808 ≤ n) (h2 : n ≤ 9223372036854775807) : Rng .i64 n := ⟨h1, h2⟩
theorem eqGuard_int (op : BinOp) (k k' : IntKind) (i j : Int) : eqGuard op t x y (.int k i) (.int k' j) = pure () := by
  unfold eqGuard; split <;> rfl
theorem eqGuard_bool (op : BinOp) (i j : Bool) : eqGuard op t x y (.bool i) (.bool j) = pure () := by
  unfold eqGuard; split <;> rfl
theorem eqGuard_ptr (op : BinOp) (i j : Option Addr) : eqGuard op t x y (.pointer i) (.pointer j) = pure () := by
  unfold eqGuard; split <;> rfl
theorem q_bin {op : BinOp} (hx : ev fr x = some u) (hy : ev fr y = some w) (hg : ∀ x y, eqGuard op t x y u w = pure ()) (h : binOp op t u w = pure v) : OpQ P ro N fr R ⟨d, .binOp op t x y t2, ty, pos, aft, g⟩ v := opQ_of_sl rfl fun ρ l hρ _ => by
  simp only [execOp, hρ x _ hx, hρ y _ hy, sl_bind, hg, h]
  exact ⟨rfl, rfl⟩
variable {k : IntKind} {i j : Int}
theorem q_add (hx : ev fr x = some (.int k i)) (hy : ev fr y = some (.int k j)) (h : Rng k (i + j)) : OpQ P ro N fr R ⟨d, .binOp .add t x y t2, ty, pos, aft, g⟩ (.int k (i + j)) :=
  q_bin hx hy (fun _ _ => eqGuard_int _ _ _ _ _) (by simp [binOp, Op.intArith, rng_wrap h])
theorem q_sub (hx : ev fr x = some (.int k i)) (hy : ev fr y = some (.int k j)) (h : Rng k (i - j)) : OpQ P ro N fr R ⟨d, .binOp .sub t x y t2, ty, pos, aft, g⟩ (.int k (i - j)) :=
  q_bin hx hy (fun _ _ => eqGuard_int _ _ _ _ _) (by simp [binOp, Op.intArith, rng_wrap h])
theorem q_mul (hx : ev fr x = some (.int k i)) (hy : ev fr y = some (.int k j)) (h : Rng k (i * j)) : OpQ P ro N fr R ⟨d, .binOp .mul t x y t2, ty, pos, aft, g⟩ (.int k (i * j)) :=
  q_bin hx hy (fun _ _ => eqGuard_int _ _ _ _ _) (by simp [binOp, Op.intArith, rng_wrap h])
theorem q_quo (hx : ev fr x = some (.int k i)) (hy : ev fr y = some (.int k j)) (h0 : 0 ≤ i) (h1 : 0 < j) (h : Rng k i) : OpQ P ro N fr R ⟨d, .binOp .quo t x y t2, ty, pos, aft, g⟩ (.int k (i / j)) :=
  q_bin hx hy (fun _ _ => eqGuard_int _ _ _ _ _) (by
    have e : i.tdiv j = i / j := Int.tdiv_eq_ediv_of_nonneg h0
    have h2 : i / j ≤ i := Int.ediv_le_self _ h0
    have h3 : 0 ≤ i / j := Int.ediv_nonneg h0 (by omega)
    have hr : Rng k (i / j) := by cases k <;> simp only [Rng] at h ⊢ <;> first | exact h | omega
    simp [binOp, Op.intDiv, show ¬ j = 0 by omega, e, rng_wrap hr])
theorem q_rem (hx : ev fr x = some (.int k i)) (hy : ev fr y = some (.int k j)) (h0 : 0 ≤ i) (h1 : 0 < j) : OpQ P ro N fr R ⟨d, .binOp .rem t x y t2, ty, pos, aft, g⟩ (.int k (i % j)) :=
  q_bin hx hy (fun _ _ => eqGuard_int _ _ _ _ _) (by
    have e : i.tmod j = i % j := Int.tmod_eq_emod_of_nonneg h0
    simp [binOp, Op.intDiv, show ¬ j = 0 by omega, e])
theorem q_lss (hx : ev fr x = some (.int k i)) (hy : ev fr y = some (.int k j)) : OpQ P ro N fr R ⟨d, .binOp .lss t x y t2, ty, pos, aft, g⟩ (.bool (decide (i < j))) :=
  q_bin hx hy (fun _ _ => eqGuard_int _ _ _ _ _) (by simp [binOp, Op.intCmp])
theorem q_leq (hx : ev fr x = some (.int k i)) (hy : ev fr y = some (.int k j)) : OpQ P ro N fr R ⟨d, .binOp .leq t x y t2, ty, pos, aft, g⟩ (.bool (decide (i ≤ j))) :=
  q_bin hx hy (fun _ _ => eqGuard_int _ _ _ _ _) (by simp [binOp, Op.intCmp])
theorem q_gtr (hx : ev fr x = some (.int k i)) (hy : ev fr y = some (.int k j)) : OpQ P ro N fr R ⟨d, .binOp .gtr t x y t2, ty, pos, aft, g⟩ (.bool (decide (j < i))) :=
  q_bin hx hy (fun _ _ => eqGuard_int _ _ _ _ _) (by simp [binOp, Op.intCmp])
theorem q_geq (hx : ev fr x = some (.int k i)) (hy : ev fr y = some (.int k j)) : OpQ P ro N fr R ⟨d, .binOp .geq t x y t2, ty, pos, aft, g⟩ (.bool (decide (j ≤ i))) :=
  q_bin hx hy (fun _ _ => eqGuard_int _ _ _ _ _) (by simp [binOp, Op.intCmp])
theorem q_eql (hx : ev fr x = some (.int k i)) (hy : ev fr y = some (.int k j)) : OpQ P ro N fr R ⟨d, .binOp .eql t x y t2, ty, pos, aft, g⟩ (.bool (decide (i = j))) :=
  q_bin hx hy (fun _ _ => eqGuard_int _ _ _ _ _) (by simp [binOp, Op.intCmp]; rfl)
theorem q_neq (hx : ev fr x = some (.int k i)) (hy : ev fr y = some (.int k j)) : OpQ P ro N fr R ⟨d, .binOp .neq t x y t2, ty, pos, aft, g⟩ (.bool (decide (¬ i = j))) :=
  q_bin hx hy (fun _ _ => eqGuard_int _ _ _ _ _) (by simp [binOp, Op.intCmp, bne]; rfl)
theorem q_not {bb : Bool} (hx : ev fr x = some (.bool bb)) : OpQ P ro N fr R ⟨d, .unOp .not t x, ty, pos, aft, g⟩ (.bool (!bb)) := opQ_of_sl rfl fun ρ l hρ _ => by
  simp only [execOp, hρ x _ hx, Op.unary, sl_bind]; exact ⟨rfl, rfl⟩
theorem q_conv {k' : IntKind} {src dst : TypeId} (hx : ev fr x = some (.int k i)) [c1 : IT P src k] [c2 : IT P dst k'] (h : Rng k' i) : OpQ P ro N fr R ⟨d, .convert src dst x, ty, pos, aft, g⟩ (.int k' i) := opQ_of_sl rfl fun ρ l hρ _ => by
  have h1 : P.underlying src = some (.int k) := by have := c1.out; unfold itV at this; split at this <;> simp_all
  have h2 : P.underlying dst = some (.int k') := by have := c2.out; unfold itV at this; split at this <;> simp_all
  simp only [execOp, hρ x _ hx, convert, sl_bind]
  rw [sl_under' h1, sl_under' h2]
  exact ⟨by rw [rng_wrap h], rfl⟩
theorem q_conv_w {k' : IntKind} {src dst : TypeId} (hx : ev fr x = some (.int k i)) [c1 : IT P src k] [c2 : IT P dst k'] : OpQ P ro N fr R ⟨d, .convert src dst x, ty, pos, aft, g⟩ (.int k' (k'.wrap i)) := opQ_of_sl rfl fun ρ l hρ _ => by
  have h1 : P.underlying src = some (.int k) := by have := c1.out; unfold itV at this; split at this <;> simp_all
  have h2 : P.underlying dst = some (.int k') := by have := c2.out; unfold itV at this; split at this <;> simp_all
  simp only [execOp, hρ x _ hx, convert, sl_bind]
  rw [sl_under' h1, sl_under' h2]
  exact ⟨rfl, rfl⟩
theorem ptV_spec {t e : Nat} (h : ptV P t = some e) : P.underlying t = some (.pointer e) := by unfold ptV at h; split at h <;> simp_all
theorem q_eqnil {p : Option Addr} {e : Nat} (hx : ev fr x = some (.pointer p)) (hy : ev fr y = some (.pointer none)) [c : PT P t e] : OpQ P ro N fr R ⟨d, .binOp .eql t x y t2, ty, pos, aft, g⟩ (.bool p.isNone) := opQ_of_sl rfl fun ρ l hρ _ => by
  simp only [execOp, hρ x _ hx, hρ y _ hy, sl_bind, eqGuard_ptr, sl_pure, binOp]
  unfold Op.equal Op.maxDepth Op.equalIn
  rw [sl_under (ptV_spec c.out)]
  cases p <;> exact ⟨rfl, rfl⟩
theorem q_nenil {p : Option Addr} {e : Nat} (hx : ev fr x = some (.pointer p)) (hy : ev fr y = some (.pointer none)) [c : PT P t e] : OpQ P ro N fr R ⟨d, .binOp .neq t x y t2, ty, pos, aft, g⟩ (.bool p.isSome) := opQ_of_sl rfl fun ρ l hρ _ => by
  simp only [execOp, hρ x _ hx, hρ y _ hy, sl_bind, eqGuard_ptr, sl_pure, binOp]
  unfold Op.equal Op.maxDepth Op.equalIn
  rw [sl_under (ptV_spec c.out)]
  cases p <;> exact ⟨rfl, rfl⟩
theorem q_neb {p q : Bool} (hx : ev fr x = some (.bool p)) (hy : ev fr y = some (.bool q)) (ht : P.underlying t = some .bool) : OpQ P ro N fr R ⟨d, .binOp .neq t x y t2, ty, pos, aft, g⟩ (.bool (!(p == q))) := opQ_of_sl rfl fun ρ l hρ _ => by
  simp only [execOp, hρ x _ hx, hρ y _ hy, sl_bind, eqGuard_bool, sl_pure, binOp]
  unfold Op.equal Op.maxDepth Op.equalIn
  rw [sl_under ht]
  exact ⟨rfl, rfl⟩
/-! parts of values -/
theorem q_extract {vs : Array Value} {ix : Nat} (hx : ev fr x = some (.tuple vs)) (hv : vs[ix]? = some v) : OpQ P ro N fr R ⟨d, .extract x ix, ty, pos, aft, g⟩ v := opQ_of_sl rfl fun ρ l hρ _ => by
  simp only [execOp, hρ x _ hx, sl_bind, Instr.extract, hv]; exact ⟨rfl, rfl⟩
theorem q_makeFunc {f : Nat} {xs : List Operand} {vs : List Value} (hx : evs fr xs = some vs) : OpQ P ro N fr R ⟨d, .makeFunc (.func f) #[] xs.toArray, ty, pos, aft, g⟩ (.func (.func f) #[] vs.toArray) := opQ_of_sl rfl fun ρ l hρ _ => by
  simp only [execOp, sl_bind, Instr.makeFunc, List.map_toArray, hρ.list hx]; exact ⟨rfl, rfl⟩
theorem fvV_spec {s f k t : Nat} (h : fvV P s f = some (k, t)) : ∃ fs fd, P.underlying s = some (.struct fs) ∧ fs[f]? = some fd ∧ fd.offset = k ∧ fd.type = t := by
  unfold fvV at h
  split at h
  · rename_i fs hu
    obtain ⟨fd, hf, h2⟩ := Option.map_eq_some_iff.1 h
    cases h2
    exact ⟨fs, fd, hu, hf, rfl, rfl⟩
  · cases h
theorem sl_part1 {α : Type} {Q : α → List Chunk → Prop} {f : Value → Sem α} {t : Nat} {cs : Array Value} (hc : ocV P t = true) (hv : cs[off]? = some v) (h : sl P (f v) l Q) : sl P (part t cs off >>= f) l Q := by
  obtain ⟨u, i, h1, h2, _, _⟩ := ocV_spec hc
  rw [sl_bind]; unfold part
  rw [sl_isAgg h1, h2]
  simp only [Bool.false_eq_true, if_false, hv]
  exact h
theorem q_field {s f k ft : Nat} {cs : Array Value} (hx : ev fr x = some (.agg cs)) [c : FV P s f k ft] [c2 : OC P ft] (hv : cs[k]? = some v) : OpQ P ro N fr R ⟨d, .field s x f, ty, pos, aft, g⟩ v := opQ_of_sl rfl fun ρ l hρ _ => by
  obtain ⟨fs, fd, h1, h2, h3, h4⟩ := fvV_spec c.out
  simp only [execOp, hρ x _ hx, sl_bind, Instr.field]
  rw [← sl_bind, sl_under h1]
  simp only [h2, asAgg, sl_bind, sl_pure, h3, h4]
  have := sl_part1 (P := P) (l := l) (f := fun v => (pure v : Sem Value)) (Q := fun a l' => Next.value a = .value v ∧ l' = l) c2.out hv ⟨rfl, rfl⟩
  rw [sl_bind] at this
  exact this
theorem q_len_sl {p : Option Addr} {n cap e kk yb : Nat} (hx : ev fr x = some (.slice p n cap)) [c : ST P t e kk yb] : OpQ P ro N fr R ⟨d, .call { callee := .builtin .len, args := #[x], argTypes := #[t] }, ty, pos, aft, g⟩ (.int .i64 (n : Nat)) := opQ_of_sl rfl fun ρ l hρ _ => by
  obtain ⟨inf, h1, _⟩ := stV_spec c.out
  simp only [execOp, resolve, sl_bind, sl_pure, invoke, builtin, List.map_toArray, List.map_cons, List.map_nil, hρ x _ hx, Builtin.len_]
  show sl P (underlying t >>= _) l _
  rw [sl_under h1]
  exact ⟨rfl, rfl⟩
/-! effects -/
theorem e_call {f : Nat} {xs : List Operand} {vs : List Value} {fs cs : Array Value} {at_ : Array TypeId} (hx : ev fr x = some (.func (.func f) fs cs)) (hy : evs fr xs = some vs) [c : EN P f] (h : Fn P f (fs.toList ++ vs ++ cs.toList) l K) : OpE P ro N fr l ⟨d, .call { callee := .value x, args := xs.toArray, argTypes := at_ }, ty, pos, aft, g⟩ K := by
  refine ⟨rfl, fun E a W hf hs => ?_⟩
  have hρ := hf.agrees
  unfold OpVal
  have e : (execOp a.eval ⟨d, .call { callee := .value x, args := xs.toArray, argTypes := at_ }, ty, pos, aft, g⟩).run P W = .ok (.enter f (fs.toList ++ vs ++ cs.toList).toArray) W := by
    simp only [execOp, resolve, List.map_toArray, hρ.list hy, hρ x _ hx, Deferred.ofValue, Sem.run_bind]
    simp only [Sem.run_pure, Result.andThen, invoke]
    rw [c.out]
    congr 2
    apply Array.toList_inj.1
    simp
  rw [e]
  refine callsIn_fw ((h.run E W hs).mono ?_)
  rintro e W'' ⟨v, l'', rfl, hk, hs''⟩
  exact ⟨v, rfl, l'', hk, hs''⟩
theorem e_call0 {f : Nat} {xs : List Operand} {vs : List Value} {at_ : Array TypeId} (hx : ev fr x = some (.func (.func f) #[] #[])) (hy : evs fr xs = some vs) [c : EN P f] (h : Fn P f vs l K) : OpE P ro N fr l ⟨d, .call { callee := .value x, args := xs.toArray, argTypes := at_ }, ty, pos, aft, g⟩ K :=
  e_call hx hy (by simpa using h)
theorem q_call {f : Nat} {xs : List Operand} {vs : List Value} {at_ : Array TypeId} (hx : ev fr x = some (.func (.func f) #[] #[])) (hy : evs fr xs = some vs) [c : EN P f] (h : ∀ l, (∀ c, c ∈ R → c ∈ l) → Fn P f vs l (fun v' l' => v' = v ∧ l' = l)) : OpQ P ro N fr R ⟨d, .call { callee := .value x, args := xs.toArray, argTypes := at_ }, ty, pos, aft, g⟩ v :=
  ⟨fun l hl => e_call0 hx hy (h l hl)⟩
theorem e_yield {r : Nat} {xs : List Operand} {vs : List Value} {at_ : Array TypeId} (hx : ev fr x = some (.func (.yield r) #[] #[])) (hy : evs fr xs = some vs) (h : YieldS P r vs l K) : OpE P ro N fr l ⟨d, .call { callee := .value x, args := xs.toArray, argTypes := at_ }, ty, pos, aft, g⟩ K := by
  refine ⟨rfl, fun E a W hf hs => ?_⟩
  have hρ := hf.agrees
  unfold OpVal
  obtain ⟨fn, tmps, assign, body, hy2, hR⟩ := h.run E W hs
  have e : (execOp a.eval ⟨d, .call { callee := .value x, args := xs.toArray, argTypes := at_ }, ty, pos, aft, g⟩).run P W = .ok (.round r fn tmps assign body) W := by
    simp only [execOp, resolve, List.map_toArray, hρ.list hy, hρ x _ hx, Deferred.ofValue, Sem.run_bind]
    simp only [Sem.run_pure, Result.andThen, invoke]
    rw [← hy2]
    congr 1
    simp
  rw [e]
  refine roundIn_fw (hR.mono ?_)
  rintro e W'' ⟨v, l'', rfl, hk, hs''⟩
  exact ⟨v, rfl, l'', hk, hs''⟩
theorem zvV_spec {t : Nat} {z : List Value} (h : zvV P t = some z) : ∃ i zv, P.info? t = some i ∧ i.zero = some zv ∧ zv.cells.toList = z := by
  unfold zvV at h
  split at h
  · rename_i i hi
    split at h
    · rename_i zv hz
      cases h
      exact ⟨i, zv, hi, hz, rfl⟩
    · cases h
  · cases h
theorem e_alloc {zs : List Value} [c : ZV P t zs] : OpE P ro N fr l ⟨d, .alloc t, ty, pos, aft, g⟩ (fun v l' => ∃ b, (∀ c, c ∈ l → c.1 ≠ b) ∧ v = .pointer (some ⟨b, 0, none⟩) ∧ l' = (b, .cells zs.toArray t (0, 0)) :: l) := opE_of_sl rfl fun ρ hρ => by
  obtain ⟨i, zv, h1, h2, h3⟩ := zvV_spec c.out
  simp only [execOp, sl_bind, Instr.alloc, zeroValue]
  rw [← sl_bind, sl_info h1, h2]
  simp only [sl_pure, newVar, newRow, sl_bind]
  intro b hb
  exact ⟨b, hb, rfl, by rw [← h3]⟩
theorem e_box {e : Nat} (hx : ev fr x = some v) : OpE P ro N fr l ⟨d, .box e x, ty, pos, aft, g⟩ (fun v' l' => ∃ b, (∀ c, c ∈ l → c.1 ≠ b) ∧ v' = .pointer (some ⟨b, 0, none⟩) ∧ l' = (b, .cells v.cells e (0, 0)) :: l) := opE_of_sl rfl fun ρ hρ => by
  simp only [execOp, sl_bind, Instr.box, hρ x _ hx, newVar, newRow]
  intro b hb
  exact ⟨b, hb, rfl, rfl⟩
theorem oc1_cells {v : Value} (h : v.oneCell' = true) : v.cells = #[v] := by cases v <;> first | rfl | (simp [Value.oneCell'] at h)
theorem sl_storeVar1 {α : Type} {Q : α → List Chunk → Prop} {f : Unit → Sem α} {cs : Array Value} {T : TypeId} {l' : List Chunk} (hc : ocV P t = true) (h1 : v.oneCell' = true) (hlt : off < cs.size) (hu : Upd l b (.cells cs T (0, 0)) (.cells (cs.setIfInBounds off v) T (0, 0)) l') (h : sl P (f ()) l' Q) : sl P (storeVar t ⟨b, off, none⟩ v >>= f) l Q := by
  obtain ⟨u, i, _, _, h3, h4⟩ := ocV_spec hc
  rw [sl_bind]; unfold storeVar
  rw [sl_sizeOf h3, oc1_cells h1, h4]
  exact ⟨h1, cs, T, (0, 0), l', hu, rfl, hlt, by simp [Addr.add], h⟩
theorem e_store {cs : Array Value} {T : TypeId} {l' : List Chunk} (hx : ev fr x = some (.pointer (some ⟨b, off, none⟩))) (hy : ev fr y = some v) [c : OC P t] (h1 : v.oneCell' = true) (hu : Upd l b (.cells cs T (0, 0)) (.cells (cs.setIfInBounds off v) T (0, 0)) l') (hlt : off < cs.size) : OpE P ro N fr l ⟨d, .store t x y, ty, pos, aft, g⟩ (fun v' l2 => v' = undef ∧ l2 = l') := opE_of_sl rfl fun ρ hρ => by
  simp only [execOp, hρ x _ hx, hρ y _ hy, Instr.storeAt, sl_bind, Instr.sureAddr, sl_pure]
  have := sl_storeVar1 (P := P) (f := fun v => (pure v : Sem Unit)) (Q := fun a l2 => NextK P (fun v' l2 => v' = undef ∧ l2 = l') Next.skip l2) c.out h1 hlt hu ⟨rfl, rfl⟩
  rw [sl_bind] at this
  exact this
theorem e_box1 {e : Nat} (hx : ev fr x = some v) (h1 : v.oneCell' = true) : OpE P ro N fr l ⟨d, .box e x, ty, pos, aft, g⟩ (fun v' l' => ∃ b, (∀ c, c ∈ l → c.1 ≠ b) ∧ v' = .pointer (some ⟨b, 0, none⟩) ∧ l' = (b, .cells (List.toArray [v]) e (0, 0)) :: l) :=
  (e_box hx).mono fun v' l' ⟨b, h0, h1', h2⟩ => ⟨b, h0, h1', by rw [h2, oc1_cells h1]⟩
theorem e_boxA {e : Nat} {ws : Array Value} (hx : ev fr x = some (.agg ws)) : OpE P ro N fr l ⟨d, .box e x, ty, pos, aft, g⟩ (fun v' l' => ∃ b, (∀ c, c ∈ l → c.1 ≠ b) ∧ v' = .pointer (some ⟨b, 0, none⟩) ∧ l' = (b, .cells ws e (0, 0)) :: l) := e_box hx
theorem e_storeL {cs cs' : List Value} {T : TypeId} {l' : List Chunk} (hx : ev fr x = some (.pointer (some ⟨b, off, none⟩))) (hy : ev fr y = some v) [c : OC P t] (h1 : v.oneCell' = true) (hm : (b, Obj.cells (List.toArray cs) T (0, 0)) ∈ l) (hs : LSet cs off v cs') (hu : Upd l b (.cells (List.toArray cs) T (0, 0)) (.cells (List.toArray cs') T (0, 0)) l') : OpE P ro N fr l ⟨d, .store t x y, ty, pos, aft, g⟩ (fun v' l2 => v' = undef ∧ l2 = l') := by
  refine e_store hx hy h1 (cs := List.toArray cs) (T := T) ?_ (by simpa using hs.spec.2)
  rw [List.setIfInBounds_toArray, hs.spec.1]
  exact hu
def setFrom (cs : Array Value) (off : Nat) : List Value → Array Value
  | [] => cs
  | v :: r => setFrom (cs.setIfInBounds off v) (off + 1) r
theorem Upd.mid {l l'' : List Chunk} {b : Nat} {o o'' : Obj} (o' : Obj) (h : Upd l b o o'' l'') : ∃ l', Upd l b o o' l' ∧ Upd l' b o' o'' l'' := by
  induction h with
  | here => exact ⟨_, .here, .here⟩
  | there _ ih => obtain ⟨l', h1, h2⟩ := ih; exact ⟨_, .there h1, .there h2⟩
theorem Upd.same' {l l' : List Chunk} {b : Nat} {o o' : Obj} (h : Upd l b o o' l') (e : o = o') : l' = l := by
  induction h with
  | here => rw [e]
  | there _ ih => rw [ih e]
theorem Upd.same {l l' : List Chunk} {b : Nat} {o : Obj} (h : Upd l b o o l') : l' = l := h.same' rfl
theorem sl_storeCells {α : Type} {Q : α → List Chunk → Prop} {f : Unit → Sem α} {T : TypeId} : ∀ (vs : List Value) (i : Nat) (cs : Array Value) (l l' : List Chunk), (∀ v, v ∈ vs → v.oneCell' = true) → off + i + vs.length ≤ cs.size → Upd l b (.cells cs T (0, 0)) (.cells (setFrom cs (off + i) vs) T (0, 0)) l' → sl P (f ()) l' Q → sl P (storeCells ⟨b, off, none⟩ vs i >>= f) l Q
  | [], i, cs, l, l', _, _, hu, h => by
    have := hu.same
    subst this
    exact h
  | v :: r, i, cs, l, l', hv, hle, hu, h => by
    unfold storeCells
    rw [sl_bind, sl_bind]
    show sl P (store ((⟨b, off, none⟩ : Addr).add i) v) l _
    rw [addr_add]
    obtain ⟨l1, h1, h2⟩ := hu.mid (.cells (cs.setIfInBounds (off + i) v) T (0, 0))
    simp only [List.length_cons] at hle
    refine ⟨hv v List.mem_cons_self, cs, T, (0, 0), l1, h1, rfl, by simp only; omega, by simp, ?_⟩
    show sl P (storeCells ⟨b, off, none⟩ r (i + 1)) l1 _
    rw [← sl_bind]
    exact sl_storeCells r (i + 1) _ l1 l' (fun u hu => hv u (List.mem_cons_of_mem _ hu)) (by simp; omega) h2 h
theorem LSetA.spec {l r vs : List Value} {k : Nat} (h : LSetA l k vs r) : setFrom (List.toArray l) k vs = List.toArray r ∧ k + vs.length ≤ l.length := by
  have key : ∀ (vs : List Value) (pre l : List Value) (k : Nat), setFrom (List.toArray (pre ++ l)) (pre.length + k) vs = List.toArray (pre ++ (setFrom (List.toArray l) k vs).toList) := by
    intro vs
    induction vs with
    | nil => intro pre l k; simp [setFrom]
    | cons v vs ih =>
      intro pre l k
      simp only [setFrom, List.setIfInBounds_toArray]
      rw [List.set_append_right _ _ (by omega), show pre.length + k - pre.length = k by omega, show pre.length + k + 1 = pre.length + (k + 1) by omega]
      exact ih pre _ _
  induction h with
  | done => exact ⟨rfl, Nat.zero_le _⟩
  | put h ih =>
    rename_i x v l r vs
    refine ⟨?_, by have := ih.2; simp only [List.length_cons]; omega⟩
    simp only [setFrom, List.setIfInBounds_toArray, List.set_cons_zero]
    have := key vs [v] l 0
    simp only [List.length_singleton, List.singleton_append, Nat.zero_add, Nat.add_zero] at this ⊢
    rw [this, ih.1]
  | skip h ih =>
    rename_i x l r vs k
    refine ⟨?_, by have := ih.2; simp only [List.length_cons]; omega⟩
    have := key vs [x] l k
    simp only [List.length_singleton, List.singleton_append] at this
    rw [Nat.add_comm k 1, this, ih.1]
theorem e_storeA {cs ws : Array Value} {T : TypeId} {n : Nat} {l' : List Chunk} (hx : ev fr x = some (.pointer (some ⟨b, off, none⟩))) (hy : ev fr y = some (.agg ws)) [c : AG P t n] (hn : ws.size = n) (h1 : ∀ v, v ∈ ws.toList → v.oneCell' = true) (hu : Upd l b (.cells cs T (0, 0)) (.cells (setFrom cs off ws.toList) T (0, 0)) l') (hlt : off + n ≤ cs.size) : OpE P ro N fr l ⟨d, .store t x y, ty, pos, aft, g⟩ (fun v' l2 => v' = undef ∧ l2 = l') := opE_of_sl rfl fun ρ hρ => by
  obtain ⟨u, i, _, _, h3, h4⟩ := agV_spec c.out
  simp only [execOp, hρ x _ hx, hρ y _ hy, Instr.storeAt, sl_bind, Instr.sureAddr, sl_pure]
  unfold storeVar
  rw [sl_sizeOf h3, h4]
  have e : (Value.agg ws).cells = ws := rfl
  rw [e, hn]
  simp only [ne_eq, not_true, if_false]
  have := sl_storeCells (P := P) (f := fun v => (pure v : Sem Unit)) (Q := fun a l2 => NextK P (fun v' l2 => v' = undef ∧ l2 = l') Next.skip l2) ws.toList 0 cs l l' h1 (by simp; omega) hu ⟨rfl, rfl⟩
  rw [sl_bind] at this
  exact this
theorem e_storeLA {cs cs' ws : List Value} {T : TypeId} {n : Nat} {l' : List Chunk} (hx : ev fr x = some (.pointer (some ⟨b, off, none⟩))) (hy : ev fr y = some (.agg (List.toArray ws))) [c : AG P t n] (hn : ws.length = n) (h1 : ∀ v, v ∈ ws → v.oneCell' = true) (hm : (b, Obj.cells (List.toArray cs) T (0, 0)) ∈ l) (hs : LSetA cs off ws cs') (hu : Upd l b (.cells (List.toArray cs) T (0, 0)) (.cells (List.toArray cs') T (0, 0)) l') : OpE P ro N fr l ⟨d, .store t x y, ty, pos, aft, g⟩ (fun v' l2 => v' = undef ∧ l2 = l') := by
  refine e_storeA hx hy (cs := List.toArray cs) (T := T) (by simpa using hn) (by simpa using h1) ?_ (by have := hs.spec.2; simp; omega)
  have e := hs.spec.1
  simp only at e ⊢
  rw [e]
  exact hu
end
section
variable {P : Program} {ro : Option Nat} {N : Nat} {E : World} {ops : Array Oper} {Q : Exit → Act → World → Prop} {rest : List Oper} {o : Oper} {fr fr' : Fr} {ds : List Deferred} {l l' : List Chunk} {K : Value → List Chunk → Prop} {v : Value}
theorem t_e {d : Nat} (h : OpE P ro N fr l o K) (hw : o.guard = none) (hd : o.dst = some d) (hb : Nat.blt d N = true) (hk : ∀ v l', K v l' → OpsS P ro N E ops Q rest ((d, v) :: fr) ds l') : OpsS P ro N E ops Q (o :: rest) fr ds l :=
  s_e h hw (by rw [hd]; exact hb) fun v l' hkv => by rw [hd]; exact hk v l' hkv
theorem t_n (h : OpE P ro N fr l o K) (hw : o.guard = none) (hd : o.dst = none) (hk : ∀ v l', K v l' → OpsS P ro N E ops Q rest fr ds l') : OpsS P ro N E ops Q (o :: rest) fr ds l :=
  s_e h hw (by rw [hd]; rfl) fun v l' hkv => by rw [hd]; exact hk v l' hkv
theorem t_q {d : Nat} (h : OpQ P ro N fr l o v) (hw : o.guard = none) (hd : o.dst = some d) (hb : Nat.blt d N = true) (hk : OpsS P ro N E ops Q rest ((d, v) :: fr) ds l) : OpsS P ro N E ops Q (o :: rest) fr ds l :=
  s_q h hw (by rw [hd]; exact hb) (by rw [hd]; exact hk)
theorem t_gq {d j dj : Nat} {oj : Oper} {b : Bool} (h : OpQ P ro N fr l o v) (hw : o.guard = some (j, b)) (hj : ops[j]? = some oj) (hjd : oj.dst = some dj) (hb : flook fr dj = some (.bool b)) (hd : o.dst = some d) (hbl : Nat.blt d N = true) (hk : OpsS P ro N E ops Q rest ((d, v) :: fr) ds l) : OpsS P ro N E ops Q (o :: rest) fr ds l :=
  s_gq h hw hj hjd hb (by rw [hd]; exact hbl) (by rw [hd]; exact hk)
theorem t_ge {d j dj : Nat} {oj : Oper} {b : Bool} (h : OpE P ro N fr l o K) (hw : o.guard = some (j, b)) (hj : ops[j]? = some oj) (hjd : oj.dst = some dj) (hb : flook fr dj = some (.bool b)) (hd : o.dst = some d) (hbl : Nat.blt d N = true) (hk : ∀ v l', K v l' → OpsS P ro N E ops Q rest ((d, v) :: fr) ds l') : OpsS P ro N E ops Q (o :: rest) fr ds l :=
  s_ge h hw hj hjd hb (by rw [hd]; exact hbl) fun v l' hkv => by rw [hd]; exact hk v l' hkv
theorem t_gs {d j dj : Nat} {oj : Oper} {b b' : Bool} (hw : o.guard = some (j, b)) (hj : ops[j]? = some oj) (hjd : oj.dst = some dj) (hb : flook fr dj = some (.bool b')) (hne : (b' == b) = false) (hd : o.dst = some d) (hbl : Nat.blt d N = true) (hk : OpsS P ro N E ops Q rest ((d, undef) :: fr) ds l) : OpsS P ro N E ops Q (o :: rest) fr ds l :=
  s_gs hw hj hjd hb hne (by rw [hd]; exact hbl) (by rw [hd]; exact hk)
def gst (ops : Array Oper) (fr : Fr) : Option (Nat × Bool) → Option Bool
  | none => some true
  | some (j, b) => match ops[j]? with
    | some oj => match oj.dst with
      | some dj => match flook fr dj with
        | some (.bool b') => some (b' == b)
        | _ => none
      | none => none
    | none => none
theorem gst_some {g : Option (Nat × Bool)} {r : Bool} (h : gst ops fr g = some r) : (g = none ∧ r = true) ∨ ∃ j b oj dj b', g = some (j, b) ∧ ops[j]? = some oj ∧ oj.dst = some dj ∧ flook fr dj = some (.bool b') ∧ (b' == b) = r := by
  cases g with
  | none => exact .inl ⟨rfl, by cases h; rfl⟩
  | some jb =>
    obtain ⟨j, b⟩ := jb
    refine .inr ⟨j, b, ?_⟩
    unfold gst at h
    simp only at h
    split at h
    · rename_i oj hoj
      split at h
      · rename_i dj hdj
        split at h
        · rename_i b' hb'
          exact ⟨oj, dj, b', rfl, hoj, hdj, hb', by cases h; rfl⟩
        · cases h
      · cases h
    · cases h
theorem t_h {d : Nat} (h : OpQ P ro N fr l o v) (hw : gst ops fr o.guard = some true) (hd : o.dst = some d) (hb : Nat.blt d N = true) (hk : OpsS P ro N E ops Q rest ((d, v) :: fr) ds l) : OpsS P ro N E ops Q (o :: rest) fr ds l := by
  rcases gst_some hw with ⟨h1, _⟩ | ⟨j, b, oj, dj, b', h1, h2, h3, h4, h5⟩
  · exact t_q h h1 hd hb hk
  · have : b' = b := by simpa using h5
    subst this
    exact t_gq h h1 h2 h3 h4 hd hb hk
theorem t_hs {d : Nat} (hw : gst ops fr o.guard = some false) (hd : o.dst = some d) (hb : Nat.blt d N = true) (hk : OpsS P ro N E ops Q rest ((d, undef) :: fr) ds l) : OpsS P ro N E ops Q (o :: rest) fr ds l := by
  rcases gst_some hw with ⟨_, h1⟩ | ⟨j, b, oj, dj, b', h1, h2, h3, h4, h5⟩
  · cases h1
  · exact t_gs h1 h2 h3 h4 h5 hd hb hk
theorem c_weak {c : Code} (hs' : ∀ d v, flook fr' d = some v → flook fr d = some v) (h : CodeS P ro N E c Q fr' ds l) : CodeS P ro N E c Q fr ds l := ⟨fun a W hf hds hs => h.run a W (hf.sub hs') hds hs⟩
theorem c_if_t {t : Nat} {x y : Code} {p : Prop} {ip : Decidable p} (hc : flook fr t = some (.bool (@decide p ip))) (hp : p) (h : CodeS P ro N E x Q ((t, .bool true) :: fr) ds l) : CodeS P ro N E (.cond (.tmp t) x y) Q fr ds l := by
  have hc' : flook fr t = some (.bool true) := by rw [hc, decide_eq_true hp]
  exact c_cond_t hc' (c_weak (flook_over hc') h)
theorem c_if_f {t : Nat} {x y : Code} {p : Prop} {ip : Decidable p} (hc : flook fr t = some (.bool (@decide p ip))) (hp : ¬ p) (h : CodeS P ro N E y Q ((t, .bool false) :: fr) ds l) : CodeS P ro N E (.cond (.tmp t) x y) Q fr ds l := by
  have hc' : flook fr t = some (.bool false) := by rw [hc, decide_eq_false hp]
  exact c_cond_f hc' (c_weak (flook_over hc') h)
theorem c_if {t : Nat} {x y : Code} {p : Prop} {ip : Decidable p} (hc : flook fr t = some (.bool (@decide p ip))) (h1 : p → CodeS P ro N E x Q ((t, .bool true) :: fr) ds l) (h2 : ¬ p → CodeS P ro N E y Q ((t, .bool false) :: fr) ds l) : CodeS P ro N E (.cond (.tmp t) x y) Q fr ds l := by
  by_cases hp : p
  · exact c_if_t hc hp (h1 hp)
  · exact c_if_f hc hp (h2 hp)
theorem c_ifb {t : Nat} {x y : Code} {b : Bool} (hc : flook fr t = some (.bool b)) (h1 : b = true → CodeS P ro N E x Q ((t, .bool true) :: fr) ds l) (h2 : b = false → CodeS P ro N E y Q ((t, .bool false) :: fr) ds l) : CodeS P ro N E (.cond (.tmp t) x y) Q fr ds l := by
  cases b with
  | true => exact c_cond_t hc (c_weak (flook_over hc) (h1 rfl))
  | false => exact c_cond_f hc (c_weak (flook_over hc) (h2 rfl))
theorem s_weak (hs' : ∀ d v, flook fr' d = some v → flook fr d = some v) (h : OpsS P ro N E ops Q rest fr' ds l) : OpsS P ro N E ops Q rest fr ds l := ⟨fun a W hf hds hs => h.run a W (hf.sub hs') hds hs⟩
theorem s_gif_t {j t : Nat} {w : Bool} {oj : Oper} {p : Prop} {ip : Decidable p} (hw : o.guard = some (j, w)) (hj : ops[j]? = some oj) (hjd : oj.dst = some t) (hc : flook fr t = some (.bool (@decide p ip))) (hp : p) (h : OpsS P ro N E ops Q (o :: rest) ((t, .bool true) :: fr) ds l) : OpsS P ro N E ops Q (o :: rest) fr ds l := by
  have hc' : flook fr t = some (.bool true) := by rw [hc, decide_eq_true hp]
  exact s_weak (flook_over hc') h
theorem s_gif_f {j t : Nat} {w : Bool} {oj : Oper} {p : Prop} {ip : Decidable p} (hw : o.guard = some (j, w)) (hj : ops[j]? = some oj) (hjd : oj.dst = some t) (hc : flook fr t = some (.bool (@decide p ip))) (hp : ¬ p) (h : OpsS P ro N E ops Q (o :: rest) ((t, .bool false) :: fr) ds l) : OpsS P ro N E ops Q (o :: rest) fr ds l := by
  have hc' : flook fr t = some (.bool false) := by rw [hc, decide_eq_false hp]
  exact s_weak (flook_over hc') h
end
end Go.Proofs.YtcjknmpogkofpaaGreat
