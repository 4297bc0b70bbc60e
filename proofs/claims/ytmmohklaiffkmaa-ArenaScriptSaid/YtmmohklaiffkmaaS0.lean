/- A small logic of blocks that are owned: a world holds a list of blocks; what a computation does to it is told of every list. Laws of my own, no program's. -/
import Derived.Test.YtmmohklaiffkmaaK0
set_option linter.unusedVariables false
set_option linter.unusedSimpArgs false
namespace Go.Proofs.Ytmmohklaiffkmaa
open Go.RowKit

abbrev Chunk := Nat × Obj

/-- the world W holds the blocks of l, all unlike; all that is no heap is as in E -/
structure Sat (E : World) (l : List Chunk) (W : World) : Prop where
  os : W.os = E.os
  tape : W.tape = E.tape
  output : W.output = E.output
  nodup : (l.map Prod.fst).Nodup
  has : ∀ c, c ∈ l → W.heap[c.1]? = some c.2

section
variable {E W : World} {l l' : List Chunk} {c : Chunk} {b : Nat} {o o' : Obj}

theorem Sat.perm (h : Sat E l W) (p : l.Perm l') : Sat E l' W :=
  ⟨h.os, h.tape, h.output, (p.map _).nodup_iff.1 h.nodup, fun c hc => h.has c (p.mem_iff.2 hc)⟩
theorem Sat.sub (h : Sat E l W) (s : l'.Sublist l) : Sat E l' W :=
  ⟨h.os, h.tape, h.output, List.Nodup.sublist (s.map _) h.nodup, fun c hc => h.has c (s.subset hc)⟩
theorem Sat.tail (h : Sat E (c :: l) W) : Sat E l W := h.sub (List.sublist_cons_self _ _)
theorem Sat.lt (h : Sat E l W) (hc : c ∈ l) : c.1 < W.heap.size := (Array.getElem?_eq_some_iff.1 (h.has c hc)).1
theorem Sat.drawn (h : Sat E l W) (n : Nat) : Sat E l { W with drawn := n } := ⟨h.os, h.tape, h.output, h.nodup, h.has⟩
theorem Sat.drew (h : Sat E l W) : Sat E l W.drew := ⟨h.os, h.tape, h.output, h.nodup, h.has⟩
theorem Sat.env {E' : World} (h : Sat E l W) (h' : Sat E' l' E) : Sat E' l W := ⟨h.os.trans h'.os, h.tape.trans h'.tape, h.output.trans h'.output, h.nodup, h.has⟩
theorem Sat.alloc (h : Sat E l W) (o : Obj) : Sat E ((W.heap.size, o) :: l) (W.alloc o) := by
  refine ⟨h.os, h.tape, h.output, ?_, fun c hc => ?_⟩
  · rw [List.map_cons, List.nodup_cons]
    refine ⟨fun hm => ?_, h.nodup⟩
    obtain ⟨c, hc, he⟩ := List.mem_map.1 hm
    have := h.lt hc
    simp only at he
    omega
  · rcases List.mem_cons.1 hc with rfl | hc
    · exact World.alloc_heap_new W o
    · exact (Below.heap_alloc W o c.1 (h.lt hc)).trans (h.has c hc)

/-- l with the object of one block exchanged -/
inductive Upd : List Chunk → Nat → Obj → Obj → List Chunk → Prop
  | here {l : List Chunk} {b : Nat} {o o' : Obj} : Upd ((b, o) :: l) b o o' ((b, o') :: l)
  | there {l l' : List Chunk} {b : Nat} {o o' : Obj} {c : Chunk} : Upd l b o o' l' → Upd (c :: l) b o o' (c :: l')
theorem Upd.mem (h : Upd l b o o' l') : (b, o) ∈ l := by
  induction h with
  | here => exact List.mem_cons_self
  | there _ ih => exact List.mem_cons_of_mem _ ih
theorem Upd.keys (h : Upd l b o o' l') : l'.map Prod.fst = l.map Prod.fst := by
  induction h with
  | here => rfl
  | there _ ih => simp [ih]
theorem Upd.inv (h : Upd l b o o' l') : ∀ c, c ∈ l' → c = (b, o') ∨ c ∈ l := by
  induction h with
  | here => intro c hc; rcases List.mem_cons.1 hc with rfl | hc
            · exact .inl rfl
            · exact .inr (List.mem_cons_of_mem _ hc)
  | there _ ih => intro c hc; rcases List.mem_cons.1 hc with rfl | hc
                  · exact .inr List.mem_cons_self
                  · exact (ih c hc).imp id (List.mem_cons_of_mem _)
theorem nodup_key {l : List Chunk} (h : (l.map Prod.fst).Nodup) {b : Nat} {o o' : Obj} (h1 : (b, o) ∈ l) (h2 : (b, o') ∈ l) : o = o' := by
  induction l with
  | nil => cases h1
  | cons c l ih =>
    rw [List.map_cons, List.nodup_cons] at h
    rcases List.mem_cons.1 h1 with e1 | h1 <;> rcases List.mem_cons.1 h2 with e2 | h2
    · rw [← e1] at e2; cases e2; rfl
    · exact absurd (List.mem_map.2 ⟨_, h2, by rw [← e1]⟩) h.1
    · exact absurd (List.mem_map.2 ⟨_, h1, by rw [← e2]⟩) h.1
    · exact ih h.2 h1 h2
theorem Upd.other (h : Upd l b o o' l') (hn : (l.map Prod.fst).Nodup) : ∀ c, c ∈ l' → c = (b, o') ∨ (c ∈ l ∧ c.1 ≠ b) := by
  intro c hc
  by_cases hb : c.1 = b
  · left
    obtain ⟨k, x⟩ := c
    simp only at hb
    subst hb
    have hm : (k, o') ∈ l' := by
      clear hc hn
      induction h with
      | here => exact List.mem_cons_self
      | there _ ih => exact List.mem_cons_of_mem _ ih
    rw [nodup_key (by rw [h.keys]; exact hn) hc hm]
  · rcases h.inv c hc with rfl | hc
    · exact absurd rfl hb
    · exact .inr ⟨hc, hb⟩
theorem Sat.upd (h : Sat E l W) (u : Upd l b o o' l') : Sat E l' (W.putObj b o') := by
  refine ⟨h.os, h.tape, h.output, by rw [u.keys]; exact h.nodup, fun c hc => ?_⟩
  rcases u.other h.nodup c hc with rfl | ⟨hm, hne⟩
  · exact World.putObj_heap_same (h.lt u.mem)
  · exact (World.putObj_heap_other hne).trans (h.has c hm)
theorem Sat.setCell {cs : Array Value} {t : TypeId} {fz : Nat × Nat} {i : Nat} {v : Value} (h : Sat E l W) (u : Upd l b (.cells cs t fz) (.cells (cs.setIfInBounds i v) t fz) l') : Sat E l' (W.setCell ⟨b, i, none⟩ v) := by
  refine ⟨h.os, h.tape, h.output, by rw [u.keys]; exact h.nodup, fun c hc => ?_⟩
  rcases u.other h.nodup c hc with rfl | ⟨hm, hne⟩
  · exact blk_set (h.has _ u.mem) v
  · exact (Below.heap_setCell _ _ _ _ hne).trans (h.has c hm)
theorem Sat.cell {cs : Array Value} {t : TypeId} {fz : Nat × Nat} (h : Sat E l W) (hm : (b, Obj.cells cs t fz) ∈ l) (i : Nat) : W.cell? ⟨b, i, none⟩ = cs[i]? := blk_cell (h.has _ hm) i
theorem Sat.frz {cs : Array Value} {t : TypeId} {fz : Nat × Nat} (h : Sat E l W) (hm : (b, Obj.cells cs t fz) ∈ l) (i : Nat) : W.frozen? ⟨b, i, none⟩ = (decide (fz.1 ≤ i) && decide (i < fz.2)) := by
  obtain ⟨lo, hi⟩ := fz
  simp [World.frozen?, h.has _ hm]
end

/-- what a computation does, told of the blocks that are held -/
def sl (P : Program) {α : Type} : Sem α → List Chunk → (α → List Chunk → Prop) → Prop
  | .pure a, l, Q => Q a l
  | .load _ a k, l, Q => ∃ c t fz v, (a.block, Obj.cells c t fz) ∈ l ∧ a.spot = none ∧ c[a.off]? = some v ∧ sl P (k v) l Q
  | .store _ a v k, l, Q => v.oneCell' = true ∧ ∃ c t fz l', Upd l a.block (.cells c t fz) (.cells (c.setIfInBounds a.off v) t fz) l' ∧ a.spot = none ∧ a.off < c.size ∧ (decide (fz.1 ≤ a.off) && decide (a.off < fz.2)) = false ∧ sl P k l' Q
  | .new o k, l, Q => ∀ b, (∀ c, c ∈ l → c.1 ≠ b) → sl P (k b) ((b, o) :: l) Q
  | .shape r k, l, Q => ∃ c t fz, (r, Obj.cells c t fz) ∈ l ∧ sl P (k (some (t, c.size))) l Q
  | .frozen a k, l, Q => ∃ c t fz, (a.block, Obj.cells c t fz) ∈ l ∧ a.spot = none ∧ sl P (k (decide (fz.1 ≤ a.off) && decide (a.off < fz.2))) l Q
  | .getObj r k, l, Q => ∃ o, (r, o) ∈ l ∧ o.isCells = false ∧ sl P (k o) l Q
  | .setObj r o' k, l, Q => ∃ o l', Upd l r o o' l' ∧ o.isCells = false ∧ sl P k l' Q
  | .choose q k, l, Q => ∀ t, sl P (k (if q.forced then 0 else q.cut t)) l Q
  | .program k, l, Q => sl P (k P) l Q
  | .mark _ k, l, Q => sl P k l Q
  | .halt _, _, _ => False
  | .freeze .., _, _ => False
  | .sys .., _, _ => False

theorem sl_mono {P : Program} {α : Type} {Q Q' : α → List Chunk → Prop} (hq : ∀ a l, Q a l → Q' a l) (s : Sem α) : ∀ l, sl P s l Q → sl P s l Q' := by
  induction s with
  | pure a => exact fun l h => hq _ _ h
  | load m a k ih => rintro l ⟨c, t, fz, v, h1, h2, h3, h4⟩; exact ⟨c, t, fz, v, h1, h2, h3, ih _ _ h4⟩
  | store m a v k ih => rintro l ⟨h0, c, t, fz, l', h1, h2, h3, h4, h5⟩; exact ⟨h0, c, t, fz, l', h1, h2, h3, h4, ih _ h5⟩
  | new o k ih => exact fun l h b hb => ih _ _ (h b hb)
  | shape r k ih => rintro l ⟨c, t, fz, h1, h2⟩; exact ⟨c, t, fz, h1, ih _ _ h2⟩
  | frozen a k ih => rintro l ⟨c, t, fz, h1, h2, h3⟩; exact ⟨c, t, fz, h1, h2, ih _ _ h3⟩
  | getObj r k ih => rintro l ⟨o, h1, h2, h3⟩; exact ⟨o, h1, h2, ih _ _ h3⟩
  | setObj r o' k ih => rintro l ⟨o, l', h1, h2, h3⟩; exact ⟨o, l', h1, h2, ih _ h3⟩
  | choose q k ih => exact fun l h t => ih _ _ (h t)
  | program k ih => exact fun l h => ih _ _ h
  | mark m k ih => exact fun l h => ih _ h
  | halt h => exact fun l h => h
  | freeze a n k ih => exact fun l h => h
  | sys c k ih => exact fun l h => h

theorem sl_bind {P : Program} {α β : Type} {Q : β → List Chunk → Prop} {f : α → Sem β} (s : Sem α) : ∀ l, sl P (s >>= f) l Q ↔ sl P s l (fun a l' => sl P (f a) l' Q) := by
  show ∀ l, sl P (s.bind f) l Q ↔ _
  induction s with
  | pure a => exact fun l => Iff.rfl
  | load m a k ih => intro l; simp only [Sem.bind, sl, ih]
  | store m a v k ih => intro l; simp only [Sem.bind, sl, ih]
  | new o k ih => intro l; simp only [Sem.bind, sl, ih]
  | shape r k ih => intro l; simp only [Sem.bind, sl, ih]
  | frozen a k ih => intro l; simp only [Sem.bind, sl, ih]
  | getObj r k ih => intro l; simp only [Sem.bind, sl, ih]
  | setObj r o' k ih => intro l; simp only [Sem.bind, sl, ih]
  | choose q k ih => intro l; simp only [Sem.bind, sl, ih]
  | program k ih => intro l; simp only [Sem.bind, sl, ih]
  | mark m k ih => intro l; simp only [Sem.bind, sl, ih]
  | halt h => exact fun l => Iff.rfl
  | freeze a n k ih => exact fun l => Iff.rfl
  | sys c k ih => exact fun l => Iff.rfl
theorem sl_pure {P : Program} {α : Type} {Q : α → List Chunk → Prop} (a : α) (l : List Chunk) : sl P (pure a : Sem α) l Q ↔ Q a l := Iff.rfl

theorem sl_sound {P : Program} {α : Type} {E : World} {Q : α → List Chunk → Prop} (s : Sem α) : ∀ (l : List Chunk) (W : World), sl P s l Q → Sat E l W → ∃ a W' l', s.run P W = .ok a W' ∧ Q a l' ∧ Sat E l' W' := by
  induction s with
  | pure a => exact fun l W h hs => ⟨a, W, l, rfl, h, hs⟩
  | load m a k ih =>
    rintro l W ⟨c, t, fz, v, h1, h2, h3, h4⟩ hs
    obtain ⟨x, W', l', hr, hq, hs'⟩ := ih v l W h4 hs
    obtain ⟨ab, ao, asp⟩ := a
    simp only at h2 h3 h1
    subst h2
    exact ⟨x, W', l', by simp [Sem.run, hs.cell h1, h3, hr], hq, hs'⟩
  | store m a v k ih =>
    rintro l W ⟨h0, c, t, fz, l1, h1, h2, h3, h4, h5⟩ hs
    obtain ⟨ab, ao, asp⟩ := a
    simp only at h2 h3 h1 h4
    subst h2
    obtain ⟨x, W', l', hr, hq, hs'⟩ := ih l1 _ h5 (hs.setCell h1)
    refine ⟨x, W', l', ?_, hq, hs'⟩
    have hc := hs.cell h1.mem ao
    rw [Array.getElem?_eq_getElem h3] at hc
    have hf := (hs.frz h1.mem ao).trans h4
    cases v <;> simp only [Value.oneCell', Bool.false_eq_true] at h0 <;> simp [Sem.run, hc, hf, hr]
  | new o k ih =>
    intro l W h hs
    obtain ⟨x, W', l', hr, hq, hs'⟩ := ih W.heap.size _ (W.alloc o) (h W.heap.size (fun c hc => by have := hs.lt hc; omega)) (hs.alloc o)
    exact ⟨x, W', l', hr, hq, hs'⟩
  | shape r k ih =>
    rintro l W ⟨c, t, fz, h1, h2⟩ hs
    obtain ⟨x, W', l', hr, hq, hs'⟩ := ih _ l W h2 hs
    refine ⟨x, W', l', ?_, hq, hs'⟩
    have : W.shape? r = some (t, c.size) := by simp [World.shape?, hs.has _ h1]
    simp [Sem.run, this, hr]
  | frozen a k ih =>
    rintro l W ⟨c, t, fz, h1, h2, h3⟩ hs
    obtain ⟨ab, ao, asp⟩ := a
    simp only at h2 h3 h1
    subst h2
    obtain ⟨x, W', l', hr, hq, hs'⟩ := ih _ l W h3 hs
    exact ⟨x, W', l', by simp only [Sem.run, hs.frz h1]; exact hr, hq, hs'⟩
  | getObj r k ih =>
    rintro l W ⟨o, h1, h2, h3⟩ hs
    obtain ⟨x, W', l', hr, hq, hs'⟩ := ih _ l W h3 hs
    refine ⟨x, W', l', ?_, hq, hs'⟩
    have := hs.has _ h1
    simp only at this
    cases o <;> first | (simp [Obj.isCells] at h2; done) | simp [Sem.run, this, hr]
  | setObj r o' k ih =>
    rintro l W ⟨o, l1, h1, h2, h3⟩ hs
    obtain ⟨x, W', l', hr, hq, hs'⟩ := ih l1 _ h3 (hs.upd h1)
    refine ⟨x, W', l', ?_, hq, hs'⟩
    have := hs.has _ h1.mem
    simp only at this
    simp only [World.putObj] at hr
    cases o <;> first | (simp [Obj.isCells] at h2; done) | simp [Sem.run, this, hr]
  | choose q k ih =>
    intro l W h hs
    by_cases hf : q.forced = true
    · obtain ⟨x, W', l', hr, hq, hs'⟩ := ih _ l W (h 0) hs
      refine ⟨x, W', l', ?_, hq, hs'⟩
      rw [if_pos hf] at hr
      simp [Sem.run, hf, hr]
    · obtain ⟨x, W', l', hr, hq, hs'⟩ := ih _ l { W with drawn := W.drawn + 1 } (h (W.tape W.drawn q)) (hs.drawn _)
      refine ⟨x, W', l', ?_, hq, hs'⟩
      rw [if_neg hf] at hr
      simp only [Bool.not_eq_true] at hf
      simp [Sem.run, hf]
      exact hr
  | program k ih => exact fun l W h hs => ih _ l W h hs
  | mark m k ih => exact fun l W h hs => ih l W h hs
  | halt h => exact fun l W h hs => h.elim
  | freeze a n k ih => exact fun l W h hs => h.elim
  | sys c k ih => exact fun l W h hs => h.elim
end Go.Proofs.Ytmmohklaiffkmaa
