/- Effects that only add blocks, in a row, and one more that may come at any place among them. Laws of my own, no program's. realm.View. realm.View: all that is kept, in one value. Which threads are apart: the plain law. A view's parts as plain data; what threads reach and lean on; when two groups are apart. No program's. part: a view that can be read; known. part: sets (maps to 1): look up, put, delete; a set's numbers. Slices that are cut at their front: append, elements. Laws of my own, no program's. part: from (what a node's or thread's slots lead to), its iterator; AppendSeq onto numbers. part: AppendSeq onto numbers. part.reach: all that threads reach. part.reach, its walk. maps.Clone: a map beside nil, into an interface and back, the entry that copies it. An array's element by value. Laws of my own, no program's. Laws that the statement's proof leans on. -/
import Derived.Test.YtgafamgacpglcaaGreatGs5
import Derived.Test.YtgafamgacpglcaaGreatGs4
import Derived.Test.YtgafamgacpglcaaGreatGs11
import Derived.Test.YtgafamgacpglcaaGreatGs1
import Derived.Test.YtgafamgacpglcaaGreatGs8
import Derived.Test.YtgafamgacpglcaaGreatGs10
import Derived.Test.YtgafamgacpglcaaGreatGs7
import Derived.Test.YtgafamgacpglcaaGreatGs3
import Derived.ArgAppend
import Derived.Laws.Externs
/- Effects that only add blocks, in a row, and one more that may come at any place among them. Laws of my own, no program's. -/
set_option linter.unusedVariables false
set_option linter.unusedSimpArgs false
namespace Go.Proofs.YtgafamgacpglcaaGreat
open Go.RowKit

section
variable {P : Program} {ro : Option Nat} {N : Nat} {E : World} {ops : Array Oper} {Q : Exit → Act → World → Prop} {R : List Chunk} {tbl : List (List Nat)}
theorem pl_perm {sw : Sw} {sp : Spec} {pl : List PlanOp} {fr : Fr} {ds : List Deferred} {l l' : List Chunk} (p : l.Perm l') (h : PlanS P ro N E ops Q R tbl sw sp pl fr ds l) : PlanS P ro N E ops Q R tbl sw sp pl fr ds l' := by
  induction h generalizing l' with
  | nil h => exact .nil (p_keep (.of_perm p.symm) h)
  | q h1 h2 h3 _ ih => exact .q h1 h2 h3 (ih p)
  | gq h1 h2 h3 h4 h5 h6 _ ih => exact .gq h1 h2 h3 h4 h5 h6 (ih p)
  | gs h1 h2 h3 h4 h5 h6 h7 h8 h9 _ ih => exact .gs h1 h2 h3 h4 h5 h6 (fun c hc => p.mem_iff.1 (h7 c hc)) h8 (fun hk x hx ha c hc => p.mem_iff.1 (h9 hk x hx ha c hc)) (ih p)
  | gu h1 h2 h3 h4 h5 h7 h8 h9 _ ih => exact .gu h1 h2 h3 h4 h5 (fun c hc => p.mem_iff.1 (h7 c hc)) h8 (fun hk x hx ha c hc => p.mem_iff.1 (h9 hk x hx ha c hc)) (ih p)
  | e h1 h2 h3 h4 h5 h6 ih => exact .e (OpE.re (.of_perm p.symm) h1 fun v l2 hk => ⟨l2, .refl, hk⟩) h2 h3 h4 h5 h6
  | ge h1 h2 h3 h4 h5 h6 h7 h8 h9 ih => exact .ge (OpE.re (.of_perm p.symm) h1 fun v l2 hk => ⟨l2, .refl, hk⟩) h2 h3 h4 h5 h6 h7 h8 h9
  | weak h1 _ ih => exact .weak h1 (ih p)
  | sq h1 h2 h3 h4 _ ih => exact .sq h1 (fun c hc => p.mem_iff.1 (h2 c hc)) h3 h4 (ih p)
  | alt oo K rf sf h1 h2 h3 h4 ih => exact .alt oo K rf sf h1 (fun j hj => ⟨OpE.re (.of_perm p.symm) (h2 j hj).1 fun v l2 hk => ⟨l2, .refl, hk⟩, (h2 j hj).2⟩) h3 h4
  | alt2 h1 h2 h3 h4 _ _ ih1 ih2 => exact .alt2 h1 h2 h3 h4 (ih1 p) (ih2 p)

/-- an effect that adds blocks: its number, the operation, what it tells of its result and its blocks -/
abbrev AdS := Nat × Oper × (Value → List Chunk → Prop)
abbrev plA (x : AdS) : PlanOp := (x.1, false, x.2.1)
def FLe (fr fr' : Fr) : Prop := ∀ d v, flook fr d = some v → flook fr' d = some v
structure IsAd (P : Program) (ro : Option Nat) (N : Nat) (fr : Fr) (l : List Chunk) (x : AdS) : Prop where
  law' : ∀ l', (∀ c, c ∈ l → c ∈ l') → OpE P ro N fr l' x.2.1 fun v l2 => ∃ cs, x.2.2 v cs ∧ l2 = cs ++ l'
  guard : x.2.1.guard = none
  dst : ∃ d, x.2.1.dst = some d ∧ Nat.blt d N = true ∧ flook fr d = none
theorem OpE.le {fr fr' : Fr} {l : List Chunk} {o : Oper} {K : Value → List Chunk → Prop} (h : FLe fr fr') (ho : OpE P ro N fr l o K) : OpE P ro N fr' l o K := ⟨ho.nodef, fun E a W hf hs => ho.val E a W (hf.sub h) hs⟩
theorem OpQ.le {fr fr' : Fr} {l : List Chunk} {o : Oper} {v : Value} (h : FLe fr fr') (ho : OpQ P ro N fr l o v) : OpQ P ro N fr' l o v := ⟨fun l' hl => (ho.run l' hl).le h⟩
theorem IsAd.law {fr : Fr} {l : List Chunk} {x : AdS} (h : IsAd P ro N fr l x) (fr' : Fr) (l' : List Chunk) (h1 : FLe fr fr') (h2 : ∀ c, c ∈ l → c ∈ l') : OpE P ro N fr' l' x.2.1 fun v l2 => ∃ cs, x.2.2 v cs ∧ l2 = cs ++ l' := (h.law' l' h2).le h1
def AddK : List AdS → Fr → List Chunk → (Fr → List Chunk → Prop) → Prop
  | [], fr, l, k => k fr l
  | x :: xs, fr, l, k => ∀ v cs, x.2.2 v cs → AddK xs (putF x.2.1.dst v fr) (cs ++ l) k
theorem AddK.mono {k k' : Fr → List Chunk → Prop} (h : ∀ fr l, k fr l → k' fr l) : ∀ {xs : List AdS} {fr : Fr} {l : List Chunk}, AddK xs fr l k → AddK xs fr l k'
  | [], _, _, hk => h _ _ hk
  | x :: xs, _, _, hk => fun v cs hx => AddK.mono h (hk v cs hx)
/-- k asks no more of other words' and blocks' order -/
def Inv (k : Fr → List Chunk → Prop) : Prop := ∀ fr fr' l l', FLe fr fr' → l.Perm l' → k fr l → k fr' l'
theorem flook_putF {d e : Nat} {v : Value} {fr : Fr} : flook (putF (some d) v fr) e = if d = e then some v else flook fr e := by
  show (bif Nat.beq d e then some v else flook fr e) = _
  by_cases h : d = e
  · subst h; simp
  · rw [if_neg h]; have : Nat.beq d e = false := by cases hb : Nat.beq d e; rfl; exact absurd (Nat.eq_of_beq_eq_true hb) h
    rw [this]; rfl
theorem FLe.put {fr fr' : Fr} (h : FLe fr fr') (d : Option Nat) (v : Value) : FLe (putF d v fr) (putF d v fr') := by
  cases d with
  | none => exact h
  | some d => intro e u hu; rw [flook_putF] at hu ⊢; split at hu <;> simp_all [FLe]
theorem AddK.inv {k : Fr → List Chunk → Prop} (hk : Inv k) : ∀ {xs : List AdS} {fr fr' : Fr} {l l' : List Chunk}, FLe fr fr' → l.Perm l' → AddK xs fr l k → AddK xs fr' l' k
  | [], _, _, _, _, h1, h2, h => hk _ _ _ _ h1 h2 h
  | x :: xs, _, _, _, _, h1, h2, h => fun v cs hx => AddK.inv hk (h1.put _ _) (h2.append_left cs) (h v cs hx)
theorem put_swap {d e : Nat} (h : d ≠ e) (u v : Value) (fr : Fr) : FLe (putF (some d) u (putF (some e) v fr)) (putF (some e) v (putF (some d) u fr)) := by
  intro k w hw
  simp only [flook_putF] at hw ⊢
  by_cases h1 : d = k
  · subst h1; rw [if_pos rfl] at hw; rw [if_neg (Ne.symm h), if_pos rfl]; exact hw
  · rw [if_neg h1] at hw; rw [if_neg h1]; exact hw
/-- the last one may come first -/
theorem AddK.first {k : Fr → List Chunk → Prop} (hk : Inv k) {a : AdS} {da : Nat} (ha : a.2.1.dst = some da) : ∀ {xs : List AdS} {fr : Fr} {l : List Chunk}, (∀ x, x ∈ xs → ∃ d, x.2.1.dst = some d ∧ d ≠ da) → AddK (xs ++ [a]) fr l k → AddK (a :: xs) fr l k
  | [], _, _, _, h => h
  | x :: xs, fr, l, hx, h => fun v cs hv u us hu => by
    have h1 := AddK.first hk ha (fun y hy => hx y (List.mem_cons_of_mem _ hy)) (h u us hu) v cs hv
    obtain ⟨d, hd, hne⟩ := hx x List.mem_cons_self
    refine AddK.inv hk ?_ ?_ h1
    · rw [hd, ha]; exact put_swap (Ne.symm hne) _ _ _
    · exact List.perm_append_comm_assoc cs us l
theorem pl_seqA {sp : Spec} {ds : List Deferred} {rest : List PlanOp} : ∀ (xs : List AdS) {fr0 fr : Fr} {l0 l : List Chunk}, FLe fr0 fr → (∀ c, c ∈ l0 → c ∈ l) → (∀ x, x ∈ xs → IsAd P ro N fr0 l0 x) → (xs.map fun x => x.2.1.dst).Nodup → (∀ x, x ∈ xs → ∀ d, x.2.1.dst = some d → flook fr0 d = none) → (∀ c, c ∈ R → c ∈ l0) → (∀ x, x ∈ sp → ∀ c, c ∈ x.2 → c ∈ l0) →
    AddK xs fr l (fun fr' l' => PlanS P ro N E ops Q R tbl none sp rest fr' ds l') → PlanS P ro N E ops Q R tbl none sp (xs.map plA ++ rest) fr ds l
  | [], _, _, _, _, _, _, _, _, _, _, _, h => h
  | x :: xs, fr0, fr, l0, l, h1, h2, hx, hn, hf, hR, hS, h => by
    have hI := hx x List.mem_cons_self
    obtain ⟨d, hd, hb, hfd⟩ := hI.dst
    refine .e (hI.law fr l h1 h2) hI.guard (by rw [hd]; exact hb) ?_ ?_ ?_
    · rintro v l' ⟨cs, _, rfl⟩ c hc; exact List.mem_append_right _ (h2 _ (hR c hc))
    · rintro v l' ⟨cs, _, rfl⟩ y hy _ c hc; exact List.mem_append_right _ (h2 _ (hS y hy c hc))
    · rintro v l' ⟨cs, hk, rfl⟩
      refine pl_seqA xs (fr0 := fr0) ?_ (fun c hc => List.mem_append_right _ (h2 c hc)) (fun y hy => hx y (List.mem_cons_of_mem _ hy)) (List.nodup_cons.1 hn).2 (fun y hy => hf y (List.mem_cons_of_mem _ hy)) hR hS (h v cs hk)
      intro e u hu
      show flook (putF x.2.1.dst v fr) e = _
      rw [hd, flook_putF]
      split
      · rename_i e1; subst e1; rw [hfd] at hu; cases hu
      · exact h1 e u hu
/-- quiet operations in a row -/
abbrev plQ (x : Nat × Oper) : PlanOp := (x.1, true, x.2)
def QK (P : Program) (ro : Option Nat) (N : Nat) (R : List Chunk) : List (Nat × Oper) → Fr → (Fr → Prop) → Prop
  | [], fr, k => k fr
  | x :: xs, fr, k => ∃ v d, OpQ P ro N fr R x.2 v ∧ x.2.guard = none ∧ x.2.dst = some d ∧ Nat.blt d N = true ∧ QK P ro N R xs ((d, v) :: fr) k
theorem QK.plan {sw : Sw} {sp : Spec} {ds : List Deferred} {rest : List PlanOp} {l : List Chunk} : ∀ {qs : List (Nat × Oper)} {fr : Fr}, QK P ro N R qs fr (fun fr' => PlanS P ro N E ops Q R tbl sw sp rest fr' ds l) → PlanS P ro N E ops Q R tbl sw sp (qs.map plQ ++ rest) fr ds l
  | [], _, h => h
  | x :: qs, fr, h => by
    obtain ⟨v, d, h1, h2, h3, h4, h5⟩ := h
    exact .q h1 h2 (by rw [h3]; exact h4) (by rw [h3]; exact QK.plan h5)
theorem QK.mono {k k' : Fr → Prop} (h : ∀ fr, k fr → k' fr) : ∀ {qs : List (Nat × Oper)} {fr : Fr}, QK P ro N R qs fr k → QK P ro N R qs fr k'
  | [], _, hk => h _ hk
  | x :: qs, _, ⟨v, d, h1, h2, h3, h4, h5⟩ => ⟨v, d, h1, h2, h3, h4, QK.mono h h5⟩
theorem QK.le {k : Fr → Prop} (hk : ∀ fr fr', FLe fr fr' → k fr → k fr') : ∀ {qs : List (Nat × Oper)} {fr fr' : Fr}, FLe fr fr' → QK P ro N R qs fr k → QK P ro N R qs fr' k
  | [], _, _, h, hq => hk _ _ h hq
  | x :: qs, _, _, h, ⟨v, d, h1, h2, h3, h4, h5⟩ => ⟨v, d, h1.le h, h2, h3, h4, QK.le hk (h.put (some d) v) h5⟩
theorem FLe.low {fr0 fr : Fr} {d : Nat} {v : Value} (h1 : FLe fr0 fr) (hd : flook fr0 d = none) : FLe fr0 (putF (some d) v fr) := fun e u hu => by
  rw [flook_putF]
  split
  · rename_i e1; subst e1; rw [hd] at hu; cases hu
  · exact h1 e u hu
theorem QK.low {fr0 : Fr} {k : Fr → Prop} : ∀ {qs : List (Nat × Oper)} {fr : Fr}, (∀ x, x ∈ qs → ∀ d, x.2.dst = some d → flook fr0 d = none) → FLe fr0 fr → QK P ro N R qs fr k → QK P ro N R qs fr (fun fr2 => FLe fr0 fr2 ∧ k fr2)
  | [], _, _, h, hk => ⟨h, hk⟩
  | x :: qs, _, hq, h, ⟨v, d, h1, h2, h3, h4, h5⟩ => ⟨v, d, h1, h2, h3, h4, QK.low (fun y hy => hq y (List.mem_cons_of_mem _ hy)) (h.low (hq x List.mem_cons_self d h3)) h5⟩
/-- a later addition may come first -/
theorem QK.first {k : Fr → List Chunk → Prop} (hk : Inv k) {a : AdS} {da : Nat} (ha : a.2.1.dst = some da) : ∀ {qs : List (Nat × Oper)} {fr : Fr} {l : List Chunk}, flook fr da = none → (∀ x, x ∈ qs → x.2.dst ≠ some da) → QK P ro N R qs fr (fun fr' => AddK [a] fr' l k) → AddK [a] fr l (fun fr' l' => QK P ro N R qs fr' (fun fr2 => k fr2 l'))
  | [], _, _, _, _, h => h
  | x :: qs, fr, l, hn, hx, ⟨v, d, h1, h2, h3, h4, h5⟩ => by
    have hne : d ≠ da := fun e => hx x List.mem_cons_self (by rw [h3, e])
    intro u us hu
    show QK P ro N R (x :: qs) (putF a.2.1.dst u fr) _
    rw [ha]
    refine ⟨v, d, h1.le ?_, h2, h3, h4, ?_⟩
    · intro e w hw
      rw [flook_putF]
      split
      · rename_i e1; subst e1; rw [hn] at hw; cases hw
      · exact hw
    · have h6 := QK.first hk ha (fr := (d, v) :: fr) (by show flook (putF (some d) v fr) da = none; rw [flook_putF, if_neg hne]; exact hn) (fun y hy => hx y (List.mem_cons_of_mem _ hy)) h5 u us hu
      have h7 : QK P ro N R qs (putF a.2.1.dst u ((d, v) :: fr)) (fun fr2 => k fr2 (us ++ l)) := h6
      rw [ha] at h7
      exact QK.le (fun fr fr' h h' => hk _ _ _ _ h (.refl _) h') (put_swap (Ne.symm hne) u v fr) h7
def lateOk (ops : Array Oper) (tbl : List (List Nat)) (qs : List PlanOp) (a : PlanOp) (rest : List PlanOp) : List PlanOp → Bool
  | [] => pairsOk ops tbl none rest
  | x :: xs => x.1 != a.1 && pairsOk ops tbl (some (xs.map fun y => (y.1, a.1))) (xs ++ (qs ++ a :: rest)) && pairsOk ops tbl none (x :: xs ++ (qs ++ rest)) && lateOk ops tbl qs a rest xs
theorem swIn_late {a : PlanOp} {rest : List PlanOp} (xs : List AdS) : swIn (some (xs.map fun y => (y.1, a.1))) (xs.map plA ++ rest) = true := by
  show (xs.map fun y => (y.1, a.1)).all _ = true
  rw [List.all_eq_true]
  intro p hp
  obtain ⟨y, hy, rfl⟩ := List.mem_map.1 hp
  rw [List.any_eq_true]
  exact ⟨plA y, List.mem_append_left _ (List.mem_map_of_mem hy), by simp⟩
theorem AddK.snoc {a : AdS} {k : Fr → List Chunk → Prop} : ∀ {xs : List AdS} {fr : Fr} {l : List Chunk}, AddK xs fr l (fun fr' l' => AddK [a] fr' l' k) → AddK (xs ++ [a]) fr l k
  | [], _, _, h => h
  | x :: xs, _, _, h => fun v cs hv => AddK.snoc (h v cs hv)
theorem AddK.none' {fr0 : Fr} {da : Nat} : ∀ {xs : List AdS} {fr : Fr} {l : List Chunk} {k : Fr → List Chunk → Prop}, flook fr da = none → (∀ x, x ∈ xs → ∃ d, x.2.1.dst = some d ∧ d ≠ da) → AddK xs fr l k → AddK xs fr l (fun fr' l' => flook fr' da = none ∧ k fr' l')
  | [], _, _, _, h, _, hk => ⟨h, hk⟩
  | x :: xs, fr, l, k, h, hx, hk => fun v cs hv => by
    obtain ⟨d, hd, hne⟩ := hx x List.mem_cons_self
    exact AddK.none' (fr0 := fr0) (by rw [hd, flook_putF, if_neg hne]; exact h) (fun y hy => hx y (List.mem_cons_of_mem _ hy)) (hk v cs hv)
theorem pl_lateA {sp : Spec} {ds : List Deferred} {rest : List PlanOp} {qs : List (Nat × Oper)} {a : AdS} {fr0 : Fr} {l0 : List Chunk} (hR : ∀ c, c ∈ R → c ∈ l0) (hS : ∀ x, x ∈ sp → ∀ c, c ∈ x.2 → c ∈ l0) (ha : IsAd P ro N fr0 l0 a) {da : Nat} (hda : a.2.1.dst = some da) (hq : ∀ x, x ∈ qs → x.2.dst ≠ some da) (hqf : ∀ x, x ∈ qs → ∀ d, x.2.dst = some d → flook fr0 d = none) : ∀ (xs : List AdS) {fr : Fr} {l : List Chunk}, FLe fr0 fr → flook fr da = none → (∀ c, c ∈ l0 → c ∈ l) → (∀ x, x ∈ xs → IsAd P ro N fr0 l0 x) → ((xs ++ [a]).map fun x => x.2.1.dst).Nodup → lateOk ops tbl (qs.map plQ) (plA a) rest (xs.map plA) = true →
    AddK xs fr l (fun fr1 l1 => QK P ro N R qs fr1 fun fr2 => AddK [a] fr2 l1 (fun fr' l' => PlanS P ro N E ops Q R tbl none sp rest fr' ds l')) → PlanS P ro N E ops Q R tbl (some (xs.map fun x => (x.1, a.1))) sp (xs.map plA ++ (qs.map plQ ++ plA a :: rest)) fr ds l := by
  have hInv : Inv (fun fr' l' => PlanS P ro N E ops Q R tbl none sp rest fr' ds l') := fun fr fr' l l' h1 h2 h => pl_perm h2 (.weak h1 h)
  obtain ⟨da', hda', hba, hfa⟩ := ha.dst
  obtain rfl : da = da' := by rw [hda] at hda'; cases hda'; rfl
  have low : ∀ {fr : Fr} {d : Nat} {v : Value}, FLe fr0 fr → flook fr0 d = none → FLe fr0 (putF (some d) v fr) := fun {fr d v} h1 hd => h1.low hd
  intro xs
  induction xs with
  | nil =>
    intro fr l h1 h0 h2 hx hn hok hk
    refine QK.plan (QK.mono ?_ (QK.low hqf h1 hk))
    · rintro fr2 ⟨hl2, hk2⟩
      have ho := ha.law fr2 l hl2 h2
      refine .alt (fun _ => a.2.1) (fun _ v l2 => ∃ cs, a.2.2 v cs ∧ l2 = cs ++ l) (fun _ => rest) (fun _ => none) (fun j hj => ?_) (fun j hj => ⟨ho, by rw [ha.guard]; rfl, by rw [hda]; exact hba⟩) (fun j hj => ?_) fun j hj => ?_
      · rcases hj with rfl | ⟨h, _⟩
        · exact ⟨.refl _, hok, rfl⟩
        · simp [swOk] at h
      · rintro v l' ⟨cs, _, rfl⟩
        exact ⟨fun c hc => List.mem_append_right _ (h2 _ (hR c hc)), fun y hy _ c hc => List.mem_append_right _ (h2 _ (hS y hy c hc))⟩
      · rintro v l' ⟨cs, hv, rfl⟩; exact hk2 v cs hv
  | cons x xs ih =>
    intro fr l h1 h0 h2 hx hn hok hk
    have hI := hx x List.mem_cons_self
    obtain ⟨d, hd, hb, hfd⟩ := hI.dst
    simp only [List.map_cons, lateOk, Bool.and_eq_true, bne_iff_ne, ne_eq] at hok
    obtain ⟨⟨⟨hne, hp1⟩, hp2⟩, hok⟩ := hok
    have hcand : ∀ j, Cand tbl (some ((x :: xs).map fun x => (x.1, a.1))) x.1 (xs.map plA ++ (qs.map plQ ++ plA a :: rest)) j → j = x.1 ∨ j = a.1 := fun j hj => by
      rcases hj with h | ⟨h, _⟩
      · exact .inl h
      · simp only [swOk, List.contains_iff_mem, List.mem_map, Prod.mk.injEq] at h
        obtain ⟨y, _, _, h⟩ := h
        exact .inr h.symm
    have hna : ∀ y, y ∈ x :: xs → ∃ d, y.2.1.dst = some d ∧ d ≠ da := fun y hy => by
      obtain ⟨d', hd', _⟩ := (hx y hy).dst
      refine ⟨d', hd', fun e => ?_⟩
      rw [List.map_append, List.nodup_append] at hn
      exact hn.2.2 y.2.1.dst (List.mem_map.2 ⟨y, hy, rfl⟩) a.2.1.dst (List.mem_map.2 ⟨a, List.mem_cons_self, rfl⟩) (by rw [hd', hda, e])
    refine .alt (fun k => if k = x.1 then x.2.1 else a.2.1) (fun k v l2 => if k = x.1 then ∃ cs, x.2.2 v cs ∧ l2 = cs ++ l else ∃ cs, a.2.2 v cs ∧ l2 = cs ++ l) (fun k => if k = x.1 then xs.map plA ++ (qs.map plQ ++ plA a :: rest) else (x :: xs).map plA ++ (qs.map plQ ++ rest)) (fun k => if k = x.1 then some (xs.map fun x => (x.1, a.1)) else none) (fun k hk => ?_) (fun k hk => ?_) (fun k hk => ?_) fun k hk => ?_
    all_goals rcases hcand k hk with h | h
    · subst h; simp only [if_true]
      exact ⟨.refl _, by rw [List.map_map] at hp1; exact hp1, swIn_late (a := plA a) xs⟩
    · subst h; simp only [if_neg (Ne.symm hne)]
      refine ⟨?_, hp2, rfl⟩
      show (plA a :: ((x :: xs).map plA ++ (qs.map plQ ++ rest))).Perm ((x :: xs).map plA ++ (qs.map plQ ++ plA a :: rest))
      rw [← List.append_assoc, ← List.append_assoc]
      exact List.perm_middle.symm
    · subst h; simp only [if_true]; exact ⟨hI.law fr l h1 h2, by rw [hI.guard]; rfl, by rw [hd]; exact hb⟩
    · subst h; simp only [if_neg (Ne.symm hne)]; exact ⟨ha.law fr l h1 h2, by rw [ha.guard]; rfl, by rw [hda]; exact hba⟩
    · subst h; simp only [if_true]
      rintro v l' ⟨cs, _, rfl⟩
      exact ⟨fun c hc => List.mem_append_right _ (h2 _ (hR c hc)), fun y hy _ c hc => List.mem_append_right _ (h2 _ (hS y hy c hc))⟩
    · subst h; simp only [if_neg (Ne.symm hne)]
      rintro v l' ⟨cs, _, rfl⟩
      exact ⟨fun c hc => List.mem_append_right _ (h2 _ (hR c hc)), fun y hy _ c hc => List.mem_append_right _ (h2 _ (hS y hy c hc))⟩
    · subst h; simp only [if_true]
      rintro v l' ⟨cs, hv, rfl⟩
      rename_i hk0
      obtain ⟨d', hd', hne'⟩ := hna x List.mem_cons_self
      exact ih (by rw [hd]; exact low h1 hfd) (by rw [hd', flook_putF, if_neg hne']; exact h0) (fun c hc => List.mem_append_right _ (h2 c hc)) (fun y hy => hx y (List.mem_cons_of_mem _ hy)) (List.nodup_cons.1 hn).2 hok (hk0 v cs hv)
    · subst h; simp only [if_neg (Ne.symm hne)]
      rintro v l' ⟨cs, hv, rfl⟩
      rename_i hk0
      rw [List.map_append, List.nodup_append] at hn
      refine pl_seqA (x :: xs) (by rw [hda]; exact low h1 hfa) (fun c hc => List.mem_append_right _ (h2 c hc)) hx hn.1 (fun y hy d hd => by obtain ⟨d', hd', _, h⟩ := (hx y hy).dst; rw [hd] at hd'; cases hd'; exact h) hR hS ?_
      have h8 := AddK.mono (fun fr l h => QK.first hInv hda h.1 hq h.2) (AddK.none' (fr0 := fr0) h0 hna hk0)
      have hInv2 : Inv (fun fr' l' => QK P ro N R qs fr' fun fr2 => PlanS P ro N E ops Q R tbl none sp rest fr2 ds l') := fun fr fr' l l' h1 h2 h => QK.le (fun _ _ h h' => .weak h h') h1 (QK.mono (fun _ h => pl_perm h2 h) h)
      have h9 := AddK.first hInv2 hda hna (AddK.snoc h8) v cs hv
      exact AddK.mono (fun _ _ h => QK.plan h) h9
def AllAd (P : Program) (ro : Option Nat) (N : Nat) (fr : Fr) (l : List Chunk) : List AdS → Prop
  | [] => True
  | x :: xs => IsAd P ro N fr l x ∧ AllAd P ro N fr l xs
theorem AllAd.mem {fr : Fr} {l : List Chunk} : ∀ {xs : List AdS}, AllAd P ro N fr l xs → ∀ x, x ∈ xs → IsAd P ro N fr l x
  | [], _, x, hx => by cases hx
  | y :: ys, h, x, hx => by
    rcases List.mem_cons.1 hx with rfl | hx
    · exact h.1
    · exact AllAd.mem h.2 x hx
def ndB : List (Option Nat) → Bool
  | [] => true
  | x :: xs => !xs.contains x && ndB xs
theorem ndB_spec : ∀ {xs : List (Option Nat)}, ndB xs = true → xs.Nodup
  | [], _ => List.nodup_nil
  | x :: xs, h => by
    simp only [ndB, Bool.and_eq_true, Bool.not_eq_true', List.contains_eq_mem, decide_eq_false_iff_not] at h
    exact List.nodup_cons.2 ⟨h.1, ndB_spec h.2⟩
def lkNone (fr : Fr) : List (Option Nat) → Bool
  | [] => true
  | some d :: r => (flook fr d).isNone && lkNone fr r
  | none :: r => lkNone fr r
theorem lkNone_spec {fr : Fr} : ∀ {xs : List (Option Nat)}, lkNone fr xs = true → ∀ d, some d ∈ xs → flook fr d = none
  | [], _, d, h => by cases h
  | some e :: r, h, d, hd => by
    simp only [lkNone, Bool.and_eq_true, Option.isNone_iff_eq_none] at h
    rcases List.mem_cons.1 hd with h2 | h2
    · cases h2; exact h.1
    · exact lkNone_spec h.2 d h2
  | none :: r, h, d, hd => by
    rcases List.mem_cons.1 hd with h2 | h2
    · cases h2
    · exact lkNone_spec (xs := r) h d h2
/-- effects that add blocks, one behind the other (xs), quiet ones behind them (qs), and one (a) that may come at any place among them -/
theorem pl_late {sp : Spec} {ds : List Deferred} {rest pl : List PlanOp} {L : List (Nat × Nat)} {fr : Fr} {l : List Chunk} (xs : List AdS) (qs : List (Nat × Oper)) (a : AdS) (da : Nat) (hL : xs.map (fun x => (x.1, a.1)) = L) (hpl : xs.map plA ++ (qs.map plQ ++ plA a :: rest) = pl) (hda : a.2.1.dst = some da) (hR : ∀ c, c ∈ R → c ∈ l) (hS : ∀ x, x ∈ sp → ∀ c, c ∈ x.2 → c ∈ l) (hx : AllAd P ro N fr l xs) (ha : IsAd P ro N fr l a) (hn : ndB ((xs ++ [a]).map fun x => x.2.1.dst) = true) (hok : lateOk ops tbl (qs.map plQ) (plA a) rest (xs.map plA) = true)
    (hqd : (qs.all fun x => x.2.dst != some da) = true) (hqf : lkNone fr (some da :: qs.map fun x => x.2.dst) = true)
    (hk : AddK xs fr l (fun fr1 l1 => QK P ro N R qs fr1 fun fr2 => AddK [a] fr2 l1 (fun fr' l' => PlanS P ro N E ops Q R tbl none sp rest fr' ds l'))) : PlanS P ro N E ops Q R tbl (some L) sp pl fr ds l := by
  subst hL hpl
  exact pl_lateA hR hS ha hda (fun x hx => by simpa using List.all_eq_true.1 hqd x hx) (fun x hx d hd => lkNone_spec hqf d (List.mem_cons_of_mem _ (List.mem_map.2 ⟨x, hx, hd⟩))) xs (fun _ _ h => h) (lkNone_spec hqf da List.mem_cons_self) (fun _ h => h) hx.mem (ndB_spec hn) hok hk
variable {fr : Fr} {l : List Chunk} {i d : Nat} {ty : TypeId} {pos : String} {aft : Array Edge} {x : Operand}
theorem ad_call {f : Nat} {xs : List Operand} {vs : List Value} {at_ : Array TypeId} {K : Value → List Chunk → Prop} (hx : ev fr x = some (.func (.func f) #[] #[])) (hy : evs fr xs = some vs) [c : EN P f] (h : ∀ l', (∀ c, c ∈ l → c ∈ l') → Fn P f vs l' fun v l2 => ∃ cs, K v cs ∧ l2 = cs ++ l') (hb : Nat.blt d N = true) (hf : flook fr d = none) : IsAd P ro N fr l (i, ⟨some d, .call { callee := .value x, args := xs.toArray, argTypes := at_ }, ty, pos, aft, none⟩, K) :=
  ⟨fun l' h2 => e_call0 hx hy (h l' h2), rfl, d, rfl, hb, hf⟩
theorem ad_alloc {t : TypeId} {zs : List Value} [c : ZV P t zs] (hb : Nat.blt d N = true) (hf : flook fr d = none) : IsAd P ro N fr l (i, ⟨some d, .alloc t, ty, pos, aft, none⟩, fun v cs => ∃ b, v = .pointer (some ⟨b, 0, none⟩) ∧ cs = [(b, .cells zs.toArray t (0, 0))]) :=
  ⟨fun l' h2 => e_alloc.mono (by rintro v l2 ⟨b, _, h3, h4⟩; exact ⟨_, ⟨b, h3, rfl⟩, h4⟩), rfl, d, rfl, hb, hf⟩
end
end Go.Proofs.YtgafamgacpglcaaGreat


/- realm.View. -/
-- GU
set_option linter.unusedVariables false
set_option linter.unusedSimpArgs false
namespace Go.Proofs.YtgafamgacpglcaaGreat
open Go.RowKit
set_option maxRecDepth 20000
set_option pp.deepTerms false
set_option pp.deepTerms.threshold 4

abbrev rB (B b : Nat) : Chunk := (B, .cells #[pV b] 42 (0, 0))
theorem cells_any (b : Nat) (l : List Chunk) : Fn Tryz.prog 37 [pV b] l fun v l' => ∃ B, v = .func (.func 86) #[] #[pV B] ∧ l' = rB B b :: l := by
  refine fn_of_body Tryz.func37 rfl rfl fun E => ?_
  simp only [argF, Tryz.ntmps37]
  refine gzU ?_
  (first | refine t_e (e_box1 rfl rfl) rfl rfl rfl ?_ | refine t_e (e_boxA rfl) rfl rfl rfl ?_); rintro _ _ ⟨B, _, rfl, rfl⟩
  refine gzU ?_
  exact k_ret [] rfl .refl (by exact zRes) ⟨B, rfl, rfl⟩
theorem rng_take {n k : Nat} (h : k < n) : (List.range n).take (k + 1) = (List.range n).take k ++ [k] := by
  rw [List.take_range, List.take_range, Nat.min_eq_left (by omega), Nat.min_eq_left (by omega), List.range_succ]
theorem cells_iter (B b : Nat) (p : RP) (bv C cap : Nat) (hC : C ≤ 100) (hv : p.v = .slice (some ⟨bv, 0, none⟩) C cap) :
    IterS Tryz.prog 86 [pV B] (fun i : Nat => [.int .i64 i, .pointer (some ⟨bv, i * 1, none⟩)]) (fun xs => xs = List.range C) (fun pre => pre <+: List.range C) (fun _ l => rB B b ∈ l ∧ rlC b p ∈ l) := by
  refine ⟨fun r I Ix G0 hneed hY l G hG h0 => ?_⟩
  obtain ⟨n1, n2⟩ := hneed _ _ G hG h0
  simp only [rlC, hv] at hneed n2
  refine fn_of_body Tryz.func86 rfl rfl fun E => ?_
  simp only [argF, Tryz.ntmps86]
  refine gzU ?_
  refine k_loop (α := Nat × List Chunk) (fun x => [(0, .func (.yield r) #[] #[]), (1, pV B), (10, .int .i64 C), (11, .int .i64 x.1)]) (fun x => x.2 ++ G) (fun x => x.1 ≤ C ∧ I ((List.range C).take x.1) x.2) (fun x => C - x.1) (0, l) ⟨Nat.zero_le _, h0⟩ ⟨rfl, rfl, rfl, rfl, trivial⟩ .refl ?_
  clear n1 n2
  rintro ⟨k, l⟩ ⟨hk, hI⟩
  simp only at hk hI ⊢
  obtain ⟨n1, n2⟩ := hneed _ _ G hG hI
  by_cases hlt : k < C
  · refine gzU ?_
    have hy := hY ((List.range C).take k) k l G hG hI (by rw [← rng_take hlt]; exact List.take_prefix _ _)
    refine t_e (e_yield rfl rfl hy) rfl rfl rfl ?_
    rintro v l' ⟨l1, rfl, ⟨rfl, hI'⟩ | ⟨rfl, hx⟩⟩
    · refine gzU ?_
      exact k_next (k + 1, l1) ⟨by simp only; omega, by simp only; rw [rng_take hlt]; exact hI'⟩ (by simp only; omega) ⟨rfl, rfl, rfl, rfl, trivial⟩ .refl
    · refine gzU ?_
      exact k_ret [] rfl .refl (by exact zRes) ⟨l1, rfl, .inr ⟨_, by rw [← rng_take hlt]; exact List.take_prefix _ _, hx⟩⟩
  · obtain rfl : k = C := by omega
    rw [List.take_of_length_le (by simp)] at hI
    refine gzU ?_
    exact k_ret [] rfl .refl (by exact zRes) ⟨l, rfl, .inl ⟨_, rfl, hI⟩⟩
end Go.Proofs.YtgafamgacpglcaaGreat


/- realm.View: all that is kept, in one value. -/
-- GU
set_option linter.unusedVariables false
set_option linter.unusedSimpArgs false
namespace Go.Proofs.YtgafamgacpglcaaGreat
open Go.RowKit
set_option maxRecDepth 20000
set_option pp.deepTerms false
set_option pp.deepTerms.threshold 4

theorem LSet.mid : ∀ (A C : List Value) (x v : Value) {k : Nat}, A.length = k → LSet (A ++ x :: C) k v (A ++ v :: C)
  | [], C, x, v, _, h => by subst h; exact .zero
  | a :: A, C, x, v, _, h => by subst h; exact .succ (LSet.mid A C x v rfl)
theorem LGet.mid : ∀ (A C : List Value) (v : Value) {k : Nat}, A.length = k → LGet (A ++ v :: C) k v
  | [], C, v, _, h => by subst h; exact .zero
  | a :: A, C, v, _, h => by subst h; exact .succ (LGet.mid A C v rfl)
theorem LSetA.all : ∀ (B vs C : List Value), B.length = vs.length → LSetA (B ++ C) 0 vs (vs ++ C)
  | [], [], C, _ => .done
  | b :: B, v :: vs, C, h => .put (LSetA.all B vs C (by simpa using h))
  | [], v :: vs, C, h => by cases h
  | b :: B, [], C, h => by cases h
theorem LSetA.mid : ∀ (A B vs C : List Value) {k : Nat}, A.length = k → B.length = vs.length → LSetA (A ++ (B ++ C)) k vs (A ++ (vs ++ C))
  | [], B, vs, C, _, h, h2 => by subst h; exact LSetA.all B vs C h2
  | a :: A, B, vs, C, _, h, h2 => by subst h; exact .skip (LSetA.mid A B vs C rfl h2)
def plc (N : As.ASt) : List Value := (List.range 80).map N.at
theorem plc_len (N : As.ASt) : (plc N).length = 80 := by simp [plc]
theorem plc_cells (N : As.ASt) : N.cells.extract 0 80 = List.toArray (plc N) := by
  apply Array.ext_getElem?
  intro j
  rw [Array.getElem?_extract]
  unfold plc
  simp only [As.ASt.cells_size, List.getElem?_toArray, List.getElem?_map]
  by_cases h : j < 80
  · rw [if_pos (by omega), Nat.zero_add, As.ASt.cells_get N j (by omega), List.getElem?_range h]; rfl
  · rw [if_neg (by omega), List.getElem?_eq_none (by simp; omega)]; rfl
theorem plc_one (N : As.ASt) : ∀ v, v ∈ plc N → v.oneCell' = true := by
  intro v hv
  obtain ⟨j, hj, rfl⟩ := List.mem_map.1 hv
  unfold As.ASt.at
  repeat' split
  all_goals rfl
/-- a view's slices and their blocks -/
structure VwL where
  vo : Value
  vc : Value
  vt : Value
  vh : Value
  vr : Value
  vq : Value
  co : List Chunk
  cc : List Chunk
  ct : List Chunk
  ch : List Chunk
  cr : List Chunk
  cq : List Chunk
abbrev vwV (vo vc vt vh : Value) (N : As.ASt) (vr vq : Value) : List Value := vo :: vc :: vt :: vh :: (plc N ++ [vr, vq])
def quL (X : Nat → List Int) : List Int := Qu.allX X (Qu.fallT (Qu.neX X) 0)
structure IsVw (C : Nat) (R : RT) (x : VwL) : Prop where
  o : OwnSl 156 9 x.vo R.A.os.length (Ar.ocs R.A.os) x.co
  c : OwnSl 119 10 x.vc (usedD R.H.1).length (hcs (usedD R.H.1)) x.cc
  t : OwnSl 192 3 x.vt R.H.2.length (Tr.ncs R.H.2) x.ct
  h : OwnSl 75 24 x.vh R.T.length (Th.thcs R.T) x.ch
  r : OwnSl 3 1 x.vr C (List.replicate C (.int .i64 0)) x.cr
  q : OwnSl 3 1 x.vq (quL R.Q).length ((quL R.Q).map intQ) x.cq
abbrev vwC (B : Nat) (vo vc vt vh : Value) (N : As.ASt) (vr vq : Value) : Chunk := (B, .cells (List.toArray (vwV vo vc vt vh N vr vq)) 32 (0, 0))
def z80 : List Value := [.int .i64 0, .bool false, .int .i64 0, .int .i64 0, .int .i64 0, .int .i64 0, .int .i64 0, .int .i64 0, .int .i64 0, .int .i64 0]
def z80n : List Value := z80 ++ (z80 ++ (z80 ++ (z80 ++ (z80 ++ (z80 ++ (z80 ++ z80))))))
abbrev nilS : Value := .slice none 0 0
theorem vw_build {vo vc vt vh vq : Value} (N : As.ASt) (h1 : vo.oneCell' = true) (h2 : vc.oneCell' = true) (h3 : vt.oneCell' = true) (h4 : vh.oneCell' = true) (h5 : vq.oneCell' = true) : BuildS Tryz.prog 32 (nilS :: nilS :: nilS :: nilS :: (z80n ++ [nilS, nilS])) [(0, vo), (1, vc), (2, vt), (3, vh), (4, .agg (List.toArray (plc N))), (6, vq)] (vwV vo vc vt vh N nilS vq) := by
  refine .one inferInstance inferInstance h1 .zero (.one inferInstance inferInstance h2 (.succ .zero) (.one inferInstance inferInstance h3 (.succ (.succ .zero)) (.one inferInstance inferInstance h4 (.succ (.succ (.succ .zero))) (.agg inferInstance inferInstance (plc_len N) (LSetA.mid [vo, vc, vt, vh] z80n (plc N) [nilS, nilS] rfl (plc_len N).symm) (.one inferInstance inferInstance h5 ?_ .nil)))))
  have := LSet.mid (vo :: vc :: vt :: vh :: (plc N ++ [nilS])) [] nilS vq (k := 85) (by simp [plc_len])
  simpa [vwV] using this

theorem kv1 (m v rb z : Chunk) (cr cq ch ct cc co L : List Chunk) : Keep (m :: v :: (cr ++ rb :: (cq ++ (ch ++ (ct ++ (cc ++ (co ++ z :: L))))))) (z :: v :: m :: (co ++ (cc ++ (ct ++ (ch ++ (cr ++ (cq ++ L))))))) := keep_ac [rb]
theorem kv2 (m v z : Chunk) (L : List Chunk) : Keep (z :: v :: m :: L) ([m] ++ (z :: L)) := keep_ac [v]
set_option maxHeartbeats 4000000 in
theorem view_any (F C n : Nat) (R : RT) (b : Nat) (p : RP) (s : RL) (hR : IsRl F C n R p s) (hn : n ≤ 900) (hT : R.T.length ≤ 900000) (G : List Chunk) : Fn Tryz.prog 11 [pV b] (allL b p s R G) fun v l' =>
    ∃ x : VwL, v = .agg (List.toArray (vwV x.vo x.vc x.vt x.vh R.N x.vr x.vq)) ∧ IsVw C R x ∧ l' = x.co ++ (x.cc ++ (x.ct ++ (x.ch ++ (x.cr ++ (x.cq ++ allL b p s R G))))) := by
  obtain ⟨L, hL⟩ : ∃ L, L = allL b p s R G := ⟨_, rfl⟩
  have hmr : rlC b p ∈ L := by rw [hL]; exact .head _
  have hmn : As.asA p.n R.N ∈ L := by rw [hL]; exact .tail _ (.head _)
  have hma : ∀ c, c ∈ s.A → c ∈ L := fun c hc => by rw [hL]; unfold allL; simp [hc]
  have hmh : ∀ c, c ∈ s.H → c ∈ L := fun c hc => by rw [hL]; unfold allL; simp [hc]
  have hmt : ∀ c, c ∈ s.T → c ∈ L := fun c hc => by rw [hL]; unfold allL; simp [hc]
  have hmq : ∀ c, c ∈ s.Q → c ∈ L := fun c hc => by rw [hL]; unfold allL; simp [hc]
  have hmv : ∀ c, c ∈ s.V → c ∈ L := fun c hc => by rw [hL]; unfold allL; simp [hc]
  rw [← hL]
  obtain ⟨hs1, hs2, _⟩ := hR.inv.small (by omega)
  refine fn_of_body Tryz.func11 rfl rfl fun E => ?_
  simp only [argF, Tryz.ntmps11]
  refine gzU ?_
  refine t_e e_alloc rfl rfl rfl ?_; rintro _ _ ⟨b2, _, rfl, rfl⟩
  refine gzU ?_
  have hsub : ∀ (c : Chunk), c ∈ [rlC b p] → c ∈ (b2, Obj.cells (List.toArray (nilS :: nilS :: nilS :: nilS :: (z80n ++ [nilS, nilS]))) 32 (0, 0)) :: L := fun c hc => by rw [List.mem_singleton.1 hc]; exact .tail _ hmr
  refine c_drawL [(0, true), (1, true), (2, true), (3, true), (5, true), (6, true), (7, true), (8, true), (10, true), (11, true), (12, true), (13, true), (15, true), (16, true), (17, true), (18, true), (20, true), (21, true), (22, true), (23, true), (25, true), (26, true), (27, true), (28, true), (4, false), (9, false), (14, false), (19, false), (24, false), (29, false), (30, true), (31, false), (32, false)] [[], [0], [0, 1], [0, 1, 2], [0, 1, 2, 3], [], [5], [5, 6], [5, 6, 7], [0, 1, 2, 3, 4, 5, 6, 7, 8], [], [10], [10, 11], [10, 11, 12], [0, 1, 2, 3, 4, 5, 6, 7, 8, 9, 10, 11, 12, 13], [], [15], [15, 16], [15, 16, 17], [0, 1, 2, 3, 4, 5, 6, 7, 8, 9, 10, 11, 12, 13, 14, 15, 16, 17, 18], [], [20], [20, 21], [20, 21, 22], [0, 1, 2, 3, 4, 5, 6, 7, 8, 9, 10, 11, 12, 13, 14, 15, 16, 17, 18, 19, 20, 21, 22, 23], [], [25], [25, 26], [25, 26, 27], [0, 1, 2, 3, 4, 5, 6, 7, 8, 9, 10, 11, 12, 13, 14, 15, 16, 17, 18, 19, 20, 21, 22, 23, 24, 25, 26, 27, 28], [0, 1, 2, 3, 4, 5, 6, 7, 8, 9, 10, 11, 12, 13, 14, 15, 16, 17, 18, 19, 20, 21, 22, 23, 24, 25, 26, 27, 28, 29], [], [0, 1, 2, 3, 4, 5, 6, 7, 8, 9, 10, 11, 12, 13, 14, 15, 16, 17, 18, 19, 20, 21, 22, 23, 24, 25, 26, 27, 28, 29, 30, 31]] (some [(4, 31), (9, 31), (14, 31), (19, 31), (24, 31), (29, 31)]) ([rlC b p]) (by kernel_rfl) (by kernel_rfl) zAtt (hsub) ?_
  refine pzU ?_
  refine pl_late [(4, _, fun v cs => OwnSl 156 9 v R.A.os.length (Ar.ocs R.A.os) cs), (9, _, fun v cs => OwnSl 119 10 v (usedD R.H.1).length (hcs (usedD R.H.1)) cs), (14, _, fun v cs => OwnSl 192 3 v R.H.2.length (Tr.ncs R.H.2) cs), (19, _, fun v cs => OwnSl 75 24 v R.T.length (Th.thcs R.T) cs), (24, _, fun v cs => v = .agg (List.toArray (plc R.N)) ∧ cs = []), (29, _, fun v cs => OwnSl 3 1 v (quL R.Q).length ((quL R.Q).map intQ) cs)] [(30, _)] (31, _, fun v cs => ∃ b, v = .pointer (some ⟨b, 0, none⟩) ∧ cs = [(b, .cells (List.toArray (nilS :: nilS :: nilS :: nilS :: (z80n ++ [nilS, nilS]))) 32 (0, 0))]) 3 rfl rfl rfl hsub (fun _ h => by cases h) ⟨ad_call rfl rfl (fun l' hl => Ar.all_any p.a R.A s.A hR.ar l' fun c hc => hl _ (.tail _ (hma c hc))) rfl rfl, ad_call rfl rfl (fun l' hl => hused_any p.h R.H s.H hR.ho hs1 l' fun c hc => hl _ (.tail _ (hmh c hc))) rfl rfl, ad_call rfl rfl (fun l' hl => htree_any p.h R.H s.H hR.ho hs2 l' fun c hc => hl _ (.tail _ (hmh c hc))) rfl rfl, ad_call rfl rfl (fun l' hl => Th.all_any p.t R.T s.T hR.th hT l' fun c hc => hl _ (.tail _ (hmt c hc))) rfl rfl, ad_call rfl rfl (fun l' hl => (As.pools_any p.n R.N (plc R.N) (plc_cells R.N) (plc_len R.N) (plc_one R.N) l' (hl _ (.tail _ hmn))).mono fun v l2 h => ⟨[], ⟨h.1, rfl⟩, h.2⟩) rfl rfl, ad_call rfl rfl (fun l' hl => Qu.all_any p.q R.Q s.Q hR.qu (fun j hj => by have := hR.ql j hj; omega) l' fun c hc => hl _ (.tail _ (hmq c hc))) rfl rfl, trivial⟩ (ad_alloc rfl rfl) (by kernel_rfl) (by kernel_rfl) rfl rfl ?_
  intro vo co ho vc cc hc vt ct ht vh ch hh vp cp hp vq cq hq
  obtain ⟨rfl, rfl⟩ := hp
  refine ⟨_, _, q_build rfl (vw_build R.N ho.one hc.one ht.one hh.one hq.one), rfl, rfl, rfl, ?_⟩
  rintro v3 c3 ⟨b3, rfl, rfl⟩
  simp only [putF, AddK]
  simp only at ho hc ht hh hq
  apply pl_n
  · refine e_storeA (cs := List.toArray (nilS :: nilS :: nilS :: nilS :: (z80n ++ [nilS, nilS]))) (T := 32) (l' := vwC b3 vo vc vt vh R.N nilS vq :: (cq ++ (ch ++ (ct ++ (cc ++ (co ++ (b2, Obj.cells (List.toArray (nilS :: nilS :: nilS :: nilS :: (z80n ++ [nilS, nilS]))) 32 (0, 0)) :: L)))))) rfl rfl ?_ ?_ ?_ ?_
    · show (vwV vo vc vt vh R.N nilS vq).length = 86
      simp [plc_len]
    · intro v hv
      simp only [List.toList_toArray, List.mem_cons, List.mem_append, List.not_mem_nil, or_false] at hv
      rcases hv with rfl | rfl | rfl | rfl | hv | rfl | rfl
      · exact ho.one
      · exact hc.one
      · exact ht.one
      · exact hh.one
      · exact plc_one _ v hv
      · rfl
      · exact hq.one
    · rw [List.toList_toArray, As.setFrom_all _ _ (by simp [plc_len]; rfl)]
      exact .here
    · show 0 + 86 ≤ (nilS :: nilS :: nilS :: nilS :: (z80n ++ [nilS, nilS])).length
      decide
  · rfl
  · rfl
  · rintro _ _ ⟨_, rfl⟩ c hc; rw [List.mem_singleton.1 hc]; simp [hmr]
  rintro _ _ ⟨rfl, rfl⟩
  refine pzU ?_
  refine gzU ?_
  refine t_e (e_call0 rfl rfl (cells_any b _)) rfl rfl rfl ?_
  rintro _ _ ⟨B, rfl, rfl⟩
  refine gzU ?_
  obtain ⟨gL, hgl⟩ : ∃ gL, gL = cq ++ (ch ++ (ct ++ (cc ++ (co ++ (b2, Obj.cells (List.toArray (nilS :: nilS :: nilS :: nilS :: (z80n ++ [nilS, nilS]))) 32 (0, 0)) :: L)))) := ⟨_, rfl⟩
  have hLg : ∀ c, c ∈ L → c ∈ gL := fun c hc => by rw [hgl]; simp [hc]
  rw [← hgl]
  have hC1 := hR.c1
  rcases hR.cu.2 with ⟨_, h0, _⟩ | ⟨bv, cap, sp, hv, hV, _⟩
  · omega
  have hmB : ∀ c, c ∈ [rB B b, rlC b p] → c ∈ rB B b :: gL := fun c hc => by
    rcases List.mem_cons.1 hc with rfl | hc
    · exact .head _
    · rw [List.mem_singleton.1 hc]; exact .tail _ (hLg _ hmr)
  have hmc : (bv, Obj.cells (List.toArray (List.replicate C (.int .i64 0) ++ sp)) 3 (0, 0)) ∈ L := hmv _ (by rw [hV]; exact .head _)
  have h84 : ∀ (N : As.ASt), (vo :: vc :: vt :: vh :: plc N).length = 84 := fun N => by simp [plc_len]
  refine c_range (α := Nat) (ps := [42, 43]) (lb := [pV B]) rfl (cells_iter B b p bv C cap (by omega) hv) (fun _ => rfl) rfl
    (fun pre l => ∃ vr cr, OwnSl 3 1 vr pre.length (List.replicate pre.length (.int .i64 0)) cr ∧ l = vwC b3 vo vc vt vh R.N vr vq :: cr) (fun c pre l => False) [vwC b3 vo vc vt vh R.N nilS vq] (rB B b :: gL)
    (fun pre l2 X2 hX h => ⟨List.mem_append_right _ (hX _ (.head _)), List.mem_append_right _ (hX _ (.tail _ (hLg _ hmr)))⟩) (.of_perm (.swap _ _ _)) ⟨_, [], OwnSl.nil _ _, rfl⟩ ?_ ?_ ?_
  · rintro E r0 rec pre k l' T ⟨fn, tmps, D, rfl⟩ hT ⟨vr, cr, hown, rfl⟩ hsp
    have hk : k < C ∧ pre.length ≤ C := by
      have h1 := hsp.length_le
      have h2 : k ∈ List.range C := hsp.subset (List.mem_append_right _ (.head _))
      simp only [List.length_append, List.length_cons, List.length_nil, List.length_range] at h1
      exact ⟨List.mem_range.1 h2, by omega⟩
    have hv1 : vr.oneCell' = true := hown.one
    simp only [putPs, List.cons_append, List.nil_append]
    refine gzU ?_
    refine p_begin (.there (upd_mid _ _ _ _ _)) ?_
    generalize hX1 : (r0, Obj.loop (recOf fn tmps _ _ _ D .busy none)) :: T = X1
    have hmX : (bv, Obj.cells (List.toArray (List.replicate C (.int .i64 0) ++ sp)) 3 (0, 0)) ∈ X1 := by rw [← hX1]; exact .tail _ (hT _ (.tail _ (hLg _ hmc)))
    refine gzU ?_
    refine c_draw [(0, true), (1, true), (2, true), (3, true), (4, true), (5, false), (6, false), (7, true), (8, false)] [[], [0], [], [2], [2, 3], [2, 3, 4], [0, 1, 2, 3, 4, 5], [0, 1, 2, 3, 4, 5, 6], [0, 1, 2, 3, 4, 5, 6, 7]] ([]) (by kernel_rfl) (by kernel_rfl) zAtt zHR ?_
    refine pzU ?_
    apply pl_s (S := [vwC b3 vo vc vt vh R.N vr vq])
    · exact q_load rfl (.head _) (cell_get (LGet.mid (vo :: vc :: vt :: vh :: plc R.N) [vq] vr (h84 _)))
    · exact sing_mem (.head _)
    · rfl
    · rfl
    · rfl
    refine pzU ?_
    apply pl_s (S := [(bv, Obj.cells (List.toArray (List.replicate C (.int .i64 0) ++ sp)) 3 (0, 0))])
    · exact q_load (v := .int .i64 0) rfl (.head _) (by rw [List.getElem?_toArray, List.getElem?_append_left (by simp; omega), List.getElem?_replicate, if_pos (by omega)])
    · exact sing_mem (.tail _ (List.mem_append_right _ hmX))
    · rfl
    · rfl
    · rfl
    refine pzU ?_
    apply pl_eS
    · exact e_lit1 (v := .int .i64 0) rfl rfl
    · rfl
    · rfl
    · rfl
    · intro _ _ _ c hc; cases hc
    · rintro _ _ ⟨bl, _, rfl, rfl⟩ x hx _ c hc
      simp only [List.mem_cons, List.not_mem_nil, or_false] at hx
      rcases hx with rfl | rfl <;> simp only [List.mem_cons, List.not_mem_nil, or_false] at hc <;> subst hc
      · exact .tail _ (.tail _ (List.mem_append_right _ hmX))
      · exact .tail _ (.head _)
    rintro _ _ ⟨bl, _, rfl, rfl⟩
    refine pzU ?_
    apply pl_eS
    · apply e_appX (k := 1) (X := [vwC b3 vo vc vt vh R.N vr vq]) (cs := cr) (xs := List.replicate pre.length (.int .i64 0)) (n := pre.length) (zs := [.int .i64 0]) (ws := [.int .i64 0])
      · rfl
      · rfl
      · rfl
      · exact hown
      · rfl
      · simp [Value.oneCell']
      · omega
      · decide
    · rfl
    · rfl
    · rfl
    · intro _ _ _ c hc; cases hc
    · exact fun _ _ _ x hx ha => anc_all (by kernel_rfl) hx ha
    rintro v' _ ⟨c2, ho2, rfl⟩
    have hv1 : v'.oneCell' = true := ho2.one
    simp only [List.cons_append, List.nil_append]
    refine pzU ?_
    apply pl_nS
    · apply e_storeL (cs := vwV vo vc vt vh R.N vr vq) (cs' := vwV vo vc vt vh R.N v' vq)
      · rfl
      · rfl
      · exact hv1
      · exact .head _
      · exact LSet.mid (vo :: vc :: vt :: vh :: plc R.N) [vq] vr v' (h84 _)
      · exact .here
    · rfl
    · rfl
    · intro _ _ _ c hc; cases hc
    · exact fun _ _ _ x hx ha => anc_all (by kernel_rfl) hx ha
    rintro _ _ ⟨rfl, rfl⟩
    refine pzU ?_
    refine gzU ?_
    rw [← hX1]
    refine p_round _ (.refl) ⟨v', c2, ?_, rfl⟩
    rw [List.length_append, List.length_singleton, List.replicate_succ']
    exact ho2
  · rintro D xs l' rfl ⟨vr, cr, hown, rfl⟩
    rw [List.length_range] at hown
    have hv1 : vr.oneCell' = true := hown.one
    refine gzU ?_
    have hlv : (vwV vo vc vt vh R.N vr vq).length = 86 := by simp [plc_len]
    refine t_q (q_loadL rfl (.tail _ (.head _)) (As.LSub.of_all (n := 86) _ hlv)) rfl rfl rfl ?_
    rw [hgl]
    refine s_keep (kv1 ..) ?_
    apply t_n
    · refine e_storeA (cs := List.toArray (nilS :: nilS :: nilS :: nilS :: (z80n ++ [nilS, nilS]))) (T := 32) (l' := vwC b2 vo vc vt vh R.N vr vq :: vwC b3 vo vc vt vh R.N vr vq :: markC D :: (co ++ (cc ++ (ct ++ (ch ++ (cr ++ (cq ++ L))))))) rfl rfl hlv ?_ ?_ ?_
      · intro v hv
        simp only [List.toList_toArray, List.mem_cons, List.mem_append, List.not_mem_nil, or_false] at hv
        rcases hv with rfl | rfl | rfl | rfl | hv | rfl | rfl
        · exact ho.one
        · exact hc.one
        · exact ht.one
        · exact hh.one
        · exact plc_one _ v hv
        · exact hv1
        · exact hq.one
      · rw [List.toList_toArray, As.setFrom_all _ _ (by simp [plc_len]; rfl)]
        exact .here
      · show 0 + 86 ≤ (nilS :: nilS :: nilS :: nilS :: (z80n ++ [nilS, nilS])).length
        decide
    · rfl
    · rfl
    rintro _ _ ⟨rfl, rfl⟩
    refine gzU ?_
    exact k_ret2 [D] (vwC b2 vo vc vt vh R.N vr vq :: (co ++ (cc ++ (ct ++ (ch ++ (cr ++ (cq ++ L))))))) rfl (kv2 ..) (rs_cellA rfl (.head _) (As.LSub.of_all (n := 86) _ hlv) .nil) (.drop .refl) ⟨⟨vo, vc, vt, vh, vr, vq, co, cc, ct, ch, cr, cq⟩, rfl, ⟨ho, hc, ht, hh, hown, hq⟩, rfl⟩
  · rintro D c pre l' hsp h
    exact h.elim
end Go.Proofs.YtgafamgacpglcaaGreat


/- Which threads are apart: the plain law. A view's parts as plain data; what threads reach and lean on; when two groups are apart. No program's. -/
set_option linter.unusedVariables false
set_option linter.unusedSimpArgs false
namespace Go.Proofs.YtgafamgacpglcaaGreat.Pt

/-- what part asks of a view: objects (id, kind, serial), capabilities (slot; kind, object, rights, serial), the tree (slot, depth), threads (id, caller, wait), pools (object; roots and serials) -/
structure VD where
  os : List (Int × Int × Int)
  cs : List ((Int × Int) × Int × Int × Int × Int)
  tr : List ((Int × Int) × Int)
  ts : List (Int × Int × Int)
  ps : List (Int × List (Int × Int))
deriving DecidableEq
abbrev HD := (Int × Int) × Int × Int × Int × Int
abbrev HD.slot (h : HD) : Int × Int := h.1
abbrev HD.kind (h : HD) : Int := h.2.1
abbrev HD.obj (h : HD) : Int := h.2.2.1
abbrev HD.rights (h : HD) : Int := h.2.2.2.1
abbrev HD.serial (h : HD) : Int := h.2.2.2.2
def kn (V : VD) (id k : Int) : Bool := match V.os.find? (fun o => decide (o.1 = id)) with
  | some o => decide (k = 0) || decide (o.2.1 = k)
  | none => false
/-- does a held capability lead on? -/
def leads (V : VD) (h : HD) : Bool := decide (h.kind = 7) || decide (h.kind ≠ 0) && kn V h.obj 0
def fromP (V : VD) (id : Int) : List Int := (V.cs.filter fun h => decide (h.slot.1 = id) && leads V h).map HD.obj
def goes (V : VD) (id : Int) : Bool := kn V id 2 || kn V id 9
inductive Rch (V : VD) (ts : List Int) : Int → Prop
  | th {t : Int} : t ∈ ts → kn V t 9 = true → Rch V ts t
  | go {y x : Int} : Rch V ts y → goes V y = true → x ∈ fromP V y → Rch V ts x
theorem Rch.mono {V : VD} {xs ys : List Int} (h : ∀ x, x ∈ xs → x ∈ ys) {x : Int} (r : Rch V xs x) : Rch V ys x := by
  induction r with
  | th h1 h2 => exact .th (h _ h1) h2
  | go _ h2 h3 ih => exact .go ih h2 h3
/-- a closed set that has the threads has all that is reached -/
theorem Rch.least {V : VD} {ts : List Int} {S : Int → Prop} (h1 : ∀ t, t ∈ ts → kn V t 9 = true → S t) (h2 : ∀ y x, S y → goes V y = true → x ∈ fromP V y → S x) {x : Int} (r : Rch V ts x) : S x := by
  induction r with
  | th k1 k2 => exact h1 _ k1 k2
  | go _ k2 k3 ih => exact h2 _ _ ih k2 k3
/-- a number's pair stands in a pool, with a reached root -/
def Root (V : VD) (A : Int → Prop) (p : Int × List (Int × Int)) (s : Int) : Prop := p ∈ V.ps ∧ ∃ r, (r, s) ∈ p.2 ∧ r ≠ 0 ∧ A r ∧ kn V r 5 = true
def Spc (V : VD) (A : Int → Prop) (s : Int) : Prop := s ≠ 0 ∧ ∃ p, Root V A p s
def Pol (V : VD) (A : Int → Prop) (o : Int) : Prop := o ≠ 0 ∧ ∃ p s, Root V A p s ∧ o = p.1
def LnA (V : VD) (A : Int → Prop) (x : Int) : Prop :=
  A x ∨ Pol V A x ∨ (∃ o, o ∈ V.os ∧ o.2.1 = 4 ∧ Spc V A o.2.2 ∧ x = o.1) ∨ (∃ t, t ∈ V.ts ∧ A t.2.1 ∧ kn V t.2.1 9 = true ∧ x = t.1) ∨ (∃ t, t ∈ V.ts ∧ A t.1 ∧ x ≠ 0 ∧ (x = t.2.2 ∨ x = t.2.1))
def Lns (V : VD) (ts : List Int) : Int → Prop := LnA V (Rch V ts)
theorem LnA.mono {V : VD} {A B : Int → Prop} (h : ∀ x, A x → B x) {x : Int} (r : LnA V A x) : LnA V B x := by
  have hr : ∀ p s, Root V A p s → Root V B p s := fun p s ⟨h1, r, h2, h3, h4, h5⟩ => ⟨h1, r, h2, h3, h _ h4, h5⟩
  rcases r with r | ⟨h0, p, s, hp, e⟩ | ⟨o, h1, h2, ⟨h0, p, hp⟩, h4⟩ | ⟨t, h1, h2, h3, h4⟩ | ⟨t, h1, h2, h3⟩
  · exact .inl (h _ r)
  · exact .inr (.inl ⟨h0, p, s, hr _ _ hp, e⟩)
  · exact .inr (.inr (.inl ⟨o, h1, h2, ⟨h0, p, hr _ _ hp⟩, h4⟩))
  · exact .inr (.inr (.inr (.inl ⟨t, h1, h _ h2, h3, h4⟩)))
  · exact .inr (.inr (.inr (.inr ⟨t, h1, h _ h2, h3⟩)))
theorem Lns.mono {V : VD} {xs ys : List Int} (h : ∀ x, x ∈ xs → x ∈ ys) {x : Int} (r : Lns V xs x) : Lns V ys x := LnA.mono (fun _ => Rch.mono h) r
/-- a group's slots, and its maps -/
def Slt (V : VD) (ts : List Int) (s : Int × Int) : Prop := ∃ h, h ∈ V.cs ∧ Rch V ts h.1.1 ∧ s = h.1
def Mps (V : VD) (ts : List Int) (s : Int × Int) : Prop := ∃ h : HD, h ∈ V.cs ∧ h.kind = 3 ∧ Spc V (Rch V ts) h.serial ∧ s = h.1
def Nds (V : VD) (ts : List Int) (h : HD) : Prop := if h.kind = 7 then Lns V ts 0 else h.kind ≠ 0 ∧ Lns V ts h.obj ∧ kn V h.obj 3 = false
def Disj (V : VD) (xs ys : List Int) : Prop := ∀ x, Lns V xs x → Lns V ys x → kn V x 3 = true
/-- a frame's capability that a group has, or has mapped -/
def Use (V : VD) (ts : List Int) (f : Int) (h : HD) : Prop := h ∈ V.cs ∧ h.kind = 3 ∧ h.obj = f ∧ (Slt V ts h.1 ∨ Mps V ts h.1)
def Wrt (V : VD) (wr : HD → Bool) (xs ys : List Int) : Prop := ∃ f, kn V f 3 = true ∧ (∃ h, Use V xs f h) ∧ (∃ h, Use V ys f h) ∧ ∃ h, (Use V xs f h ∨ Use V ys f h) ∧ wr h = true
/-- slots below a group's slots -/
def Und (V : VD) (ts : List Int) (s : Int × Int) : Prop := ∃ (i j : Nat) (n : (Int × Int) × Int), V.tr[i]? = some n ∧ Slt V ts n.1 ∧ i < j ∧ (∃ m : (Int × Int) × Int, V.tr[j]? = some m ∧ m.1 = s) ∧ ∀ (k : Nat) (m : (Int × Int) × Int), i < k → k ≤ j → V.tr[k]? = some m → n.2 < m.2
def Abv (V : VD) (xs ys : List Int) : Prop := ∃ h, h ∈ V.cs ∧ ((Slt V xs h.1 ∧ (Mps V ys h.1 ∨ Nds V ys h)) ∨ (Und V xs h.1 ∧ (Mps V ys h.1 ∨ Nds V ys h ∨ Slt V ys h.1)))
/-- two lists are together all threads, each once -/
def Prt (V : VD) (xs ys : List Int) : Prop := (xs ++ ys).Perm (V.ts.map fun t => t.1) ∧ (xs ++ ys).Nodup
def Apt (V : VD) (wr : HD → Bool) (xs ys : List Int) : Prop := Prt V xs ys ∧ Disj V xs ys ∧ ¬ Wrt V wr xs ys ∧ ¬ Abv V xs ys ∧ ¬ Abv V ys xs
theorem Prt.symm {V : VD} {xs ys : List Int} (h : Prt V xs ys) : Prt V ys xs := ⟨List.perm_append_comm.trans h.1, List.perm_append_comm.nodup_iff.1 h.2⟩
theorem Apt.symm {V : VD} {wr : HD → Bool} {xs ys : List Int} (h : Apt V wr xs ys) : Apt V wr ys xs := by
  obtain ⟨h1, h2, h3, h4, h5⟩ := h
  refine ⟨h1.symm, fun x a b => h2 x b a, fun ⟨f, k1, k2, k3, h, k4, k5⟩ => h3 ⟨f, k1, k3, k2, h, k4.symm, k5⟩, h5, h4⟩
theorem Apt.len {V : VD} {wr : HD → Bool} {xs : List Int} (h : Apt V wr xs []) : xs.length = V.ts.length := by
  have := h.1.1.length_eq; simpa using this
end Go.Proofs.YtgafamgacpglcaaGreat.Pt


/- part: a view that can be read; known. -/
-- GU
set_option linter.unusedVariables false
set_option linter.unusedSimpArgs false
namespace Go.Proofs.YtgafamgacpglcaaGreat
open Go.RowKit
set_option maxRecDepth 20000
set_option pp.deepTerms false
set_option pp.deepTerms.threshold 4

/-- a view's rows -/
structure VwT where
  os : Ar.OL
  hs : List HdT
  tr : Tr.DT
  ts : Th.TL
  nn : As.ASt
def VwT.vd (x : VwT) : Pt.VD := ⟨x.os.map fun o => (o.id, o.kd, o.se), x.hs.map fun h => (h.1, h.2.kind, h.2.obj, h.2.rights, h.2.serial), x.tr, x.ts.map fun t => (t.id, t.ca, t.wa), (List.range 8).map fun p => (x.nn.obj p, (List.range 4).map fun i => (x.nn.root (4 * p + i), x.nn.ser (4 * p + i)))⟩
/-- a slice whose rows can be read -/
def RdS (l : List Chunk) (v : Value) (k : Nat) (rows : List (List Value)) : Prop := ∃ a cap, v = .slice a rows.length cap ∧ InRows l a rows.length k rows
theorem InRows.mono {l l' : List Chunk} {a : Option Addr} {n k : Nat} {rows : List (List Value)} (h : InRows l a n k rows) (hl : ∀ c, c ∈ l → c ∈ l') : InRows l' a n k rows := fun h0 => by
  obtain ⟨bB, off, cs, t, fz, h1, h2, h3⟩ := h h0
  exact ⟨bB, off, cs, t, fz, h1, hl _ h2, h3⟩
theorem RdS.mono {l l' : List Chunk} {v : Value} {k : Nat} {rows : List (List Value)} (h : RdS l v k rows) (hl : ∀ c, c ∈ l → c ∈ l') : RdS l' v k rows := by
  obtain ⟨a, cap, h1, h2⟩ := h
  exact ⟨a, cap, h1, h2.mono hl⟩
structure VwIn (l : List Chunk) (x : VwT) (c : List Value) : Prop where
  eq : ∃ vo vc vt vh vr vq, c = vwV vo vc vt vh x.nn vr vq ∧ RdS l vo 9 (x.os.map Ar.obC) ∧ RdS l vc 10 (x.hs.map encE) ∧ RdS l vt 3 (x.tr.map Tr.nV) ∧ RdS l vh 24 (x.ts.map Th.encH) ∧ vr.oneCell' = true ∧ vq.oneCell' = true
  lo : x.os.length ≤ 900000
  lh : x.hs.length ≤ 100
  lt : x.tr.length ≤ 900000
  ls : x.ts.length ≤ 900000
  cp : ∀ (a : Option Addr) (n cap : Nat), (List.toArray c)[2]? = some (.slice a n cap) → n ≤ cap
theorem VwIn.mono {l l' : List Chunk} {x : VwT} {c : List Value} (h : VwIn l x c) (hl : ∀ c, c ∈ l → c ∈ l') : VwIn l' x c := by
  obtain ⟨⟨vo, vc, vt, vh, vr, vq, h1, h2, h3, h4, h5, h6, h7⟩, k1, k2, k3, k4, k5⟩ := h
  exact ⟨⟨vo, vc, vt, vh, vr, vq, h1, h2.mono hl, h3.mono hl, h4.mono hl, h5.mono hl, h6, h7⟩, k1, k2, k3, k4, k5⟩
abbrev vwB (B : Nat) (c : List Value) : Chunk := (B, .cells (List.toArray c) 32 (0, 0))
abbrev inX (B : Nat) (x : Int) : Chunk := (B, .cells #[.int .i64 x] 3 (0, 0))
def idxO (os : Ar.OL) (id : Int) : Int := match os.findIdx? (fun o => decide (o.id = id)) with | some k => (k : Int) | none => -1
theorem kcl_any (o : Ar.ObT) (B : Nat) (id : Int) (l : List Chunk) (hm : inX B id ∈ l) : Fn Tryz.prog 99 [.agg (List.toArray (Ar.obC o)), .pointer (some ⟨B, 0, none⟩)] l fun v l' => v = .bool (decide (o.id = id)) ∧ l' = l := by
  refine fn_of_body Tryz.func99 rfl rfl fun E => ?_
  simp only [argF, Tryz.ntmps99]
  refine gzU ?_
  refine t_e (e_boxA rfl) rfl rfl rfl ?_
  rintro _ _ ⟨b2, _, rfl, rfl⟩
  refine gzU ?_
  exact k_ret [] rfl (l' := l) (.drop .refl) (by exact zRes) ⟨rfl, rfl⟩
set_option maxHeartbeats 1000000 in
theorem idxf_any (os : Ar.OL) (v : Value) (B : Nat) (id : Int) (l : List Chunk) (hv : RdS l v 9 (os.map Ar.obC)) (hn : os.length ≤ 900000) (hm : inX B id ∈ l) :
    Fn Tryz.prog 98 [v, .func (.func 99) #[] #[.pointer (some ⟨B, 0, none⟩)]] l fun v l' => v = .int .i64 (idxO os id) ∧ l' = l := by
  obtain ⟨a, cap, rfl, hr⟩ := hv
  rw [List.length_map] at hr ⊢
  refine fn_of_body Tryz.func98 rfl rfl fun E => ?_
  simp only [argF, Tryz.ntmps98]
  refine gzU ?_
  refine k_loop (α := Nat) (fun i => [(0, .slice a os.length cap), (1, .func (.func 99) #[] #[.pointer (some ⟨B, 0, none⟩)]), (7, .int .i64 (os.length : Nat)), (8, .int .i64 i)]) (fun _ => l) (fun i => i ≤ os.length ∧ ∀ o, o ∈ os.take i → ¬ o.id = id) (fun i => os.length - i) 0 ⟨Nat.zero_le _, by simp⟩ ⟨rfl, rfl, rfl, rfl, trivial⟩ .refl ?_
  rintro i ⟨hi, hno⟩
  by_cases hlt : i < os.length
  · obtain ⟨o, hio⟩ : ∃ o, os[i]? = some o := ⟨_, List.getElem?_eq_getElem hlt⟩
    obtain ⟨bB, off, cs, t, fz, rfl, hmr, hrow⟩ := hr (by omega)
    obtain ⟨x1, x2, _⟩ := hrow i (Ar.obC o) (by rw [List.getElem?_map, hio]; rfl)
    refine gzU ?_
    refine t_q (q_loadA rfl hmr x1 x2) rfl rfl rfl ?_
    refine t_q (q_callC (fs := []) (cs := [.pointer (some ⟨B, 0, none⟩)]) rfl rfl (fun l2 hl => kcl_any o B id l2 (hl _ hm))) rfl rfl rfl ?_
    by_cases hid : o.id = id
    · refine gzU ?_
      refine k_ret [] rfl .refl (by exact zRes) ⟨?_, rfl⟩
      have : os.findIdx? (fun o => decide (o.id = id)) = some i := by
        rw [List.findIdx?_eq_some_iff_getElem]
        obtain ⟨hl, hx⟩ := List.getElem?_eq_some_iff.1 hio
        refine ⟨hl, by rw [hx]; simpa using hid, fun j hj => ?_⟩
        have := hno os[j] (List.mem_take_iff_getElem.2 ⟨j, by omega, rfl⟩)
        simpa using this
      simp [idxO, this, tup]
    · refine gzU ?_
      refine k_next (i + 1) ⟨by omega, fun o' ho' => ?_⟩ (by omega) ⟨rfl, rfl, rfl, rfl, trivial⟩ .refl
      rw [List.take_add_one, hio, List.mem_append] at ho'
      rcases ho' with h | h
      · exact hno o' h
      · simp at h; rw [h]; exact hid
  · obtain rfl : i = os.length := by omega
    refine gzU ?_
    refine k_ret [] rfl .refl (by exact zRes) ⟨?_, rfl⟩
    have : os.findIdx? (fun o => decide (o.id = id)) = none := by
      rw [List.findIdx?_eq_none_iff]
      intro o ho
      have := hno o (by rw [List.take_length]; exact ho)
      simpa using this
    simp [idxO, this, tup]
theorem kn_idx (x : VwT) (id k : Int) : Pt.kn x.vd id k = match x.os.findIdx? (fun o => decide (o.id = id)) with | some i => decide (k = 0) || decide ((x.os.getD i Ar.obO).kd = k) | none => false := by
  unfold Pt.kn VwT.vd
  simp only
  rw [List.find?_map]
  have e : ((fun o : Int × Int × Int => decide (o.1 = id)) ∘ fun o : Ar.ObT => (o.id, o.kd, o.se)) = fun o => decide (o.id = id) := rfl
  rw [e]
  cases h : x.os.findIdx? (fun o => decide (o.id = id)) with
  | none =>
    rw [List.findIdx?_eq_none_iff] at h
    rw [List.find?_eq_none.2 (fun o ho => by simpa using h o ho)]
    rfl
  | some i =>
    rw [List.findIdx?_eq_some_iff_getElem] at h
    obtain ⟨hl, h1, h2⟩ := h
    have : x.os.find? (fun o => decide (o.id = id)) = some x.os[i] := List.find?_eq_some_iff_getElem.2 ⟨h1, i, hl, rfl, fun j hj => by simpa using h2 j hj⟩
    rw [this]
    simp only [Option.map_some, List.getD, List.getElem?_eq_getElem hl, Option.getD_some]
set_option maxHeartbeats 1000000 in
theorem known_any (x : VwT) (c : List Value) (id k : Int) (l : List Chunk) (h : VwIn l x c) : Fn Tryz.prog 47 [.agg (List.toArray c), .int .i64 id, .int .i64 k] l fun v l' => v = .bool (Pt.kn x.vd id k) ∧ l' = l := by
  obtain ⟨⟨vo, vc, vt, vh, vr, vq, rfl, ho, _⟩, hlo, _⟩ := h
  refine fn_of_body Tryz.func47 rfl rfl fun E => ?_
  simp only [argF, Tryz.ntmps47]
  refine gzU ?_
  refine t_e (e_boxA rfl) rfl rfl rfl ?_
  rintro _ _ ⟨b3, _, rfl, rfl⟩
  refine t_e (e_box1 rfl rfl) rfl rfl rfl ?_
  rintro _ _ ⟨b4, _, rfl, rfl⟩
  refine gzU ?_
  refine t_q (q_call rfl rfl (fun l2 hl => idxf_any x.os vo b4 id l2 (ho.mono fun c hc => hl c (.tail _ (.tail _ hc))) hlo (hl _ (.head _)))) rfl rfl rfl ?_
  rw [kn_idx]
  unfold idxO
  obtain ⟨a, cap, rfl, hr⟩ := ho
  rw [List.length_map] at hr ⊢
  cases hf : x.os.findIdx? (fun o => decide (o.id = id)) with
  | none =>
    refine gzU ?_
    exact k_ret [] rfl (l' := l) (.drop (.drop .refl)) (by exact zRes) ⟨rfl, rfl⟩
  | some i =>
    have hl : i < x.os.length := (List.findIdx?_eq_some_iff_getElem.1 hf).1
    obtain ⟨o, hio⟩ : ∃ o, x.os[i]? = some o := ⟨_, List.getElem?_eq_getElem hl⟩
    obtain ⟨bB, off, cs, t, fz, rfl, hmr, hrow⟩ := hr (by omega)
    obtain ⟨_, _, x3⟩ := hrow i (Ar.obC o) (by rw [List.getElem?_map, hio]; rfl)
    simp only [List.getD, hio, Option.getD_some]
    refine gzU ?_
    by_cases hk : k = 0
    · refine gzU ?_
      exact k_ret [] rfl (l' := l) (.drop (.drop .refl)) (by exact zRes) ⟨by simp [tup, hk], rfl⟩
    · refine gzU ?_
      refine t_h (q_load (v := .int .i64 o.kd) rfl (.tail _ (.tail _ hmr)) (x3 1 _ rfl)) rfl rfl rfl ?_
      refine gzU ?_
      exact k_ret [] rfl (l' := l) (.drop (.drop .refl)) (by exact zRes) ⟨by simp [tup, hk], rfl⟩
end Go.Proofs.YtgafamgacpglcaaGreat


/- part: sets (maps to 1): look up, put, delete; a set's numbers. -/
-- GU
set_option linter.unusedVariables false
set_option linter.unusedSimpArgs false
namespace Go.Proofs.YtgafamgacpglcaaGreat
open Go.RowKit
set_option maxRecDepth 20000
set_option pp.deepTerms false
set_option pp.deepTerms.threshold 4

/-- a map's entries are the set S, each with 1 -/
structure SetE {κ : Type} [DecidableEq κ] (S : κ → Prop) (es : List (EntS κ)) (clock : Nat) : Prop where
  ok : KeysOk es clock
  get : ∀ a v, getS a es = some v ↔ (S a ∧ v = .int .i64 1)
section
variable {κ : Type} [DecidableEq κ] {S : κ → Prop} {es : List (EntS κ)} {clock : Nat}
theorem SetE.zero : SetE (fun _ : κ => False) [] 0 := ⟨⟨by simp, by simp, by simp⟩, fun a v => by simp [getS, findS]⟩
theorem SetE.yes (h : SetE S es clock) {a : κ} (ha : S a) : getS a es = some (.int .i64 1) := (h.get a _).2 ⟨ha, rfl⟩
theorem SetE.no (h : SetE S es clock) {a : κ} (ha : ¬ S a) : getS a es = none := by
  cases hg : getS a es with
  | none => rfl
  | some v => exact absurd ((h.get a v).1 hg).1 ha
theorem SetE.put (h : SetE S es clock) (a : κ) : SetE (fun x => S x ∨ x = a) (setS a (.int .i64 1) clock es).1 (setS a (.int .i64 1) clock es).2 := by
  refine ⟨h.ok.set a _, fun b v => ?_⟩
  rw [getS_set]
  by_cases hb : b = a
  · subst hb; rw [if_pos rfl]; simp [eq_comm]
  · rw [if_neg hb, h.get]; simp [hb]
theorem SetE.del (h : SetE S es clock) (a : κ) : SetE (fun x => S x ∧ x ≠ a) (delS a es) clock := by
  refine ⟨h.ok.del a, fun b v => ?_⟩
  rw [getS_del h.ok]
  by_cases hb : b = a
  · subst hb; simp
  · rw [if_neg hb, h.get]; simp [hb]
theorem SetE.congr (h : SetE S es clock) {T : κ → Prop} (e : ∀ x, T x ↔ S x) : SetE T es clock := ⟨h.ok, fun a v => by rw [h.get, e]⟩
theorem SetE.mem (h : SetE S es clock) (a : κ) : a ∈ es.map (·.1) ↔ S a := by
  constructor
  · intro hm
    cases hg : getS a es with
    | none =>
      unfold getS at hg
      rw [Option.map_eq_none_iff, findS_none] at hg
      obtain ⟨e, he, h1⟩ := List.mem_map.1 hm
      exact absurd h1 (hg e he)
    | some v => exact ((h.get a v).1 hg).1
  · intro hs
    have := h.yes hs
    unfold getS at this
    cases hf : findS a es 0 with
    | none => rw [hf] at this; cases this
    | some p =>
      obtain ⟨A, e, B, rfl, _, h1, _⟩ := findS_some (k := p.1) (v := p.2) hf
      simp [h1]
end
theorem nodup_sub {α : Type} [DecidableEq α] : ∀ {xs ys : List α}, xs.Nodup → (∀ x, x ∈ xs → x ∈ ys) → xs.length ≤ ys.length
  | [], _, _, _ => Nat.zero_le _
  | x :: xs, ys, hn, hs => by
    have h1 := List.nodup_cons.1 hn
    have h2 := nodup_sub (xs := xs) (ys := ys.erase x) h1.2 fun z hz => (List.mem_erase_of_ne (fun e : z = x => h1.1 (by rw [← e]; exact hz))).2 (hs z (List.mem_cons_of_mem _ hz))
    have hx := hs x List.mem_cons_self
    rw [List.length_erase_of_mem hx] at h2
    have := List.length_pos_of_mem hx
    rw [List.length_cons]; omega
theorem SetE.len {κ : Type} [DecidableEq κ] {S : κ → Prop} {es : List (EntS κ)} {clock : Nat} (h : SetE S es clock) (U : List κ) (hU : ∀ x, S x → x ∈ U) : es.length ≤ U.length := by
  have := nodup_sub h.ok.keys (fun x hx => hU x ((h.mem x).1 hx))
  rwa [List.length_map] at this
/-- a set of integers, in block m -/
def StI (m : Nat) (S : Int → Prop) (c : Chunk) : Prop := ∃ es clock, c = (m, mapO .i64 es clock) ∧ SetE S es clock
theorem StI.congr {m : Nat} {S T : Int → Prop} {c : Chunk} (h : StI m S c) (e : ∀ x, T x ↔ S x) : StI m T c := by
  obtain ⟨es, clock, h1, h2⟩ := h
  exact ⟨es, clock, h1, h2.congr e⟩
abbrev stB (B m : Nat) : Chunk := (B, .cells #[.map (some m)] 49 (0, 0))
theorem keysP_any (m : Nat) (l : List Chunk) : Fn Tryz.prog 90 [.map (some m)] l fun v l' => ∃ B, v = .func (.func 134) #[] #[pV B] ∧ l' = stB B m :: l := by
  refine fn_of_body Tryz.func90 rfl rfl fun E => ?_
  simp only [argF, Tryz.ntmps90]
  refine gzU ?_
  refine t_e (e_box1 rfl rfl) rfl rfl rfl ?_
  rintro _ _ ⟨B, hB, rfl, rfl⟩
  refine gzU ?_
  exact k_ret [] rfl .refl (by exact zRes) ⟨B, rfl, rfl⟩
theorem keysP_iter (B m clock : Nat) (es : List Ent) (hnd : (es.map (·.2.2)).Nodup) (hst : ∀ e, e ∈ es → e.2.2 < clock) :
    IterS Tryz.prog 134 [pV B] (fun k : Int => [.int .i64 k]) (fun xs => xs.Perm (es.map (·.1))) (fun pre => pre.length ≤ es.length)
      (fun _ l => stB B m ∈ l ∧ (m, mapO .i64 es clock) ∈ l) := by
  refine ⟨fun q I Ix G0 hneed hY l G hG h0 => ?_⟩
  refine fn_of_body Tryz.func134 rfl rfl fun E => ?_
  simp only [argF, Tryz.ntmps134]
  obtain ⟨hm1, hm2⟩ := hneed _ _ G hG h0
  refine gzU ?_
  refine t_e (e_range rfl hm2) rfl rfl rfl ?_
  rintro _ _ ⟨b0, hb0, rfl, rfl⟩
  refine gzU ?_
  refine k_loop (α := Array Nat × List Ent × List Chunk) (fun x => [(0, .func (.yield q) #[] #[]), (1, pV B), (5, pV b0)]) (fun x => (b0, .mapIter (some m) clock x.1 clock) :: (x.2.2 ++ G)) (fun x => I (x.2.1.map (·.1)) x.2.2 ∧ Th.Came es x.2.1 x.1) (fun x => es.length - x.2.1.length) (#[], [], l) ⟨h0, ⟨rfl, by simp, by simp⟩⟩ ⟨rfl, rfl, rfl, trivial⟩ .refl ?_
  clear hm1 hm2
  rintro ⟨seen, vis, l⟩ ⟨hI, hC⟩
  simp only at hI hC ⊢
  obtain ⟨hm1, hm2⟩ := hneed _ _ G hG hI
  refine gzU ?_
  refine t_e (e_next rfl hm2 (fun e he => hst e he) (Nat.le_refl _)) rfl rfl rfl ?_
  rintro _ _ (⟨rfl, rfl, hall⟩ | ⟨e, he, hns, rfl, rfl⟩)
  · refine gzU ?_
    exact k_ret [] rfl (.drop .refl) (by exact zRes) ⟨l, rfl, .inl ⟨_, hC.all hnd hall, hI⟩⟩
  · have hC2 := hC.push he hns
    have hl2 := hC2.len hnd
    have hy := hY (vis.map (·.1)) e.1 l ((b0, .mapIter (some m) clock (seen.push e.2.2) clock) :: G) (fun c hc => .tail _ (hG c hc)) hI (by simp at hl2 ⊢; exact hl2)
    refine gzU ?_
    refine t_q (q_entry rfl (.head _) (.tail _ hm2) he hnd) rfl rfl rfl ?_
    refine gzU ?_
    refine s_keep (Keep.of_perm List.perm_middle.symm) ?_
    refine t_e (e_yield rfl rfl hy) rfl rfl rfl ?_
    rintro v l' ⟨l1, rfl, ⟨rfl, hI'⟩ | ⟨rfl, hx⟩⟩
    · refine gzU ?_
      exact k_next (seen.push e.2.2, vis ++ [e], l1) ⟨by simpa using hI', hC2⟩ (by simp at hl2 ⊢; omega) ⟨rfl, rfl, rfl, trivial⟩ (.of_perm List.perm_middle)
    · refine gzU ?_
      exact k_ret [] rfl (Keep.trans (.of_perm List.perm_middle) (.drop .refl)) (by exact zRes) ⟨l1, rfl, .inr ⟨_, by simp at hl2 ⊢; exact hl2, hx⟩⟩
/-- a set's numbers, rising -/
theorem rising_any (m : Nat) (S : Int → Prop) (c : Chunk) (hc : StI m S c) (U : List Int) (hU : ∀ x, S x → x ∈ U) (hn : U.length ≤ 900000) (l : List Chunk) (hm : c ∈ l) :
    Fn Tryz.prog 39 [.map (some m)] l fun v l' => ∃ (xs : List Int) (cs : List Chunk), (∀ x, x ∈ xs ↔ S x) ∧ xs.length ≤ U.length ∧ OwnSl 3 1 v xs.length (xs.map intQ) cs ∧ l' = cs ++ l := by
  obtain ⟨es, clock, rfl, hE⟩ := hc
  have hle := hE.len U hU
  refine fn_of_body Tryz.func39 rfl rfl fun E => ?_
  simp only [argF, Tryz.ntmps39]
  refine gzU ?_
  refine t_e (e_call0 rfl rfl (keysP_any m _)) rfl rfl rfl ?_
  rintro _ _ ⟨B, rfl, rfl⟩
  refine gzU ?_
  refine t_e (e_call0 rfl rfl (Th.sorted_any 134 [pV B] _ es.length _ (keysP_iter B m clock es hE.ok.stamps hE.ok.below) (by omega) (fun xs h => by rw [h.length_eq]; simp) _ fun _ l2 hl => ⟨hl _ (.head _), hl _ (.tail _ hm)⟩)) rfl rfl rfl ?_
  rintro v _ ⟨xs, cs, hp, ho, rfl⟩
  have hv1 : v.oneCell' = true := ho.one
  refine gzU ?_
  refine k_ret [] rfl (l' := cs ++ l) (Keep.trans (.of_perm List.perm_middle) (.drop .refl)) (by exact zRes) ?_
  refine ⟨srt xs, cs, fun x => ?_, ?_, ho, rfl⟩
  · rw [← hE.mem x, (List.mergeSort_perm xs _).mem_iff, hp.mem_iff]
  · rw [(List.mergeSort_perm xs _).length_eq, hp.length_eq, List.length_map]; exact hle
end Go.Proofs.YtgafamgacpglcaaGreat


/- Slices that are cut at their front: append, elements. Laws of my own, no program's. -/
set_option linter.unusedVariables false
set_option linter.unusedSimpArgs false
namespace Go.Proofs.YtgafamgacpglcaaGreat
open Go.RowKit

/-- v is a slice of n elements of k cells, xs; its row may have begun ahead of it, and end behind it -/
def OwnSo (e k : Nat) (v : Value) (n : Nat) (xs : List Value) (cs : List Chunk) : Prop :=
  xs.length = n * k ∧ ((v = .slice none 0 0 ∧ n = 0 ∧ cs = []) ∨ (∃ b off cap pre sp post, off = pre.length ∧ v = .slice (some ⟨b, off, none⟩) n cap ∧ cs = [(b, .cells (List.toArray (pre ++ (xs ++ (sp ++ post)))) e (0, 0))] ∧ n ≤ cap ∧ cap ≤ maxLen ∧ (xs ++ sp).length = cap * k))
theorem OwnSl.so {e k n : Nat} {v : Value} {xs : List Value} {cs : List Chunk} (h : OwnSl e k v n xs cs) : OwnSo e k v n xs cs := by
  obtain ⟨h0, h | ⟨b, cap, sp, h1, h2, h3, h4, h5⟩⟩ := h
  · exact ⟨h0, .inl h⟩
  · exact ⟨h0, .inr ⟨b, 0, cap, [], sp, [], rfl, h1, by simpa using h2, h3, h4, h5⟩⟩
theorem OwnSo.one {e k n : Nat} {v : Value} {xs : List Value} {cs : List Chunk} (h : OwnSo e k v n xs cs) : v.oneCell' = true := by
  rcases h.2 with ⟨rfl, _⟩ | ⟨b, off, cap, pre, sp, post, _, rfl, _⟩ <;> rfl
theorem OwnSo.shape {e k n : Nat} {v : Value} {xs : List Value} {cs : List Chunk} (h : OwnSo e k v n xs cs) : ∃ p cap, v = .slice p n cap := by
  rcases h.2 with ⟨rfl, rfl, _⟩ | ⟨b, off, cap, pre, sp, post, _, rfl, _⟩
  · exact ⟨_, _, rfl⟩
  · exact ⟨_, _, rfl⟩
theorem setFrom_front (vs : List Value) : ∀ (A B C : List Value), B.length = vs.length → setFrom (List.toArray (A ++ (B ++ C))) A.length vs = List.toArray (A ++ (vs ++ C)) := by
  induction vs with
  | nil => intro A B C h; obtain rfl : B = [] := List.eq_nil_of_length_eq_zero (by simpa using h); rfl
  | cons v vs ih =>
    intro A B C h
    cases B with
    | nil => cases h
    | cons u B =>
      show setFrom ((List.toArray (A ++ (u :: B ++ C))).setIfInBounds A.length v) (A.length + 1) vs = _
      have e : (List.toArray (A ++ (u :: B ++ C))).setIfInBounds A.length v = List.toArray ((A ++ [v]) ++ (B ++ C)) := by simp
      rw [e]
      have := ih (A ++ [v]) B C (by simpa using h)
      rw [List.length_append, List.length_singleton] at this
      rw [this]; simp
theorem Sat.setCells {E : World} {b : Nat} {e : TypeId} {F : List Chunk} : ∀ (vs : List Value) (cs : Array Value) (off : Nat) (W : World), Sat E ((b, .cells cs e (0, 0)) :: F) W → Sat E ((b, .cells (setFrom cs off vs) e (0, 0)) :: F) (W.setCells b off vs)
  | [], _, _, _, h => h
  | v :: vs, cs, off, W, h => Sat.setCells vs _ _ _ (h.setCell .here)
theorem ce_appendO {P : Program} {ro : Option Nat} {N : Nat} {fr : Fr} {d : Option Nat} {ty : TypeId} {pos : String} {aft : Array Edge} {g : Option (Nat × Bool)} {v : Value} {b off : Nat} {s x : Operand} {T e k yb n m cp : Nat} {xs news zs : List Value} {cs F : List Chunk} {cl : Array Value} {ct : TypeId} {fz : Nat × Nat} (hx : ev fr s = some v) (hy : ev fr x = some (.slice (some ⟨b, off, none⟩) m cp)) [c : ST P T e k yb] [cz : ZV P e zs] (hzs : zs.length = k)
    (hown : OwnSo e k v n xs cs) (hm : (b, Obj.cells cl ct fz) ∈ cs ++ F) (hnews : ∀ j u, news[j]? = some u → cl[off + j]? = some u) (hnl : news.length = m * k) (h1 : ∀ u ∈ news, u.oneCell' = true) (h63 : n + m ≤ maxLen) (hby : (n + m) * yb ≤ 140737488355328) :
    OpE P ro N fr (cs ++ F) ⟨d, .call { callee := .builtin .append, args := #[s, x], argTypes := #[T, T] }, ty, pos, aft, g⟩ (fun v' l' => ∃ cs', OwnSo e k v' (n + m) (xs ++ news) cs' ∧ l' = cs' ++ F) := by
  rcases hown.2 with ⟨rfl, rfl, rfl⟩ | ⟨gb, go, cap, pre, sp, post, rfl, rfl, rfl, hnc, hcm, hcl⟩
  · have hx0 : xs = [] := List.eq_nil_of_length_eq_zero (by simpa using hown.1)
    subst hx0
    exact (ce_append hx hy hzs (OwnSl.nil e k) hm hnews hnl h1 h63 hby).mono fun v' l' ⟨cs', h2, h3⟩ => ⟨cs', h2.so, h3⟩
  refine ⟨rfl, fun E a W hf hs => ?_⟩
  have hρ := hf.agrees
  obtain ⟨inf, u1, u2, u3, u4⟩ := stV_spec c.out
  obtain ⟨inf', zv, z1, z2, z3⟩ := zvV_spec cz.out
  rw [u2] at z1
  cases z1
  have hex : execOp a.eval ⟨d, .call { callee := .builtin .append, args := #[s, x], argTypes := #[T, T] }, ty, pos, aft, g⟩ = (do pure (.value (← Builtin.append_ #[T, T] ty #[.slice (some ⟨gb, pre.length, none⟩) n cap, .slice (some ⟨b, off, none⟩) m cp])) : Sem Next) := by
    simp [execOp, resolve, hρ s _ hx, hρ x _ hy, invoke, builtin]
  unfold OpVal
  rw [hex, Sem.run_bind]
  have hnw : ∀ j u, news[j]? = some u → W.cell? ((⟨b, off, none⟩ : Addr).add j) = some u := fun j u hj => by rw [addr_add, hs.cell hm]; exact hnews j u hj
  have hn' : news.length = m * inf.size := by rw [u3]; exact hnl
  have hmx : n + m ≤ 9223372036854775807 := by simp only [maxLen] at h63; omega
  have hlen : (xs ++ news).length = (n + m) * k := by rw [List.length_append, hown.1, hnl, Nat.add_mul]
  have hmg : (gb, Obj.cells (List.toArray (pre ++ (xs ++ (sp ++ post)))) e (0, 0)) ∈ [(gb, Obj.cells (List.toArray (pre ++ (xs ++ (sp ++ post)))) e (0, 0))] ++ F := List.mem_append_left _ List.mem_cons_self
  by_cases hroom : n + m ≤ cap
  · have hsl : news.length ≤ sp.length := by
      have h3 : xs.length + sp.length = cap * k := by rw [← List.length_append]; exact hcl
      have h4 := Nat.mul_le_mul_right k hroom
      rw [Nat.add_mul] at h4
      rw [hnl]
      have := hown.1
      omega
    have hr := run_append_room_cells (P := P) W T ty e inf u1 u2 gb pre.length n cap ⟨b, off, none⟩ m cp news hn' hnw h1 hroom (fun j hj => by
      rw [hs.cell hmg, u3, ← hown.1]
      simp only [List.getElem?_toArray]
      rw [List.getElem?_append_right (by omega), List.getElem?_append_right (by omega), List.getElem?_append_left (by omega), List.getElem?_eq_getElem (by omega)]
      rfl) (fun j hj => by rw [hs.frz hmg]; simp)
    rw [hr]
    have h5 := Sat.setCells news _ (pre.length + n * inf.size) W hs
    have e1 : setFrom (List.toArray (pre ++ (xs ++ (sp ++ post)))) (pre.length + n * inf.size) news = List.toArray (pre ++ ((xs ++ news) ++ (sp.drop news.length ++ post))) := by
      rw [u3, ← hown.1]
      have := setFrom_front news (pre ++ xs) (sp.take news.length) (sp.drop news.length ++ post) (by rw [List.length_take]; omega)
      rw [List.length_append] at this
      have e2 : pre ++ (xs ++ (sp ++ post)) = (pre ++ xs) ++ (sp.take news.length ++ (sp.drop news.length ++ post)) := by
        rw [← List.append_assoc (sp.take _), List.take_append_drop]; simp
      rw [e2, this]; simp
    rw [e1] at h5
    refine ⟨_, ⟨_, ⟨hlen, .inr ⟨gb, pre.length, cap, pre, sp.drop news.length, post, rfl, rfl, rfl, hroom, hcm, ?_⟩⟩, rfl⟩, h5⟩
    rw [List.length_append, List.length_append, List.length_drop]
    rw [List.length_append] at hcl
    omega
  · have hs' : Sat E F W := hs.tail
    have hold : ∀ j u, xs[j]? = some u → W.cell? ((⟨gb, pre.length, none⟩ : Addr).add j) = some u := fun j u hj => by
      rw [addr_add, hs.cell hmg]
      have hlt := (List.getElem?_eq_some_iff.1 hj).1
      simp only [List.getElem?_toArray]
      rw [List.getElem?_append_right (by omega), List.getElem?_append_left (by omega), Nat.add_sub_cancel_left]
      exact hj
    have hr := run_append_grow (P := P) W T ty e inf zv u1 u2 z2 ⟨gb, pre.length, none⟩ n cap xs (by rw [u3]; exact hown.1) hold ⟨b, off, none⟩ m cp news hn' hnw (by omega) (by omega) (growslice_fits (by omega) (by rw [u4]; exact hby))
    rw [hr]
    have h2 := hs'.drew.alloc (.cells (xs.toArray ++ news.toArray ++ Builtin.zeroCells zv.cells (grownCap W (n + m) cap e - (n + m))) e)
    have e2 : xs.toArray ++ news.toArray ++ Builtin.zeroCells zv.cells (grownCap W (n + m) cap e - (n + m)) = List.toArray ([] ++ ((xs ++ news) ++ ((Builtin.zeroCells zv.cells (grownCap W (n + m) cap e - (n + m))).toList ++ []))) := by
      apply Array.toList_inj.1; simp
    rw [e2] at h2 ⊢
    refine ⟨_, ⟨_, ⟨hlen, .inr ⟨W.heap.size, 0, _, [], _, [], rfl, rfl, rfl, grownCap_ge _ _ _ _, grownCap_le_maxLen _ _ _ _ h63, ?_⟩⟩, rfl⟩, h2⟩
    rw [List.length_append, hlen, Array.length_toList, size_zeroCells]
    have hzz : zv.cells.size = k := by rw [← hzs, ← z3]; simp
    rw [hzz, ← Nat.add_mul]
    congr 1
    have := grownCap_ge W (n + m) cap e
    omega
/-- the first element is cut off -/
theorem OwnSo.tail {e k n b off cap : Nat} {x xs : List Value} {cs : List Chunk} (h : OwnSo e k (.slice (some ⟨b, off, none⟩) (n + 1) cap) (n + 1) (x ++ xs) cs) (hx : x.length = k) : OwnSo e k (.slice (some ⟨b, if cap = 1 then off else off + 1 * k, none⟩) n (cap - 1)) n xs cs := by
  obtain ⟨h0, h | ⟨b', off', cap', pre, sp, post, rfl, h1, h2, h3, h4, h5⟩⟩ := h
  · cases h.1
  · cases h1
    have hn : xs.length = n * k := by rw [List.length_append, hx, Nat.add_mul] at h0; omega
    refine ⟨hn, .inr ?_⟩
    by_cases hc : cap = 1
    · subst hc
      have hn0 : n = 0 := by omega
      subst hn0
      have hx0 : xs = [] := List.eq_nil_of_length_eq_zero (by simpa using hn)
      subst hx0
      have hsp : sp = [] := List.eq_nil_of_length_eq_zero (by simp at h5; omega)
      subst hsp
      exact ⟨b, pre.length, 0, pre, [], x ++ post, rfl, by simp, by rw [h2]; simp, Nat.le_refl _, Nat.zero_le _, by simp⟩
    · refine ⟨b, (pre ++ x).length, cap - 1, pre ++ x, sp, post, rfl, by rw [if_neg hc, List.length_append, hx, Nat.one_mul], by rw [h2]; simp, by omega, by omega, ?_⟩
      rw [List.append_assoc, List.length_append, hx] at h5
      rw [Nat.sub_mul]
      omega
end Go.Proofs.YtgafamgacpglcaaGreat


/- part: from (what a node's or thread's slots lead to), its iterator; AppendSeq onto numbers. -/
-- GU
set_option linter.unusedVariables false
set_option linter.unusedSimpArgs false
namespace Go.Proofs.YtgafamgacpglcaaGreat
open Go.RowKit
set_option maxRecDepth 20000
set_option pp.deepTerms false
set_option pp.deepTerms.threshold 4

/-- a view's cells, one by one -/
structure VwC (l : List Chunk) (x : VwT) (c : List Value) (vo vc vt vh : Value) : Prop where
  len : c.length = 86
  c0 : (List.toArray c)[0]? = some vo
  c1 : (List.toArray c)[1]? = some vc
  c2 : (List.toArray c)[2]? = some vt
  c3 : (List.toArray c)[3]? = some vh
  p : LSub c 4 80 (plc x.nn)
  o : RdS l vo 9 (x.os.map Ar.obC)
  h : RdS l vc 10 (x.hs.map encE)
  t : RdS l vt 3 (x.tr.map Tr.nV)
  s : RdS l vh 24 (x.ts.map Th.encH)
theorem LSub.front : ∀ (A B : List Value), LSub (A ++ B) 0 A.length A
  | [], B => .done
  | a :: A, B => .take (LSub.front A B)
theorem VwIn.cells {l : List Chunk} {x : VwT} {c : List Value} (h : VwIn l x c) : ∃ vo vc vt vh, VwC l x c vo vc vt vh := by
  obtain ⟨⟨vo, vc, vt, vh, vr, vq, rfl, h2, h3, h4, h5, _⟩, _⟩ := h
  refine ⟨vo, vc, vt, vh, by simp [plc_len], rfl, rfl, rfl, rfl, .drop (.drop (.drop (.drop ?_))), h2, h3, h4, h5⟩
  have := LSub.front (plc x.nn) [vr, vq]
  rwa [plc_len] at this
def leadT (x : VwT) (h : HdT) : Bool := decide (h.2.kind = 7) || decide (h.2.kind ≠ 0) && Pt.kn x.vd h.2.obj 0
def fromT (x : VwT) (id : Int) (hs : List HdT) : List Int := (hs.filter fun h => decide (h.1.1 = id) && leadT x h).map fun h => h.2.obj
theorem from_vd (x : VwT) (id : Int) : Pt.fromP x.vd id = fromT x id x.hs := by
  unfold Pt.fromP fromT
  have e : x.vd.cs = x.hs.map fun h => (h.1, h.2.kind, h.2.obj, h.2.rights, h.2.serial) := rfl
  rw [e, List.filter_map, List.map_map]
  rfl
theorem from_any (c : List Value) (hl : c.length = 86) (id : Int) (l : List Chunk) : Fn Tryz.prog 88 [.agg (List.toArray c), .int .i64 id] l fun v l' => ∃ B2 B3, v = .func (.func 132) #[] #[pV B2, pV B3] ∧ l' = inX B3 id :: vwB B2 c :: l := by
  refine fn_of_body Tryz.func88 rfl rfl fun E => ?_
  simp only [argF, Tryz.ntmps88]
  refine gzU ?_
  refine t_e (e_boxA rfl) rfl rfl rfl ?_
  rintro _ _ ⟨b2, _, rfl, rfl⟩
  refine t_e (e_box1 rfl rfl) rfl rfl rfl ?_
  rintro _ _ ⟨b3, _, rfl, rfl⟩
  refine gzU ?_
  exact k_ret [] rfl .refl (by exact zRes) ⟨b2, b3, rfl, rfl⟩
theorem fromT_snoc (x : VwT) (id : Int) (hs : List HdT) (h : HdT) : fromT x id (hs ++ [h]) = fromT x id hs ++ (if decide (h.1.1 = id) && leadT x h then [h.2.obj] else []) := by
  unfold fromT
  rw [List.filter_append, List.map_append]
  congr 1
  rw [List.filter_cons]
  split <;> simp_all
theorem fromT_le (x : VwT) (id : Int) (hs : List HdT) : (fromT x id hs).length ≤ hs.length := by
  unfold fromT; rw [List.length_map]; exact List.length_filter_le ..
set_option maxHeartbeats 2000000 in
theorem from_iter (x : VwT) (c : List Value) (id : Int) (B2 B3 : Nat) :
    IterS Tryz.prog 132 [pV B2, pV B3] (fun k : Int => [.int .i64 k]) (fun xs => xs = fromT x id x.hs) (fun pre => pre.length ≤ x.hs.length) (fun _ l => vwB B2 c ∈ l ∧ inX B3 id ∈ l ∧ VwIn l x c) := by
  refine ⟨fun q I Ix G0 hneed hY l G hG h0 => ?_⟩
  refine fn_of_body Tryz.func132 rfl rfl fun E => ?_
  simp only [argF, Tryz.ntmps132]
  obtain ⟨hm1, hm2, hV⟩ := hneed _ _ G hG h0
  have hlh := hV.lh
  obtain ⟨vo, vc, vt, vh, hC⟩ := hV.cells
  obtain ⟨a, cap, hvc, _⟩ := hC.h
  rw [List.length_map] at hvc
  subst hvc
  refine gzU ?_
  refine t_q (q_load rfl hm1 hC.c1) rfl rfl rfl ?_
  refine gzU ?_
  refine k_loop (α := Nat × List Chunk) (fun y => [(0, .func (.yield q) #[] #[]), (1, pV B2), (2, pV B3), (8, .slice a x.hs.length cap), (9, .int .i64 (x.hs.length : Nat)), (10, .int .i64 y.1)]) (fun y => y.2 ++ G) (fun y => y.1 ≤ x.hs.length ∧ I (fromT x id (x.hs.take y.1)) y.2) (fun y => x.hs.length - y.1) (0, l) ⟨Nat.zero_le _, h0⟩ ⟨rfl, rfl, rfl, rfl, rfl, rfl, trivial⟩ .refl ?_
  clear hm1 hm2 hV
  rintro ⟨k, l⟩ ⟨hk, hI⟩
  simp only at hk hI ⊢
  obtain ⟨hm1, hm2, hV⟩ := hneed _ _ G hG hI
  by_cases hlt : k < x.hs.length
  · obtain ⟨h, hih⟩ : ∃ h, x.hs[k]? = some h := ⟨_, List.getElem?_eq_getElem hlt⟩
    obtain ⟨vo2, vc2, vt2, vh2, hC2⟩ := hV.cells
    have hce : vc2 = .slice a x.hs.length cap := Option.some.inj (hC2.c1.symm.trans hC.c1)
    obtain ⟨a', cap', hvc', hr⟩ := hC2.h
    rw [hvc', List.length_map] at hce
    cases hce
    rw [List.length_map] at hr
    obtain ⟨bB, off, cs, t, fz, rfl, hmr, hrow⟩ := hr (by omega)
    obtain ⟨x1, x2, _⟩ := hrow k (encE h) (by rw [List.getElem?_map, hih]; rfl)
    have htk : x.hs.take (k + 1) = x.hs.take k ++ [h] := by rw [List.take_add_one, hih]; rfl
    refine gzU ?_
    refine t_q (q_loadA rfl hmr x1 x2) rfl rfl rfl ?_
    refine gzU ?_
    refine t_e e_alloc rfl rfl rfl ?_; rintro _ _ ⟨b5, _, rfl, rfl⟩
    iterate 3 refine gzSU ?_
    have hl86 := hC.len
    refine c_join (α := Unit) (fun _ => [(0, .func (.yield q) #[] #[]), (1, pV B2), (2, pV B3), (5, pV b5), (6, .bool (leadT x h)), (8, .slice (some ⟨bB, off, none⟩) x.hs.length cap), (9, .int .i64 (x.hs.length : Nat)), (10, .int .i64 k)]) (fun _ => (b5, Obj.cells (List.toArray (encE h)) 119 (0, 0)) :: (l ++ G)) (fun _ => True) ?_ ?_
    · by_cases h7 : h.2.kind = 7
      · refine gzU ?_
        refine p_join () trivial ⟨rfl, rfl, rfl, rfl, ?_, rfl, rfl, rfl, trivial⟩ .refl
        simp [leadT, h7]; rfl
      by_cases h0 : h.2.kind = 0
      · refine gzU ?_
        refine p_join () trivial ⟨rfl, rfl, rfl, rfl, ?_, rfl, rfl, rfl, trivial⟩ .refl
        simp [leadT, h0]; rfl
      refine gzU ?_
      refine t_h (q_loadL rfl (.tail _ hm1) (As.LSub.of_all (n := 86) _ hl86)) rfl rfl rfl ?_
      refine gzU ?_
      refine t_h (q_call rfl rfl (fun l2 hl => known_any x c h.2.obj 0 l2 (hV.mono fun c hc => hl _ (.tail _ hc)))) rfl rfl rfl ?_
      refine gzU ?_
      refine p_join () trivial ⟨rfl, rfl, rfl, rfl, ?_, rfl, rfl, rfl, trivial⟩ .refl
      simp [leadT, h7, h0]; rfl
    · rintro _ _
      have hsn := fromT_snoc x id (x.hs.take k) h
      rw [← htk] at hsn
      by_cases hid : h.1.1 = id
      case neg =>
        rw [decide_eq_false hid] at hsn
        simp only [Bool.false_and, Bool.false_eq_true, if_false, List.append_nil] at hsn
        refine gzU ?_
        exact k_next (k + 1, l) ⟨by simp only; omega, by simp only; rw [hsn]; exact hI⟩ (by simp only; omega) ⟨rfl, rfl, rfl, rfl, rfl, rfl, trivial⟩ (.drop .refl)
      rw [decide_eq_true hid] at hsn
      cases hld : leadT x h with
      | false =>
        rw [hld] at hsn
        simp only [Bool.and_false, Bool.false_eq_true, if_false, List.append_nil] at hsn
        refine gzU ?_
        exact k_next (k + 1, l) ⟨by simp only; omega, by simp only; rw [hsn]; exact hI⟩ (by simp only; omega) ⟨rfl, rfl, rfl, rfl, rfl, rfl, trivial⟩ (.drop .refl)
      | true =>
        rw [hld] at hsn
        simp only [Bool.and_true, if_true] at hsn
        have hle := fromT_le x id (x.hs.take (k + 1))
        rw [List.length_take] at hle
        have hy := hY (fromT x id (x.hs.take k)) h.2.obj l ((b5, Obj.cells (List.toArray (encE h)) 119 (0, 0)) :: G) (fun c hc => .tail _ (hG c hc)) hI (by rw [← hsn]; omega)
        refine gzU ?_
        refine s_keep (Keep.of_perm List.perm_middle.symm) ?_
        refine t_eh (e_yield rfl rfl hy) rfl rfl rfl ?_
        rintro v l' ⟨l1, rfl, ⟨rfl, hI'⟩ | ⟨rfl, hx⟩⟩
        · refine gzU ?_
          exact k_next (k + 1, l1) ⟨by simp only; omega, by simp only; rw [hsn]; exact hI'⟩ (by simp only; omega) ⟨rfl, rfl, rfl, rfl, rfl, rfl, trivial⟩ (Keep.trans (.of_perm List.perm_middle) (.drop .refl))
        · refine gzU ?_
          exact k_ret [] rfl (Keep.trans (.of_perm List.perm_middle) (.drop .refl)) (by exact zRes) ⟨l1, rfl, .inr ⟨_, by rw [← hsn]; omega, hx⟩⟩
  · obtain rfl : k = x.hs.length := by omega
    rw [List.take_length] at hI
    refine gzU ?_
    exact k_ret [] rfl .refl (by exact zRes) ⟨l, rfl, .inl ⟨_, rfl, hI⟩⟩
end Go.Proofs.YtgafamgacpglcaaGreat


/- part: AppendSeq onto numbers. -/
-- GU
set_option linter.unusedVariables false
set_option linter.unusedSimpArgs false
namespace Go.Proofs.YtgafamgacpglcaaGreat
open Go.RowKit
set_option maxRecDepth 20000
set_option pp.deepTerms false
set_option pp.deepTerms.threshold 4

abbrev slB (B : Nat) (v : Value) : Chunk := (B, .cells #[v] 30 (0, 0))
set_option maxHeartbeats 1000000 in
theorem appendQ_any (gf : Nat) [EN Tryz.prog gf] (lb : List Value) (S : List Int → Prop) (n : Nat) (Need : List Int → List Chunk → Prop) (hit : IterS Tryz.prog gf lb (fun k : Int => [.int .i64 k]) S (fun pre => pre.length ≤ n) Need) (hn : n ≤ 400000)
    (v0 : Value) (n0 : Nat) (xs0 : List Int) (cs0 : List Chunk) (ho0 : OwnSo 3 1 v0 n0 (xs0.map intQ) cs0) (hn0 : n0 ≤ 400000) (l : List Chunk) (hneed : ∀ pre l2, (∀ c, c ∈ l → c ∈ l2) → Need pre l2) :
    Fn Tryz.prog 87 [v0, .func (.func gf) #[] lb.toArray] (cs0 ++ l) fun v l' => ∃ ys cs, S ys ∧ OwnSo 3 1 v (n0 + ys.length) ((xs0 ++ ys).map intQ) cs ∧ l' = cs ++ l := by
  have hv0 : v0.oneCell' = true := ho0.one
  refine fn_of_body Tryz.func87 rfl rfl fun E => ?_
  simp only [argF, Tryz.ntmps87]
  refine gzU ?_
  refine t_e (e_box1 rfl hv0) rfl rfl rfl ?_
  rintro _ _ ⟨b2, hb2, rfl, rfl⟩
  refine gzU ?_
  refine c_range (α := Int) (ps := [7]) (lb := lb) rfl hit (fun _ => rfl) rfl
    (fun pre l => ∃ v cs, OwnSo 3 1 v (n0 + pre.length) ((xs0 ++ pre).map intQ) cs ∧ pre.length ≤ n ∧ l = slB b2 v :: cs)
    (fun c pre l => False)
    (slB b2 v0 :: cs0) l (fun pre l2 X2 hX h => hneed _ _ fun c hc => List.mem_append_right _ (hX _ hc)) .refl ⟨_, cs0, by simpa using ho0, Nat.zero_le _, rfl⟩ ?_ ?_ ?_
  · rintro E r0 rec pre y l' T ⟨fn, tmps, Dd, rfl⟩ hT0 ⟨v, cs', hown, hpl, rfl⟩ hsp
    have hv1 : v.oneCell' = true := hown.one
    simp only [putPs, List.cons_append, List.nil_append]
    refine gzU ?_
    refine p_begin (.there (upd_mid _ _ _ _ _)) ?_
    generalize hX1 : (r0, Obj.loop (recOf fn tmps _ _ _ Dd .busy none)) :: T = X1
    refine gzU ?_
    refine t_e (e_lit1 (v := intQ y) rfl rfl) rfl rfl rfl ?_
    rintro _ _ ⟨bl, _, rfl, rfl⟩
    refine s_keep (l' := cs' ++ ((bl, Obj.cells (List.toArray [intQ y]) 3 (0, 0)) :: slB b2 v :: X1)) (keep_ac []) ?_
    refine t_e (ce_appendO (k := 1) (yb := 8) (n := n0 + pre.length) (xs := (xs0 ++ pre).map intQ) (news := [intQ y]) (zs := [.int .i64 0]) (cs := cs') rfl rfl rfl hown (List.mem_append_right _ List.mem_cons_self) (fun j u hj => by simpa using hj) rfl (by simp [Value.oneCell', intQ]) (by unfold maxLen; omega) (by omega)) rfl rfl rfl ?_
    rintro v' _ ⟨c2, ho2, rfl⟩
    have hv2 : v'.oneCell' = true := ho2.one
    refine s_keep (l' := slB b2 v :: (c2 ++ X1)) (keep_ac [(bl, Obj.cells (List.toArray [intQ y]) 3 (0, 0))]) ?_
    refine gzU ?_
    rw [← hX1]
    refine p_round (slB b2 v' :: c2) (.refl) ⟨v', c2, ?_, hsp, rfl⟩
    rw [List.length_append, ← List.append_assoc, List.map_append, ← Nat.add_assoc]; exact ho2
  · rintro Dd xs l' hS ⟨v, cs', hown, hpl, rfl⟩
    have hv1 : v.oneCell' = true := hown.one
    simp only [List.cons_append, List.nil_append]
    refine gzU ?_
    refine k_ret2 [Dd] (cs' ++ l) rfl (l' := cs' ++ l) (by exact zKeep) (by exact zRes) .refl ?_
    exact ⟨xs, cs', hS, hown, rfl⟩
  · rintro Dd c pre l' hsp h
    exact h.elim
end Go.Proofs.YtgafamgacpglcaaGreat


/- part.reach: all that threads reach. -/
-- GU
set_option linter.unusedVariables false
set_option linter.unusedSimpArgs false
namespace Go.Proofs.YtgafamgacpglcaaGreat
open Go.RowKit
set_option maxRecDepth 20000
set_option pp.deepTerms false
set_option pp.deepTerms.threshold 4

/-- where the search stands: Sx has come, Q waits -/
structure Bfs (x : VwT) (ths Sx Q : List Int) : Prop where
  s : ∀ y, y ∈ Sx → Pt.Rch x.vd ths y
  q : ∀ y, y ∈ Q → Pt.Rch x.vd ths y
  t : ∀ t, t ∈ ths → Pt.kn x.vd t 9 = true → t ∈ Sx ∨ t ∈ Q
  c : ∀ y z, y ∈ Sx → Pt.goes x.vd y = true → z ∈ Pt.fromP x.vd y → z ∈ Sx ∨ z ∈ Q
  nd : Sx.Nodup
  u : ∀ y, y ∈ Sx ∨ y ∈ Q → y ∈ ths ++ x.hs.map fun h => h.2.obj
  len : Q.length ≤ ths.length + Sx.length * x.hs.length
theorem fromT_mem {x : VwT} {id z : Int} (h : z ∈ Pt.fromP x.vd id) : z ∈ x.hs.map fun h => h.2.obj := by
  rw [from_vd] at h
  obtain ⟨y, hy, rfl⟩ := List.mem_map.1 h
  exact List.mem_map.2 ⟨y, (List.mem_filter.1 hy).1, rfl⟩
theorem Bfs.zero (x : VwT) (ths : List Int) : Bfs x ths [] (ths.filter fun t => Pt.kn x.vd t 9) := by
  refine ⟨by simp, fun y hy => ?_, fun t h1 h2 => .inr (List.mem_filter.2 ⟨h1, h2⟩), by simp, by simp, fun y hy => ?_, ?_⟩
  · obtain ⟨h1, h2⟩ := List.mem_filter.1 hy; exact .th h1 h2
  · rcases hy with hy | hy
    · cases hy
    · exact List.mem_append_left _ (List.mem_filter.1 hy).1
  · simpa using List.length_filter_le _ _
theorem Bfs.skip {x : VwT} {ths Sx Q : List Int} {y : Int} (h : Bfs x ths Sx (y :: Q)) (hy : y ∈ Sx) : Bfs x ths Sx Q := by
  refine ⟨h.s, fun z hz => h.q z (List.mem_cons_of_mem _ hz), fun t h1 h2 => ?_, fun a z h1 h2 h3 => ?_, h.nd, fun z hz => h.u z (hz.imp id (List.mem_cons_of_mem _)), ?_⟩
  · rcases h.t t h1 h2 with h3 | h3
    · exact .inl h3
    · rcases List.mem_cons.1 h3 with rfl | h3
      · exact .inl hy
      · exact .inr h3
  · rcases h.c a z h1 h2 h3 with h4 | h4
    · exact .inl h4
    · rcases List.mem_cons.1 h4 with rfl | h4
      · exact .inl hy
      · exact .inr h4
  · have := h.len; simp only [List.length_cons] at this; omega
theorem Bfs.step {x : VwT} {ths Sx Q : List Int} {y : Int} (h : Bfs x ths Sx (y :: Q)) (hy : y ∉ Sx) : Bfs x ths (Sx ++ [y]) (Q ++ if Pt.goes x.vd y = true then Pt.fromP x.vd y else []) := by
  have hry := h.q y List.mem_cons_self
  have hin : ∀ z, z ∈ (if Pt.goes x.vd y = true then Pt.fromP x.vd y else []) → Pt.goes x.vd y = true ∧ z ∈ Pt.fromP x.vd y := fun z hz => by
    split at hz
    · rename_i h1; exact ⟨h1, hz⟩
    · cases hz
  refine ⟨fun z hz => ?_, fun z hz => ?_, fun t h1 h2 => ?_, fun a z h1 h2 h3 => ?_, ?_, fun z hz => ?_, ?_⟩
  · rcases List.mem_append.1 hz with hz | hz
    · exact h.s z hz
    · rw [List.mem_singleton.1 hz]; exact hry
  · rcases List.mem_append.1 hz with hz | hz
    · exact h.q z (List.mem_cons_of_mem _ hz)
    · obtain ⟨k1, k2⟩ := hin z hz; exact .go hry k1 k2
  · rcases h.t t h1 h2 with h3 | h3
    · exact .inl (List.mem_append_left _ h3)
    · rcases List.mem_cons.1 h3 with rfl | h3
      · exact .inl (by simp)
      · exact .inr (List.mem_append_left _ h3)
  · rcases List.mem_append.1 h1 with h1 | h1
    · rcases h.c a z h1 h2 h3 with h4 | h4
      · exact .inl (List.mem_append_left _ h4)
      · rcases List.mem_cons.1 h4 with rfl | h4
        · exact .inl (by simp)
        · exact .inr (List.mem_append_left _ h4)
    · rw [List.mem_singleton.1 h1] at h2 h3
      exact .inr (List.mem_append_right _ (by rw [if_pos h2]; exact h3))
  · rw [List.nodup_append]; exact ⟨h.nd, by simp, fun a ha b hb e => hy (by simp at hb; rw [← hb, ← e]; exact ha)⟩
  · rcases hz with hz | hz
    · rcases List.mem_append.1 hz with hz | hz
      · exact h.u z (.inl hz)
      · rw [List.mem_singleton.1 hz]; exact h.u y (.inr List.mem_cons_self)
    · rcases List.mem_append.1 hz with hz | hz
      · exact h.u z (.inr (List.mem_cons_of_mem _ hz))
      · exact List.mem_append_right _ (fromT_mem (hin z hz).2)
  · have h1 := h.len
    have h2 : (if Pt.goes x.vd y = true then Pt.fromP x.vd y else []).length ≤ x.hs.length := by
      split
      · rw [from_vd]; exact fromT_le ..
      · exact Nat.zero_le _
    rw [List.length_append, List.length_append, List.length_singleton, Nat.add_mul]
    simp only [List.length_cons] at h1
    omega
theorem Bfs.done {x : VwT} {ths Sx : List Int} (h : Bfs x ths Sx []) (y : Int) : y ∈ Sx ↔ Pt.Rch x.vd ths y :=
  ⟨h.s y, fun r => r.least (S := fun z => z ∈ Sx) (fun t h1 h2 => (h.t t h1 h2).resolve_right (by simp)) fun a z h1 h2 h3 => (h.c a z h1 h2 h3).resolve_right (by simp)⟩
theorem Bfs.bound {x : VwT} {ths Sx Q : List Int} (h : Bfs x ths Sx Q) : Sx.length ≤ ths.length + x.hs.length := by
  have := nodup_sub h.nd fun y hy => h.u y (.inl hy)
  simpa using this
theorem Bfs.room {x : VwT} {ths Sx Q : List Int} {y : Int} (h : Bfs x ths Sx (y :: Q)) (hy : y ∉ Sx) : Sx.length < ths.length + x.hs.length := by
  have h2 := (h.step hy).bound
  rw [List.length_append, List.length_singleton] at h2
  omega
end Go.Proofs.YtgafamgacpglcaaGreat


/- part.reach, its walk. -/
-- GU
set_option linter.unusedVariables false
set_option linter.unusedSimpArgs false
namespace Go.Proofs.YtgafamgacpglcaaGreat
open Go.RowKit
set_option maxRecDepth 20000
set_option pp.deepTerms false
set_option pp.deepTerms.threshold 4

abbrev miC (m : Nat) (es : List Ent) (clock : Nat) : Chunk := (m, mapO .i64 es clock)
set_option maxHeartbeats 4000000 in
theorem reach_any (x : VwT) (c : List Value) (vt : Value) (ths : List Int) (l : List Chunk) (hV : VwIn l x c) (hth : IntSl l vt ths) (hn : ths.length ≤ 100) :
    Fn Tryz.prog 38 [.agg (List.toArray c), vt] l fun v l' => ∃ m ch, v = .map (some m) ∧ StI m (Pt.Rch x.vd ths) ch ∧ l' = ch :: l := by
  obtain ⟨a, cap, rfl, hth⟩ := hth
  obtain ⟨vo, vc, vt, vh, hC⟩ := hV.cells
  have hlh := hV.lh
  refine fn_of_body Tryz.func38 rfl rfl fun E => ?_
  simp only [argF, Tryz.ntmps38]
  refine gzU ?_
  refine t_e (e_boxA rfl) rfl rfl rfl ?_
  rintro _ _ ⟨b2, _, rfl, rfl⟩
  refine gzU ?_
  refine t_e e_makeMap rfl rfl rfl ?_
  rintro _ _ ⟨m, _, rfl, rfl⟩
  refine gzU ?_
  refine k_loop (α := Nat × Value × List Chunk) (fun y => [(2, pV b2), (5, .map (some m)), (6, y.2.1), (11, .slice a ths.length cap), (12, .int .i64 (ths.length : Nat)), (13, .int .i64 y.1)]) (fun y => miC m [] 0 :: vwB b2 c :: (y.2.2 ++ l)) (fun y => y.1 ≤ ths.length ∧ OwnSo 3 1 y.2.1 ((ths.take y.1).filter fun t => Pt.kn x.vd t 9).length (((ths.take y.1).filter fun t => Pt.kn x.vd t 9).map intQ) y.2.2) (fun y => ths.length - y.1) (0, .slice none 0 0, []) ⟨Nat.zero_le _, (OwnSl.nil _ _).so⟩ ⟨rfl, rfl, rfl, rfl, rfl, rfl, trivial⟩ .refl ?_
  rintro ⟨i, v, cs⟩ ⟨hi, ho⟩
  simp only at hi ho ⊢
  by_cases hlt : i < ths.length
  · obtain ⟨b, off, rw_, t, fz, rfl, hm, hc⟩ := hth (by omega)
    obtain ⟨y, hy⟩ : ∃ y, ths[i]? = some y := ⟨_, List.getElem?_eq_getElem hlt⟩
    have g1 := hc i y hy
    have hm' : (b, Obj.cells rw_ t fz) ∈ cs ++ l := List.mem_append_right _ hm
    have htk : ths.take (i + 1) = ths.take i ++ [y] := by rw [List.take_add_one, hy]; rfl
    have hv1 := ho.one
    refine gzU ?_
    refine t_q (q_loadL rfl (.tail _ (.head _)) (As.LSub.of_all (n := 86) _ hC.len)) rfl rfl rfl ?_
    refine gzU ?_
    refine t_q (q_call rfl rfl (fun l2 hl => known_any x c y 9 l2 (hV.mono fun c hc => hl _ (.tail _ (.tail _ (List.mem_append_right _ hc)))))) rfl rfl rfl ?_
    have hql : ((ths.take i).filter fun t => Pt.kn x.vd t 9).length ≤ 100 := Nat.le_trans (List.length_filter_le _ _) (by rw [List.length_take]; omega)
    cases hk : Pt.kn x.vd y 9 with
    | false =>
      refine gzU ?_
      refine k_next (i + 1, v, cs) ⟨by omega, ?_⟩ (by simp only; omega) ⟨rfl, rfl, rfl, rfl, rfl, rfl, trivial⟩ .refl
      simp only [htk, List.filter_append, List.filter_cons, hk, Bool.false_eq_true, if_false, List.filter_nil, List.append_nil]
      exact ho
    | true =>
      refine gzU ?_
      refine t_e (e_lit1 (v := intQ y) rfl rfl) rfl rfl rfl ?_
      rintro _ _ ⟨bl, _, rfl, rfl⟩
      refine s_keep (l' := cs ++ ((bl, Obj.cells (List.toArray [intQ y]) 3 (0, 0)) :: miC m [] 0 :: vwB b2 c :: l)) (keep_ac []) ?_
      refine t_e (ce_appendO (k := 1) (yb := 8) (news := [intQ y]) (zs := [.int .i64 0]) (m := 1) rfl rfl rfl ho (List.mem_append_right _ List.mem_cons_self) (fun j u hj => by simpa using hj) rfl (by simp [Value.oneCell', intQ]) (by unfold maxLen; omega) (by omega)) rfl rfl rfl ?_
      rintro v' _ ⟨c2, ho2, rfl⟩
      refine gzU ?_
      refine k_next (i + 1, v', c2) ⟨by omega, ?_⟩ (by simp only; omega) ⟨rfl, rfl, rfl, rfl, rfl, rfl, trivial⟩ (keep_ac [(bl, Obj.cells (List.toArray [intQ y]) 3 (0, 0))])
      simp only [htk, List.filter_append, List.filter_cons, hk, if_true, List.filter_nil, List.length_append, List.map_append, List.map_cons, List.map_nil]
      exact ho2
  obtain rfl : i = ths.length := by omega
  rw [List.take_length] at ho
  refine gzU ?_
  have hb0 := Bfs.zero x ths
  refine k_loop (α := List Int × List Int × Value × List Chunk × List Ent × Nat) (fun y => [(2, pV b2), (5, .map (some m)), (6, y.2.2.1)]) (fun y => miC m y.2.2.2.2.1 y.2.2.2.2.2 :: vwB b2 c :: (y.2.2.2.1 ++ l)) (fun y => Bfs x ths y.1 y.2.1 ∧ SetE (fun z => z ∈ y.1) y.2.2.2.2.1 y.2.2.2.2.2 ∧ OwnSo 3 1 y.2.2.1 y.2.1.length (y.2.1.map intQ) y.2.2.2.1) (fun y => (ths.length + x.hs.length - y.1.length) * (x.hs.length + 1) + y.2.1.length) ([], _, v, cs, [], 0) ⟨hb0, SetE.zero.congr (by simp), ho⟩ ⟨rfl, rfl, rfl, trivial⟩ .refl ?_
  rintro ⟨Sx, Q, v, cs, es, clock⟩ ⟨hB, hE, ho⟩
  simp only at hB hE ho ⊢
  have hbl := hB.bound
  have hql := hB.len
  have hq2 : Sx.length * x.hs.length ≤ 200 * 100 := Nat.mul_le_mul (by omega) (by omega)
  cases Q with
  | nil =>
    obtain ⟨p, cp, rfl⟩ := ho.shape
    refine gzU ?_
    exact k_ret [] rfl (l' := miC m es clock :: l) (keep_ac (vwB b2 c :: cs)) (by exact zRes) ⟨m, _, rfl, ⟨es, clock, rfl, hE.congr fun z => (hB.done z).symm⟩, rfl⟩
  | cons y Q =>
    have hso := ho
    rcases ho.2 with ⟨_, h0, _⟩ | ⟨gb, go, cp, pre, sp, post, rfl, rfl, rfl, hnc, hcm, hcl⟩
    · simp at h0
    simp only [List.length_cons] at hnc hso hql ⊢
    have hget : (List.toArray (pre ++ ((y :: Q).map intQ ++ (sp ++ post))))[pre.length + (0 : Int).toNat * 1]? = some (intQ y) := by simp
    refine gzU ?_
    refine t_q (q_load (v := intQ y) rfl (.tail _ (.tail _ (.head _))) hget) rfl rfl rfl ?_
    refine gzU ?_
    refine t_q (q_slice (l0 := 1) (h0 := Q.length + 1) (m0 := cp) (off' := if cp = 1 then pre.length else pre.length + 1 * 1) (n' := Q.length) (c' := cp - 1) rfl (.some rfl (by omega) rfl) .none .none (by simp) (by omega) (by omega) (by omega) rfl (by omega) rfl) rfl rfl rfl ?_
    have hs2 : OwnSo 3 1 (.slice (some ⟨gb, if cp = 1 then pre.length else pre.length + 1 * 1, none⟩) Q.length (cp - 1)) Q.length (Q.map intQ) [(gb, Obj.cells (List.toArray (pre ++ ((y :: Q).map intQ ++ (sp ++ post)))) 3 (0, 0))] := hso.tail (x := [intQ y]) rfl
    refine gzU ?_
    by_cases hy : y ∈ Sx
    · rw [getE_S, hE.yes hy]
      simp only [Option.getD_some]
      refine gzU ?_
      refine k_next (Sx, Q, _, _, es, clock) ⟨hB.skip hy, hE, hs2⟩ (by simp only [List.length_cons]; omega) ⟨rfl, rfl, rfl, trivial⟩ .refl
    rw [getE_S, hE.no hy]
    simp only [Option.getD_none]
    have hroom := hB.room hy
    have hB2 := hB.step hy
    refine gzU ?_
    refine t_n (e_mapUpdate rfl rfl rfl .here) rfl rfl ?_
    rintro _ _ ⟨rfl, rfl⟩
    rw [setE_S]
    have hE2 := (hE.put y).congr (T := fun z => z ∈ Sx ++ [y]) (fun z => by simp)
    obtain ⟨es2, clock2, hes⟩ : ∃ es2 clock2, setS y (.int .i64 1) clock es = (es2, clock2) := ⟨_, _, rfl⟩
    rw [hes] at hE2 ⊢
    simp only at hE2 ⊢
    generalize hV6 : Value.slice (some ⟨gb, if cp = 1 then pre.length else pre.length + 1 * 1, none⟩) Q.length (cp - 1) = V6 at hs2 ⊢
    generalize hcs2 : [(gb, Obj.cells (List.toArray (pre ++ ((y :: Q).map intQ ++ (sp ++ post)))) 3 (0, 0))] = cs2 at hs2 ⊢
    have hV6o := hs2.one
    obtain ⟨D, hD⟩ : ∃ D, ths.length + x.hs.length - Sx.length = D + 1 := ⟨ths.length + x.hs.length - Sx.length - 1, by omega⟩
    have hmu : (ths.length + x.hs.length - Sx.length) * (x.hs.length + 1) = D * (x.hs.length + 1) + (x.hs.length + 1) := by rw [hD, Nat.succ_mul]
    have hmu2 : ths.length + x.hs.length - (Sx ++ [y]).length = D := by rw [List.length_append, List.length_singleton]; omega
    have hVt : ∀ l2 : List Chunk, (∀ q, q ∈ miC m es2 clock2 :: vwB b2 c :: (cs2 ++ l) → q ∈ l2) → VwIn l2 x c := fun l2 hl => hV.mono fun q hq => hl q (.tail _ (.tail _ (List.mem_append_right _ hq)))
    iterate 2 refine gzSU ?_
    refine c_join (α := Unit) (fun _ => [(2, pV b2), (5, .map (some m)), (6, V6), (9, intQ y), (46, .bool (Pt.goes x.vd y))]) (fun _ => miC m es2 clock2 :: vwB b2 c :: (cs2 ++ l)) (fun _ => True) ?_ ?_
    · refine gzU ?_
      refine t_q (q_loadL rfl (.tail _ (.head _)) (As.LSub.of_all (n := 86) _ hC.len)) rfl rfl rfl ?_
      refine gzU ?_
      refine t_q (q_call rfl rfl (fun l2 hl => known_any x c y 2 l2 (hVt l2 hl))) rfl rfl rfl ?_
      cases h2 : Pt.kn x.vd y 2 with
      | true =>
        refine gzU ?_
        refine p_join () trivial ⟨rfl, rfl, rfl, rfl, ?_, trivial⟩ .refl
        simp [Pt.goes, h2]; rfl
      | false =>
        refine gzU ?_
        refine t_h (q_loadL rfl (.tail _ (.head _)) (As.LSub.of_all (n := 86) _ hC.len)) rfl rfl rfl ?_
        refine gzU ?_
        refine t_h (q_call rfl rfl (fun l2 hl => known_any x c y 9 l2 (hVt l2 hl))) rfl rfl rfl ?_
        refine gzU ?_
        refine p_join () trivial ⟨rfl, rfl, rfl, rfl, ?_, trivial⟩ .refl
        simp [Pt.goes, h2]; rfl
    · rintro _ _
      cases hg : Pt.goes x.vd y with
      | false =>
        rw [hg] at hB2
        simp only [Bool.false_eq_true, if_false, List.append_nil] at hB2
        refine gzU ?_
        exact k_next (Sx ++ [y], Q, V6, cs2, es2, clock2) ⟨hB2, hE2, hs2⟩ (by simp only [hmu2, hmu, List.length_cons]; omega) ⟨rfl, rfl, rfl, trivial⟩ .refl
      | true =>
        rw [hg] at hB2
        simp only [if_true, from_vd] at hB2
        have hfl := fromT_le x y x.hs
        refine gzU ?_
        refine t_q (q_loadL rfl (.tail _ (.head _)) (As.LSub.of_all (n := 86) _ hC.len)) rfl rfl rfl ?_
        refine gzU ?_
        refine t_e (e_call0 rfl rfl (from_any c hC.len y _)) rfl rfl rfl ?_
        rintro _ _ ⟨B2, B3, rfl, rfl⟩
        refine s_keep (l' := cs2 ++ (inX B3 y :: vwB B2 c :: miC m es2 clock2 :: vwB b2 c :: l)) (keep_ac []) ?_
        refine t_e (e_call0 rfl rfl (appendQ_any 132 [pV B2, pV B3] _ x.hs.length _ (from_iter x c y B2 B3) (by omega) V6 Q.length Q cs2 hs2 (by omega) (inX B3 y :: vwB B2 c :: miC m es2 clock2 :: vwB b2 c :: l) (fun _ l2 hl => ⟨hl _ (.tail _ (.head _)), hl _ (.head _), hV.mono fun q hq => hl q (.tail _ (.tail _ (.tail _ (.tail _ hq))))⟩))) rfl rfl rfl ?_
        rintro v _ ⟨ys, cs3, rfl, ho3, rfl⟩
        refine gzU ?_
        refine k_next (Sx ++ [y], Q ++ fromT x y x.hs, v, cs3, es2, clock2) ⟨hB2, hE2, ?_⟩ (by simp only [hmu2, hmu, List.length_cons]; rw [List.length_append]; omega) ⟨rfl, rfl, rfl, trivial⟩ (keep_ac [inX B3 y, vwB B2 c])
        rw [List.length_append]
        exact ho3
end Go.Proofs.YtgafamgacpglcaaGreat


/- maps.Clone: a map beside nil, into an interface and back, the entry that copies it. An array's element by value. Laws of my own, no program's. -/
set_option linter.unusedVariables false
set_option linter.unusedSimpArgs false
namespace Go.Proofs.YtgafamgacpglcaaGreat
open Go.RowKit

section
variable {P : Program} {ro : Option Nat} {N : Nat} {fr : Fr} {R l : List Chunk} {d : Option Nat} {ty : TypeId} {pos : String} {aft : Array Edge} {g : Option (Nat × Bool)} {x y z : Operand} {v u w : Value} {b m : Nat} {t t2 T kt et : TypeId}
theorem eqGuard_map {op : BinOp} {p q : Option Nat} {α : Type} {f : Unit → Sem α} {Q : α → List Chunk → Prop} : sl P (eqGuard op t x y (.map p) (.map q) >>= f) l Q ↔ sl P (f ()) l Q := by
  unfold eqGuard
  cases op <;> exact Iff.rfl
theorem q_eqnilmap (hx : ev fr x = some (.map (some m))) (hy : ev fr y = some (.map none)) [c : MT P t kt et] : OpQ P ro N fr R ⟨d, .binOp .eql t x y t2, ty, pos, aft, g⟩ (.bool false) := opQ_of_sl rfl fun ρ l hρ _ => by
  simp only [execOp, hρ x _ hx, hρ y _ hy]
  rw [sl_bind, eqGuard_map]
  simp only [binOp, sl_bind]
  unfold Op.equal Op.maxDepth Op.equalIn
  rw [sl_under (mtV_spec c.out)]
  exact ⟨rfl, rfl⟩
theorem q_makeIface (hx : ev fr x = some v) [c : MT P t kt et] : OpQ P ro N fr R ⟨d, .makeInterface t x, ty, pos, aft, g⟩ (.iface t v) := opQ_of_sl rfl fun ρ l hρ _ => by
  simp only [execOp, hρ x _ hx]
  rw [sl_bind]
  unfold Instr.makeInterface
  rw [sl_under (mtV_spec c.out)]
  exact ⟨rfl, rfl⟩
theorem q_assertMap {xT : TypeId} (hx : ev fr x = some (.iface t v)) [c : MT P t kt et] : OpQ P ro N fr R ⟨d, .typeAssert x xT t false, ty, pos, aft, g⟩ v := opQ_of_sl rfl fun ρ l hρ _ => by
  simp only [execOp, hρ x _ hx]
  rw [sl_bind]
  unfold Instr.typeAssert
  rw [sl_under (mtV_spec c.out)]
  simp only [if_true]
  exact ⟨rfl, rfl⟩
/-- a function of the library for which the model stands in -/
class XF (P : Program) (f : Nat) (e : outParam (Array Value → Sem Value)) : Prop where
  out : ∃ fn, P.funcs[f]? = some fn ∧ (fn.name == "runtime.NumGoroutine") = false ∧ fn.body.isNone = true ∧ Extern.findNext fn = none ∧ Extern.find fn = some e
theorem e_clone {f : Nat} {es : Array MapEntry} {clock : Nat} {at_ : Array TypeId} (hx : ev fr x = some (.func (.func f) #[] #[])) (hy : ev fr y = some (.iface t (.map (some m)))) [c : XF P f Extern.MapsClone.clone] (hm : (m, Obj.map es clock) ∈ l) :
    OpE P ro N fr l ⟨d, .call { callee := .value x, args := #[y], argTypes := at_ }, ty, pos, aft, g⟩ (fun v' l' => ∃ b, v' = .iface t (.map (some b)) ∧ l' = (b, .map es clock) :: l) := by
  obtain ⟨fn, h1, h2, h3, h4, h5⟩ := c.out
  refine ⟨rfl, fun E a W hf hs => ?_⟩
  have hρ := hf.agrees
  have hb : W.heap[m]? = some (.map es clock) := hs.has _ hm
  have hcl : (Extern.MapsClone.clone #[.iface t (.map (some m))]).run P W = .ok (.iface t (.map (some W.heap.size))) (W.alloc (.map es clock)) := by
    have e : Extern.MapsClone.clone #[.iface t (.map (some m))] = (getObj m >>= fun o => match o with
        | .map entries clock => (newObj (.map entries clock) >>= fun n => pure (.iface t (.map (some n))))
        | _ => stuck "maps.clone: a map expected") := rfl
    rw [e, Sem.run_bind]
    have e2 : (getObj m).run P W = .ok (.map es clock) W := by
      show (Sem.getObj m _).run P W = _
      simp [Sem.run, hb]
    rw [e2]
    simp only [Result.andThen]
    rw [Sem.run_bind]
    rfl
  unfold OpVal
  have e : (execOp a.eval ⟨d, .call { callee := .value x, args := #[y], argTypes := at_ }, ty, pos, aft, g⟩).run P W = .ok (.value (.iface t (.map (some W.heap.size)))) (W.alloc (.map es clock)) := by
    have h6 := run_callFunc_extern h1 h2 h3 h4 h5 #[.iface t (.map (some m))] W
    rw [hcl] at h6
    simp only [Result.andThen] at h6
    simp [execOp, resolve, hρ x _ hx, Deferred.ofValue, invoke, hρ y _ hy]
    exact h6
  rw [e]
  exact ⟨_, ⟨W.heap.size, rfl, rfl⟩, hs.alloc _⟩
theorem q_idxA {n e k k' i : Nat} {cs ws : List Value} {ki : IntKind} (hx : ev fr x = some (.agg (List.toArray cs))) (hy : ev fr y = some (.int ki (i : Nat))) [c : AT P t n e k] [c2 : AG P e k'] (hi : i < n) (hw : (cs.drop (i * k)).take k = ws) : OpQ P ro N fr R ⟨d, .index t x y, ty, pos, aft, g⟩ (.agg (List.toArray ws)) := opQ_of_sl rfl fun ρ l hρ _ => by
  obtain ⟨inf, h1, h2, h3⟩ := atV_spec c.out
  obtain ⟨u, inf2, u1, u2, u3, u4⟩ := agV_spec c2.out
  rw [h2] at u3
  cases u3
  subst hw
  simp only [execOp, hρ x _ hx, hρ y _ hy]
  rw [sl_bind]
  unfold Instr.index
  simp only [asIntOf, sl_bind, sl_pure]
  rw [← sl_bind, sl_under h1]
  simp only
  rw [if_pos ⟨by omega, by omega⟩, sl_sizeOf h2]
  have := sl_pieceA (P := P) (f := fun v => (pure v : Sem Value)) (l := l) (Q := fun a l' => sl P (pure (Next.value a)) l' fun nx l' => nx = .value (.agg (List.toArray ((cs.drop (i * k)).take k))) ∧ l' = l) u1 u2 h2 cs (i * k)
  rw [sl_bind] at this
  rw [Int.toNat_natCast, h3]
  rw [h3] at this
  exact this.2 ⟨rfl, rfl⟩
theorem q_idxV {n e k i : Nat} {cs : List Value} {ki : IntKind} (hx : ev fr x = some (.agg (List.toArray cs))) (hy : ev fr y = some (.int ki (i : Nat))) [c : AT P t n e k] [c2 : OC P e] (hi : i < n) (hv : cs[i * k]? = some v) : OpQ P ro N fr R ⟨d, .index t x y, ty, pos, aft, g⟩ v := opQ_of_sl rfl fun ρ l hρ _ => by
  obtain ⟨inf, h1, h2, h3⟩ := atV_spec c.out
  obtain ⟨u, inf2, u1, u2, _, _⟩ := ocV_spec c2.out
  simp only [execOp, hρ x _ hx, hρ y _ hy]
  rw [sl_bind]
  unfold Instr.index
  simp only [asIntOf, sl_bind, sl_pure]
  rw [← sl_bind, sl_under h1]
  simp only
  rw [if_pos ⟨by omega, by omega⟩, sl_sizeOf h2]
  have := sl_pieceS (P := P) (f := fun v => (pure v : Sem Value)) (l := l) (Q := fun a l' => sl P (pure (Next.value a)) l' fun nx l' => nx = .value v ∧ l' = l) u1 u2 cs (i * k) hv
  rw [sl_bind] at this
  rw [Int.toNat_natCast, h3]
  exact this.2 ⟨rfl, rfl⟩
end
end Go.Proofs.YtgafamgacpglcaaGreat

