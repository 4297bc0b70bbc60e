/- A region that draws its order, with two effects whose order is open: a plan for each. Laws of my own, no program's. -/
import Derived.Test.YtmmohklaiffkmaaS7
set_option linter.unusedVariables false
set_option linter.unusedSimpArgs false
namespace Go.Proofs.Ytmmohklaiffkmaa
open Go.RowKit

section
variable {P : Program} {ro : Option Nat} {N : Nat} {E : World} {ops : Array Oper} {Q : Exit → Act → World → Prop} {R : List Chunk}
theorem pairOk_sw {tbl : List (List Nat)} {sw sw' : Sw} {x y : PlanOp} (h : pairOk ops tbl sw x y = true) (hn : ¬ sw = some (x.1, y.1)) : pairOk ops tbl sw' x y = true := by
  unfold pairOk at h ⊢
  simp only [Bool.and_eq_true, Bool.or_eq_true] at h ⊢
  obtain ⟨⟨h1, h2⟩, h3⟩ := h
  refine ⟨⟨.inl ?_, h2⟩, h3⟩
  rcases h1 with h1 | h1
  · exact h1
  · exact absurd (swOk_spec h1) hn
theorem Way.swap {tbl : List (List Nat)} {i j : Nat} (hij : i ≠ j) {sp : Spec} {listed : Array Bool} {pend : List (PlanOp × Value)} {o : Oper} {rest : List PlanOp} {Φ : Act → Prop} {l : List Chunk} {a : Act} {W : World} (h : Way P ro E ops Q R tbl (some (i, j)) (AltOf P ro E ops Q R tbl) sp listed pend ((i, false, o) :: rest) Φ l a W) (hjr : ∃ x, x ∈ rest ∧ x.1 = j) :
    ∃ alt, alt.Perm ((i, false, o) :: rest) ∧ Way P ro E ops Q R tbl (some (j, i)) (fun _ _ _ _ _ => True) sp listed pend alt Φ l a W := by
  obtain ⟨i', alt, ⟨o', rest', e⟩, hp, hpo, hjf, hpl⟩ := h.plan.2 j rfl
  cases e
  have hmem : ∀ x, x ∈ pend.map Prod.fst ++ alt ↔ x ∈ pend.map Prod.fst ++ (i, false, o) :: rest := fun x => by
    rw [List.mem_append, List.mem_append, hp.mem_iff]
  have hq : ∀ q, q ∈ pend → q.1.2.1 = true := fun q hq => by
    obtain ⟨q1, q2, rfl⟩ := List.append_of_mem hq
    exact (h.quiet q1 q.1 q.2 q2 rfl).1
  have hqi : ∀ q, q ∈ pend → ∀ y : Nat, ¬ (some (i, j) : Sw) = some (q.1.1, y) := fun q hqm y e => by
    have := h.swf q.1 (List.mem_append_left _ (List.mem_map.2 ⟨q, hqm, rfl⟩)) _ e
    rw [hq q hqm] at this; cases this
  obtain ⟨k1, k2⟩ := pairsOk_spec hpo
  obtain ⟨p1, p2, p3⟩ := List.pairwise_append.1 h.pairs
  refine ⟨alt, hp, ⟨h.phi, h.sub, h.sat, hpl, h.quiet, h.size, fun k hk => ?_, fun x hx => h.num x ((hmem x).1 hx), fun x hx => h.self x ((hmem x).1 hx), ?_, fun x hx y e => ?_, h.down⟩⟩
  · rw [h.un k hk]
    exact ⟨fun ⟨x, hx, e⟩ => ⟨x, (hmem x).2 hx, e⟩, fun ⟨x, hx, e⟩ => ⟨x, (hmem x).1 hx, e⟩⟩
  · refine List.pairwise_append.2 ⟨?_, k2, fun x hx y hy => ?_⟩
    · refine List.Pairwise.imp_of_mem (fun {x y} hx hy hxy => ?_) p1
      obtain ⟨q, hqm, rfl⟩ := List.mem_map.1 hx
      exact pairOk_sw hxy (hqi q hqm _)
    · obtain ⟨q, hqm, rfl⟩ := List.mem_map.1 hx
      exact pairOk_sw (p3 _ hx y (hp.mem_iff.1 hy)) (hqi q hqm _)
  · have e1 : x.1 = j := by cases e; rfl
    rcases List.mem_append.1 hx with hx' | hx'
    · -- what is pending is quiet: the other one of the pair is an effect of the rest, and the numbers are all unlike
      exfalso
      obtain ⟨q, hqm, rfl⟩ := List.mem_map.1 hx'
      obtain ⟨y, hy, hyj⟩ := hjr
      exact (pairOk_spec (p3 _ hx' y (List.mem_cons_of_mem _ hy))).2.2 (by rw [e1, hyj])
    · exact hjf x hx' e1
theorem Way.any2 {tbl : List (List Nat)} {i j : Nat} (hij : i ≠ j) (ht : tblOk ops tbl = true) : ∀ (fuel : Nat) (sp : Spec) (listed : Array Bool) (pend : List (PlanOp × Value)) (rest : List PlanOp) (Φ : Act → Prop) (l : List Chunk) (a : Act) (W : World), Way P ro E ops Q R tbl (some (i, j)) (AltOf P ro E ops Q R tbl) sp listed pend rest Φ l a W → pend.length + rest.length ≤ fuel → wpAnyIn (Fw ro) 0 P .any ops Q fuel listed a W := by
  intro fuel
  induction fuel with
  | zero =>
    intro sp listed pend rest Φ l a W h hl
    have hp : pend = [] := List.length_eq_zero_iff.1 (by omega)
    have hr : rest = [] := List.length_eq_zero_iff.1 (by omega)
    subst hp hr
    have h0 : Region.ready .any ops listed = [] := by
      cases hrd : Region.ready .any ops listed with
      | nil => rfl
      | cons j r =>
        exfalso
        have hj : j ∈ Region.ready .any ops listed := by rw [hrd]; exact List.mem_cons_self
        obtain ⟨h1, o, ho, _⟩ := mem_ready.1 hj
        obtain ⟨x, hx, _⟩ := (h.un j (Array.getElem?_eq_some_iff.1 ho).1).1 h1
        simp at hx
    exact ⟨h0, h.fin h0⟩
  | succ fuel ih =>
    intro sp listed pend rest Φ l a W h hl
    refine ⟨fun h0 => h.fin h0, fun k hk => ?_⟩
    obtain ⟨h1, o, ho, hall⟩ := mem_ready.1 hk
    have hklt : k < ops.size := (Array.getElem?_eq_some_iff.1 ho).1
    obtain ⟨x, hx, hxj⟩ := (h.un k hklt).1 h1
    rcases List.mem_append.1 hx with hxp | hxr
    · obtain ⟨⟨x', v⟩, hm, rfl⟩ := List.mem_map.1 hxp
      obtain ⟨p1, p2, rfl⟩ := List.append_of_mem hm
      simp only at hxj hx
      subst hxj
      refine StepV.op (h.num x' hx) (selfOk_spec (h.self x' hx)).2.1 (h.pend_step ht hk) fun u W' hw => ih _ _ _ _ _ _ _ _ hw (by simp at hl ⊢; omega)
    · rcases Way.reach ht hk rest _ pend Φ h ⟨x, hxr, hxj⟩ with ⟨i', o', sp', pend', rest', Φ', hi, hf, hway, hlen, hjr⟩ | ⟨o', next, k1, k2, k3, k4⟩
      · cases hi
        obtain ⟨alt, hperm, hway2⟩ := hway.swap hij hjr
        have hal := hperm.length_eq
        rw [List.length_cons] at hal
        obtain ⟨y, hy, hyj⟩ := hjr
        have hyalt : y ∈ alt := hperm.mem_iff.2 (List.mem_cons_of_mem _ hy)
        rcases Way.reach ht hk alt _ pend' Φ' hway2 ⟨y, hyalt, hyj⟩ with ⟨i2, _, _, _, _, _, hi2, _, _, _⟩ | ⟨o', next, k1, k2, k3, k4⟩
        · exfalso
          have : j = i2 ∧ i = j := by cases hi2; exact ⟨rfl, rfl⟩
          exact hij this.2
        · refine StepV.op k1 k2 k3 fun u W' hw => ?_
          obtain ⟨sp2, p', r', Φ2, l2, hw2, hlen2⟩ := k4 u W' hw
          refine Way.any ht fuel _ _ _ _ _ _ _ _ hw2 (fun a b hab => ?_) (by omega)
          cases hab
          rw [getD_tf (by rw [hw2.size]; exact hklt), getD_set_same (by rw [h.size]; exact hklt)]
      · refine StepV.op k1 k2 k3 fun u W' hw => ?_
        obtain ⟨sp2, p', r', Φ2, l2, hw2, hlen⟩ := k4 u W' hw
        exact ih _ _ _ _ _ _ _ _ hw2 (by omega)
def planOk2 (os : List Oper) (plan : List (Nat × Bool)) (tbl : List (List Nat)) (i j : Nat) : Bool :=
  tblOk os.toArray tbl && pairsOk os.toArray tbl (some (i, j)) (attachF os plan) && decide (plan.length ≤ os.length) && ((List.range os.length).all fun i => (plan.map Prod.fst).contains i) && (plan.all fun x => !(x.1 == i) || !x.2) && i != j
/-- a region that draws its order, with a pair of effects whose order is open -/
theorem c_draw2 {k : Nat} {os : List Oper} {fr : Fr} {ds : List Deferred} {l : List Chunk} {pl : List PlanOp} (plan : List (Nat × Bool)) (tbl : List (List Nat)) (i j : Nat) (R : List Chunk) (hm : P.follows .mixedOrders = true) (hv : planOk2 os plan tbl i j = true) (ha : Attach os plan pl) (hR : ∀ c, c ∈ R → c ∈ l)
    (h : PlanS P ro N E os.toArray Q R tbl (some (i, j)) [] pl fr ds l) : CodeS P ro N E (.region k os.toArray true) Q fr ds l := by
  unfold planOk2 at hv
  simp only [Bool.and_eq_true, bne_iff_ne, ne_eq] at hv
  obtain ⟨⟨⟨⟨⟨ht, hp⟩, hle⟩, hall⟩, hif⟩, hij⟩ := hv
  rw [ha.fun_eq] at hp
  obtain ⟨h1, h2⟩ := pairsOk_spec hp
  obtain ⟨n1, n2⟩ := ha.spec
  have hat : ∀ x, x ∈ pl → (x.1, x.2.1) ∈ plan := by
    clear h1 h2 n1 n2 hp hle hall hif ht hR h
    intro x hx
    induction ha with
    | nil => cases hx
    | cons h0 _ ih =>
      rcases List.mem_cons.1 hx with rfl | hx
      · exact List.mem_cons_self
      · exact List.mem_cons_of_mem _ (ih hx)
  refine ⟨fun a W hf hds hs => wpIn_region_any hm ?_⟩
  have hpl : pl.length ≤ os.toArray.size := by
    have h3 := congrArg List.length n2
    simp only [List.length_map] at h3
    rw [h3]
    simpa using hle
  refine Way.any2 hij ht _ [] _ [] pl (fun a => FSat N fr a ∧ a.defers = ds) l a _ ⟨⟨hf, hds⟩, hR, hs.drawn _, h.sem [] (fun x hx => by cases hx), fun p1 x v p2 e => by simp at e, by simp, ?_, by simpa using n1, by simpa using h1, by simpa using h2, (fun x hx y e => ?_), ?_⟩ (by simpa using hpl)
  · intro i hi
    have hi' : i < os.length := by simpa using hi
    have e : (Array.replicate os.toArray.size false).getD i true = false := by simp [Array.getD_eq_getD_getElem?, Array.getElem?_replicate, hi']
    rw [e]
    simp only [List.map_nil, List.nil_append, true_iff]
    have := List.all_eq_true.1 hall i (by simpa using hi)
    rw [← n2] at this
    simp only [List.contains_iff_mem, List.mem_map] at this
    exact this
  · have hxi : x.1 = i := by cases e; rfl
    have := List.all_eq_true.1 hif _ (hat x (by simpa using hx))
    rw [hxi] at this
    simpa using this
  · intro j o _ hl
    exfalso
    simp [Array.getD_eq_getD_getElem?, Array.getElem?_replicate] at hl
    split at hl <;> simp at hl
/-- the two orders, each walked by itself -/
theorem pl_alt {i j : Nat} {sp : Spec} {tbl : List (List Nat)} {os : List Oper} {o : Oper} {rest alt : List PlanOp} {fr : Fr} {ds : List Deferred} {l : List Chunk} (plan2 : List (Nat × Bool)) (ha : Attach os plan2 alt) (hp : alt.Perm ((i, false, o) :: rest)) (hpo : (pairsOk os.toArray tbl (some (j, i)) (attachF os plan2) && plan2.all fun x => !(x.1 == j) || !x.2) = true)
    (h1 : PlanS P ro N E os.toArray Q R tbl none sp ((i, false, o) :: rest) fr ds l) (h2 : PlanS P ro N E os.toArray Q R tbl none sp alt fr ds l) : PlanS P ro N E os.toArray Q R tbl (some (i, j)) sp ((i, false, o) :: rest) fr ds l := by
  rw [Bool.and_eq_true] at hpo
  rw [ha.fun_eq] at hpo
  refine .alt hp hpo.1 ?_ h1 h2
  have hat : ∀ x, x ∈ alt → (x.1, x.2.1) ∈ plan2 := by
    clear h1 h2 hpo hp
    intro x hx
    induction ha with
    | nil => cases hx
    | cons h0 _ ih =>
      rcases List.mem_cons.1 hx with rfl | hx
      · exact List.mem_cons_self
      · exact List.mem_cons_of_mem _ (ih hx)
  exact List.all_eq_true.2 fun x hx => List.all_eq_true.1 hpo.2 _ (hat x hx)
end
end Go.Proofs.Ytmmohklaiffkmaa
