/- A region that draws its order, whose effects are stores at places apart in one block: they may come in any order. Laws of my own, no program's. A range over an iterator that keeps blocks of its own. Laws of my own, no program's. phys: New, and Zero on noughts. Blocks in another order, told by counting; calls on blocks that stand further behind. Laws of my own, no program's. tlb.New, cores.New. copy, cap, append of zeros, slices.overlaps. Laws of my own, no program's. slices.Insert of one struct. slices.Delete of one struct; cells laid over a row. Rows of numbers told by a function. Low. From a contract on all blocks to the form that a statement's last step wants. Arena: the state as plain data and its blocks. Arena: New, the iterator's closure, carve's and kinds' functions, apart, Next. Laws that the statement's proof leans on. -/
import Derived.Test.YtcjknmpogkofpaaGreatBa2
import Derived.Test.YtcjknmpogkofpaaGreatBa5
import Derived.Lib.Overlaps
import Derived.Laws.CopyRow
import Derived.Test.YtcjknmpogkofpaaGreatBa3
import Derived.Test.YtcjknmpogkofpaaGreatBa4
import Derived.Below
import Derived.Test.YtcjknmpogkofpaaGreatBa1
/- A region that draws its order, whose effects are stores at places apart in one block: they may come in any order. Laws of my own, no program's. -/
set_option linter.unusedVariables false
set_option linter.unusedSimpArgs false
namespace Go.Proofs.YtcjknmpogkofpaaGreat
open Go.RowKit

theorem setFrom_at (vs : List Value) : ∀ (cs : Array Value) (off k : Nat), (setFrom cs off vs)[k]? = if off ≤ k ∧ k < off + vs.length ∧ k < cs.size then vs[k - off]? else cs[k]? := by
  induction vs with
  | nil => intro cs off k; rw [if_neg (by simp; omega)]; rfl
  | cons v r ih =>
    intro cs off k
    show (setFrom (cs.setIfInBounds off v) (off + 1) r)[k]? = _
    rw [ih, Array.size_setIfInBounds]
    by_cases h1 : off + 1 ≤ k ∧ k < off + 1 + r.length ∧ k < cs.size
    · rw [if_pos h1, if_pos (by simp; omega), show k - off = (k - (off + 1)) + 1 by omega]; rfl
    · rw [if_neg h1, Array.getElem?_setIfInBounds]
      by_cases h2 : off = k
      · subst h2
        rw [if_pos rfl]
        by_cases h3 : off < cs.size
        · rw [if_pos h3, if_pos (by simp; omega), Nat.sub_self]; rfl
        · rw [if_neg h3, if_neg (by omega), Array.getElem?_eq_none (by omega)]
      · rw [if_neg h2, if_neg (by simp; omega)]
/-- stores at places apart, the other way round -/
theorem setFrom_comm (cs : Array Value) (o1 o2 : Nat) (v1 v2 : List Value) (h : o1 + v1.length ≤ o2 ∨ o2 + v2.length ≤ o1) : setFrom (setFrom cs o1 v1) o2 v2 = setFrom (setFrom cs o2 v2) o1 v1 := by
  refine Array.ext_getElem? fun k => ?_
  rw [setFrom_at, setFrom_at, setFrom_at, setFrom_at, setFrom_size, setFrom_size]
  by_cases h1 : o1 ≤ k ∧ k < o1 + v1.length ∧ k < cs.size
  · rw [if_neg (by omega), if_pos h1, if_pos h1]
  · rw [if_neg h1, if_neg h1]
/-- a store: its number, its operation, its place, its cells -/
abbrev StG := Nat × Oper × Nat × List Value
def setAll (cs : Array Value) : List StG → Array Value
  | [] => cs
  | g :: r => setAll (setFrom cs g.2.2.1 g.2.2.2) r
def toPl (g : StG) : PlanOp := (g.1, false, g.2.1)
def gPairs (gs : List StG) : List (Nat × Nat) := gs.flatMap fun x => gs.map fun y => (x.1, y.1)
def gOk2 (x y : StG) : Bool := (x.2.1.after.all fun e => !Region.binds .any e || e.on != y.1) && (y.2.1.after.all fun e => !Region.binds .any e || e.on != x.1) && x.1 != y.1 && (decide (x.2.2.1 + x.2.2.2.length ≤ y.2.2.1) || decide (y.2.2.1 + y.2.2.2.length ≤ x.2.2.1))
def gOk (ops : Array Oper) : List StG → Bool
  | [] => true
  | x :: r => selfOk ops (toPl x) && r.all (gOk2 x) && gOk ops r
theorem gOk2_sym {x y : StG} (h : gOk2 x y = true) : gOk2 y x = true := by
  unfold gOk2 at h ⊢
  simp only [Bool.and_eq_true, Bool.or_eq_true, bne_iff_ne, ne_eq] at h ⊢
  exact ⟨⟨⟨h.1.1.2, h.1.1.1⟩, fun e => h.1.2 e.symm⟩, h.2.symm⟩
theorem gOk_spec {ops : Array Oper} : ∀ {gs : List StG}, gOk ops gs = true → (∀ x, x ∈ gs → selfOk ops (toPl x) = true) ∧ gs.Pairwise (fun x y => gOk2 x y = true)
  | [], _ => ⟨by simp, .nil⟩
  | x :: r, h => by
    simp only [gOk, Bool.and_eq_true] at h
    obtain ⟨⟨h1, h2⟩, h3⟩ := h
    obtain ⟨k1, k2⟩ := gOk_spec h3
    exact ⟨fun y hy => by rcases List.mem_cons.1 hy with rfl | hy; exact h1; exact k1 y hy, List.pairwise_cons.2 ⟨fun y hy => List.all_eq_true.1 h2 y hy, k2⟩⟩
theorem setAll_out (g : StG) (B : List StG) : ∀ (A : List StG) (cs : Array Value), (∀ x, x ∈ A → gOk2 x g = true) → setAll cs (A ++ g :: B) = setAll (setFrom cs g.2.2.1 g.2.2.2) (A ++ B)
  | [], cs, _ => rfl
  | x :: A, cs, h => by
    show setAll (setFrom cs x.2.2.1 x.2.2.2) (A ++ g :: B) = setAll (setFrom (setFrom cs g.2.2.1 g.2.2.2) x.2.2.1 x.2.2.2) (A ++ B)
    have hx := h x (.head _)
    unfold gOk2 at hx
    simp only [Bool.and_eq_true, Bool.or_eq_true, decide_eq_true_eq] at hx
    rw [setAll_out g B A _ fun y hy => h y (.tail _ hy), setFrom_comm _ _ _ _ _ hx.2]
/-- the store of a number, and the others -/
def pickG (j : Nat) : List StG → Option (StG × List StG)
  | [] => none
  | g :: r => if g.1 = j then some (g, r) else (pickG j r).map fun x => (x.1, g :: x.2)
theorem pickG_spec {j : Nat} : ∀ {gs : List StG}, (∃ y, y ∈ gs ∧ y.1 = j) → ∃ A g B, gs = A ++ g :: B ∧ g.1 = j ∧ pickG j gs = some (g, A ++ B)
  | [], ⟨y, hy, _⟩ => by cases hy
  | g :: r, ⟨y, hy, e⟩ => by
    by_cases h : g.1 = j
    · exact ⟨[], g, r, rfl, h, by unfold pickG; rw [if_pos h]; rfl⟩
    · rcases List.mem_cons.1 hy with rfl | hy
      · exact absurd e h
      · obtain ⟨A, q, B, rfl, h2, h3⟩ := pickG_spec ⟨y, hy, e⟩
        exact ⟨g :: A, q, B, rfl, h2, by unfold pickG; rw [if_neg h, h3]; rfl⟩
section
variable {P : Program} {ro : Option Nat} {N : Nat} {E : World} {ops : Array Oper} {Q : Exit → Act → World → Prop} {R : List Chunk} {tbl : List (List Nat)}
theorem g_pairs {L : List (Nat × Nat)} : ∀ {gs : List StG}, (∀ x, x ∈ gs → selfOk ops (toPl x) = true) → gs.Pairwise (fun x y => gOk2 x y = true) → (∀ x y, x ∈ gs → y ∈ gs → (x.1, y.1) ∈ L) → pairsOk ops tbl (some L) (gs.map toPl) = true
  | [], _, _, _ => rfl
  | x :: r, h1, h2, h3 => by
    obtain ⟨k1, k2⟩ := List.pairwise_cons.1 h2
    have ih := g_pairs (L := L) (fun y hy => h1 y (.tail _ hy)) k2 fun a b ha hb => h3 a b (.tail _ ha) (.tail _ hb)
    show (selfOk ops (toPl x) && (r.map toPl).all (pairOk ops tbl (some L) (toPl x)) && pairsOk ops tbl (some L) (r.map toPl)) = true
    rw [h1 x (.head _), ih, Bool.true_and, Bool.and_true, List.all_eq_true]
    intro y hy
    obtain ⟨g, hg, rfl⟩ := List.mem_map.1 hy
    have := k1 g hg
    unfold gOk2 at this
    simp only [Bool.and_eq_true] at this
    unfold pairOk
    simp only [Bool.and_eq_true, Bool.or_eq_true]
    refine ⟨⟨.inr ?_, this.1.1.1⟩, this.1.2⟩
    simp only [swOk, List.contains_iff_mem]
    exact h3 x g (.head _) (.tail _ hg)
theorem mem_gPairs {gs : List StG} {x y : StG} (hx : x ∈ gs) (hy : y ∈ gs) : (x.1, y.1) ∈ gPairs gs := List.mem_flatMap.2 ⟨x, hx, List.mem_map.2 ⟨y, hy, rfl⟩⟩
theorem g_in (gs : List StG) : swIn (some (gPairs gs)) (gs.map toPl) = true := by
  unfold swIn
  rw [List.all_eq_true]
  intro p hp
  obtain ⟨x, hx, h⟩ := List.mem_flatMap.1 hp
  obtain ⟨y, hy, rfl⟩ := List.mem_map.1 h
  rw [List.any_eq_true]
  exact ⟨toPl x, List.mem_map.2 ⟨x, hx, rfl⟩, by simp [toPl]⟩
theorem pl_stores {sp : Spec} {fr : Fr} {ds : List Deferred} {put : Array Value → List Chunk} {n : Nat} {cs2 : Array Value} (hR : ∀ cs c, c ∈ R → c ∈ put cs) (hk : PostS N E Q .normal fr ds (put cs2)) : ∀ (m : Nat) (gs : List StG), gs.length = m → ∀ (cs : Array Value), cs.size = n →
    (∀ g, g ∈ gs → (∀ cs : Array Value, cs.size = n → OpE P ro N fr (put cs) g.2.1 (fun _ l' => l' = put (setFrom cs g.2.2.1 g.2.2.2))) ∧ g.2.1.dst = none ∧ gst ops fr g.2.1.guard = some true) →
    (∀ g, g ∈ gs → ∀ x, x ∈ sp → ancOf tbl g.1 x.1 = false → ∀ cs c, c ∈ x.2 → c ∈ put cs) →
    (∀ x, x ∈ gs → selfOk ops (toPl x) = true) → gs.Pairwise (fun x y => gOk2 x y = true) → setAll cs gs = cs2 → PlanS P ro N E ops Q R tbl (some (gPairs gs)) sp (gs.map toPl) fr ds (put cs) := by
  intro m
  induction m with
  | zero =>
    intro gs hm cs hc _ _ _ _ hs
    obtain rfl := List.length_eq_zero_iff.1 hm
    obtain rfl : cs = cs2 := hs
    exact .nil hk
  | succ m ih =>
    intro gs hm cs hc hst hS hself hpw hs
    obtain ⟨g0, r, rfl⟩ : ∃ g0 r, gs = g0 :: r := by
      cases gs with
      | nil => simp at hm
      | cons a b => exact ⟨a, b, rfl⟩
    have key : ∀ j, Cand tbl (some (gPairs (g0 :: r))) g0.1 (r.map toPl) j → ∃ A g B, g0 :: r = A ++ g :: B ∧ g.1 = j ∧ pickG j (g0 :: r) = some (g, A ++ B) := fun j hj => pickG_spec (by
      rcases hj with rfl | ⟨_, _, y, hy, e⟩
      · exact ⟨g0, .head _, rfl⟩
      · obtain ⟨g, hg, rfl⟩ := List.mem_map.1 hy
        exact ⟨g, .tail _ hg, e⟩)
    refine .alt (fun j => ((pickG j (g0 :: r)).getD (g0, [])).1.2.1) (fun j _ l' => l' = put (setFrom cs ((pickG j (g0 :: r)).getD (g0, [])).1.2.2.1 ((pickG j (g0 :: r)).getD (g0, [])).1.2.2.2)) (fun j => ((pickG j (g0 :: r)).getD (g0, [])).2.map toPl) (fun j => some (gPairs ((pickG j (g0 :: r)).getD (g0, [])).2)) (fun j hj => ?_) (fun j hj => ?_) (fun j hj => ?_) (fun j hj => ?_)
    all_goals
      obtain ⟨A, g, B, e, hgj, hp⟩ := key j hj
      rw [hp]
      simp only [Option.getD_some]
      have hgm : g ∈ g0 :: r := by rw [e]; simp
      have hsub : ∀ x, x ∈ A ++ B → x ∈ g0 :: r := fun x hx => by
        rw [e]
        rcases List.mem_append.1 hx with h | h
        · exact List.mem_append_left _ h
        · exact List.mem_append_right _ (List.mem_cons_of_mem _ h)
      have hpw2 : (A ++ B).Pairwise (fun x y => gOk2 x y = true) := by
        rw [e] at hpw
        exact hpw.sublist (List.Sublist.append (List.Sublist.refl _) (List.sublist_cons_self _ _))
    · refine ⟨?_, g_pairs (fun x hx => hself x (hsub x hx)) hpw2 (fun x y hx hy => mem_gPairs hx hy), g_in _⟩
      have h1 : ((j, false, g.2.1) :: (A ++ B).map toPl) = (g :: (A ++ B)).map toPl := by rw [List.map_cons, ← hgj]; rfl
      have h2 : ((g0.1, false, g0.2.1) :: r.map toPl) = (A ++ g :: B).map toPl := by rw [← e]; rfl
      rw [h1, h2]
      exact List.perm_middle.symm.map _
    · obtain ⟨k1, k2, k3⟩ := hst g hgm
      exact ⟨k1 cs hc, k3, by rw [k2]; rfl⟩
    · rintro v l' rfl
      refine ⟨hR _, fun x hx ha => ?_⟩
      exact hS g hgm x hx (by rw [hgj]; exact ha) _
    · rintro v l' rfl
      rw [(hst g hgm).2.1]
      refine ih (A ++ B) ?_ _ (by rw [setFrom_size]; exact hc) (fun x hx => hst x (hsub x hx)) (fun x hx => hS x (hsub x hx)) (fun x hx => hself x (hsub x hx)) hpw2 ?_
      · have := congrArg List.length e
        rw [hm] at this
        simp at this ⊢; omega
      · rw [← setAll_out g B A cs fun x hx => ?_, ← e]
        · exact hs
        · rw [e] at hpw
          exact (List.pairwise_append.1 hpw).2.2 x hx g (.head _)
/-- the stores of a plan, with their places and cells -/
inductive StoresS (P : Program) (ro : Option Nat) (N : Nat) (ops : Array Oper) (fr : Fr) (put : Array Value → List Chunk) (n : Nat) : List PlanOp → List Value → List StG → List Value → Prop
  | nil {cs : List Value} : StoresS P ro N ops fr put n [] cs [] cs
  | cons {i : Nat} {o : Oper} {off : Nat} {vs cs cs1 cs2 : List Value} {pl : List PlanOp} {gs : List StG} : (∀ cs : Array Value, cs.size = n → OpE P ro N fr (put cs) o (fun _ l' => l' = put (setFrom cs off vs))) → o.dst = none → gst ops fr o.guard = some true → LSetA cs off vs cs1 → StoresS P ro N ops fr put n pl cs1 gs cs2 → StoresS P ro N ops fr put n ((i, false, o) :: pl) cs ((i, o, off, vs) :: gs) cs2
theorem StoresS.spec {fr : Fr} {put : Array Value → List Chunk} {n : Nat} {pl : List PlanOp} {cs cs2 : List Value} {gs : List StG} (h : StoresS P ro N ops fr put n pl cs gs cs2) : pl = gs.map toPl ∧ setAll (List.toArray cs) gs = List.toArray cs2 ∧ ∀ g, g ∈ gs → (∀ cs : Array Value, cs.size = n → OpE P ro N fr (put cs) g.2.1 (fun _ l' => l' = put (setFrom cs g.2.2.1 g.2.2.2))) ∧ g.2.1.dst = none ∧ gst ops fr g.2.1.guard = some true := by
  induction h with
  | nil => exact ⟨rfl, rfl, fun g hg => by cases hg⟩
  | cons h1 h2 h3 h4 _ ih =>
    obtain ⟨k1, k2, k3⟩ := ih
    refine ⟨by rw [k1]; rfl, ?_, fun g hg => ?_⟩
    · have e := h4.spec.1
      show setAll (setFrom _ _ _) _ = _
      rw [e]; exact k2
    · rcases List.mem_cons.1 hg with rfl | hg
      · exact ⟨h1, h2, h3⟩
      · exact k3 g hg
/-- the rest of a plan is stores at places apart in one block -/
theorem pl_group {sp : Spec} {fr : Fr} {ds : List Deferred} {L : List (Nat × Nat)} {pl : List PlanOp} {gs : List StG} {cs2 : List Value} (put : Array Value → List Chunk) (n : Nat) (cs : List Value) (h : StoresS P ro N ops fr put n pl cs gs cs2) (hn : cs.length = n) (hL : L = gPairs gs) (hok : gOk ops gs = true) (hR : ∀ cs c, c ∈ R → c ∈ put cs) (hS : (gs.all fun g => (sp.map Prod.fst).all fun q => ancOf tbl g.1 q) = true) (hk : PostS N E Q .normal fr ds (put (List.toArray cs2))) : PlanS P ro N E ops Q R tbl (some L) sp pl fr ds (put (List.toArray cs)) := by
  obtain ⟨rfl, e, hst⟩ := h.spec
  subst hL
  obtain ⟨k1, k2⟩ := gOk_spec hok
  exact pl_stores hR hk gs.length gs rfl _ (by simpa using hn) hst (fun g hg x hx ha => by
    have := List.all_eq_true.1 (List.all_eq_true.1 hS g hg) x.1 (List.mem_map.2 ⟨x, hx, rfl⟩)
    rw [ha] at this; cases this) k1 k2 e
/-- one of two effects comes first; what is open behind it is told anew -/
def twoOk (os : List Oper) (tbl : List (List Nat)) (L : List (Nat × Nat)) (plan1 plan2 : List (Nat × Bool)) (i j : Nat) (sw1 swj : Sw) : Bool :=
  ((attachF os plan1).tail.all fun y => !L.contains (i, y.1) || y.1 == j || (attachF os plan1).tail.any fun z => ancOf tbl y.1 z.1) && pairsOk os.toArray tbl sw1 (attachF os plan1).tail && swIn sw1 (attachF os plan1).tail && pairsOk os.toArray tbl swj (attachF os plan2).tail && swIn swj (attachF os plan2).tail && plan1.head? == some (i, false) && plan2.head? == some (j, false) && i != j
theorem pl_two {os : List Oper} {sp : Spec} {fr : Fr} {ds : List Deferred} {l : List Chunk} {L : List (Nat × Nat)} {o oj : Oper} {rest rj : List PlanOp} {K K' : Value → List Chunk → Prop} (plan1 plan2 : List (Nat × Bool)) (i j : Nat) (sw1 swj : Sw) (h1 : Attach os plan1 ((i, false, o) :: rest)) (h2 : Attach os plan2 ((j, false, oj) :: rj)) (hp : ((j, false, oj) :: rj).Perm ((i, false, o) :: rest)) (hok : twoOk os tbl L plan1 plan2 i j sw1 swj = true)
    (ho : OpE P ro N fr l o K) (hg : gst os.toArray fr o.guard = some true) (hd : okDst N o.dst = true) (hR : ∀ v l', K v l' → (∀ c, c ∈ R → c ∈ l')) (hS : ∀ v l', K v l' → ∀ x, x ∈ sp → ancOf tbl i x.1 = false → ∀ c, c ∈ x.2 → c ∈ l')
    (ho' : OpE P ro N fr l oj K') (hg' : gst os.toArray fr oj.guard = some true) (hd' : okDst N oj.dst = true) (hR' : ∀ v l', K' v l' → (∀ c, c ∈ R → c ∈ l')) (hS' : ∀ v l', K' v l' → ∀ x, x ∈ sp → ancOf tbl j x.1 = false → ∀ c, c ∈ x.2 → c ∈ l')
    (hk0 : ∀ v l', K v l' → PlanS P ro N E os.toArray Q R tbl sw1 sp rest (putF o.dst v fr) ds l') (hk' : ∀ v l', K' v l' → PlanS P ro N E os.toArray Q R tbl swj sp rj (putF oj.dst v fr) ds l') : PlanS P ro N E os.toArray Q R tbl (some L) sp ((i, false, o) :: rest) fr ds l := by
  unfold twoOk at hok
  rw [h1.fun_eq, h2.fun_eq] at hok
  simp only [Bool.and_eq_true, bne_iff_ne, ne_eq, List.tail_cons, List.all_eq_true, Bool.or_eq_true, Bool.not_eq_true', beq_iff_eq, List.any_eq_true] at hok
  obtain ⟨⟨⟨⟨⟨⟨⟨p1, p2⟩, p3⟩, p4⟩, p5⟩, _⟩, _⟩, hij⟩ := hok
  have hj : ∀ k, Cand tbl (some L) i rest k → k = i ∨ k = j := fun k hk => by
    rcases hk with h | ⟨h, h3, y, hy, rfl⟩
    · exact .inl h
    · rcases p1 y hy with (h4 | h4) | ⟨z, hz, h4⟩
      · simp only [swOk] at h
        rw [h] at h4; cases h4
      · exact .inr h4
      · rw [h3 z hz] at h4; cases h4
  refine .alt (fun k => if k = i then o else oj) (fun k => if k = i then K else K') (fun k => if k = i then rest else rj) (fun k => if k = i then sw1 else swj) (fun k hk => ?_) (fun k hk => ?_) (fun k hk => ?_) fun k hk => ?_
  all_goals rcases hj k hk with h | h
  · subst h; simp only [if_true]; exact ⟨.refl _, p2, p3⟩
  · subst h; simp only [if_neg (Ne.symm hij)]; exact ⟨hp, p4, p5⟩
  · subst h; simp only [if_true]; exact ⟨ho, hg, hd⟩
  · subst h; simp only [if_neg (Ne.symm hij)]; exact ⟨ho', hg', hd'⟩
  · subst h; simp only [if_true]; exact fun v l' k => ⟨hR v l' k, hS v l' k⟩
  · subst h; simp only [if_neg (Ne.symm hij)]; exact fun v l' k => ⟨hR' v l' k, hS' v l' k⟩
  · subst h; simp only [if_true]; exact hk0
  · subst h; simp only [if_neg (Ne.symm hij)]; exact hk'
variable {fr : Fr} {ty : TypeId} {pos : String} {aft : Array Edge} {g : Option (Nat × Bool)} {x y : Operand} {b off : Nat} {t : TypeId}
theorem g_store {put : Array Value → List Chunk} {n : Nat} {T : TypeId} {v : Value} (hu : ∀ cs cs' : Array Value, Upd (put cs) b (.cells cs T (0, 0)) (.cells cs' T (0, 0)) (put cs')) (hx : ev fr x = some (.pointer (some ⟨b, off, none⟩))) (hy : ev fr y = some v) [c : OC P t] (h1 : v.oneCell' = true) (hlt : off < n) : ∀ cs : Array Value, cs.size = n → OpE P ro N fr (put cs) ⟨none, .store t x y, ty, pos, aft, g⟩ (fun _ l' => l' = put (setFrom cs off [v])) := fun cs hc =>
  (e_store hx hy h1 (hu cs _) (by rw [hc]; exact hlt)).mono fun _ _ h => h.2
theorem g_storeA {put : Array Value → List Chunk} {n k : Nat} {T : TypeId} {ws : List Value} (hu : ∀ cs cs' : Array Value, Upd (put cs) b (.cells cs T (0, 0)) (.cells cs' T (0, 0)) (put cs')) (hx : ev fr x = some (.pointer (some ⟨b, off, none⟩))) (hy : ev fr y = some (.agg (List.toArray ws))) [c : AG P t k] (hk : ws.length = k) (h1 : ∀ v, v ∈ ws → v.oneCell' = true) (hlt : off + k ≤ n) : ∀ cs : Array Value, cs.size = n → OpE P ro N fr (put cs) ⟨none, .store t x y, ty, pos, aft, g⟩ (fun _ l' => l' = put (setFrom cs off ws)) := fun cs hc =>
  (e_storeA hx hy (by simpa using hk) (by simpa using h1) (hu cs _) (by rw [hc]; exact hlt)).mono fun _ _ h => h.2
end
end Go.Proofs.YtcjknmpogkofpaaGreat

/- A range over an iterator that keeps blocks of its own. Laws of my own, no program's. -/
set_option linter.unusedVariables false
set_option linter.unusedSimpArgs false
namespace Go.Proofs.YtcjknmpogkofpaaGreat
open Go.RowKit

/-- an iterator with blocks C of its own, which nobody sees behind it -/
structure IterM (P : Program) (gf : Nat) (lb : List Value) {α : Type} (enc : α → List Value) (S Sp : List α → Prop) (Need : List α → List Chunk → Prop) (C : List Chunk) : Prop where
  run : ∀ (r : Nat) (I Ix : List α → List Chunk → Prop) (G0 : List Chunk), (∀ pre l G, (∀ c, c ∈ G0 → c ∈ G) → I pre l → Need pre (l ++ G)) →
    (∀ pre x l G, (∀ c, c ∈ G0 → c ∈ G) → I pre l → Sp (pre ++ [x]) → YieldS P r (enc x) (l ++ G) (fun v l' => ∃ l1, l' = l1 ++ G ∧ ((v = .bool true ∧ I (pre ++ [x]) l1) ∨ (v = .bool false ∧ Ix (pre ++ [x]) l1)))) →
    ∀ l G, (∀ c, c ∈ G0 → c ∈ G) → I [] l → Fn P gf (.func (.yield r) #[] #[] :: lb) (l ++ (C ++ G)) (fun v l' => ∃ l1, l' = l1 ++ G ∧ ((∃ xs, S xs ∧ I xs l1) ∨ (∃ pre, Sp pre ∧ Ix pre l1)))

section
variable {P : Program} {N : Nat} {E : World} {Q : Exit → Act → World → Prop} {fr : Fr} {ds : List Deferred} {L : List Chunk} {α : Type} {g : Operand} {ps : List Tmp} {assign body : Code} {gf : Nat} {lb : List Value} {enc : α → List Value} {S Sp : List α → Prop} {Need : List α → List Chunk → Prop}

/-- a range over a function -/
theorem c_rangeM (hg : ev fr g = some (.func (.func gf) #[] lb.toArray)) [en : EN P gf] {C : List Chunk} (hit : IterM P gf lb enc S Sp Need C) (hps : ∀ x, (enc x).length = ps.length) (hpb : ps.all (fun p => Nat.blt p N) = true)
    (I : List α → List Chunk → Prop) (Ix : Code → List α → List Chunk → Prop) (l0 G : List Chunk) (hneed : ∀ pre l X, (∀ c, c ∈ G → c ∈ X) → I pre l → Need pre (l ++ X)) (hL : Keep L (l0 ++ (C ++ G))) (h0 : I [] l0)
    (hround : ∀ (E : World) (r : Nat) (rec : LoopState → Option Code → Loop) (pre : List α) (x : α) (l T : List Chunk), (∃ fn tmps D, rec = recOf fn tmps ps.toArray assign body D) → (∀ c, c ∈ G → c ∈ T) → I pre l → Sp (pre ++ [x]) →
      CodeS P (some r) N E assign (Exit.then (BeginK P r body (roundPost P r (RK E (RoundK I Ix (pre ++ [x]) r rec T)))) (fun _ _ _ => False)) (putPs ps (enc x) fr) [] (l ++ (r, .loop (rec .ready none)) :: T))
    (hdone : ∀ (D : Nat) (xs : List α) (l : List Chunk), S xs → I xs l → PostS N E Q .normal fr (markD D :: ds) (markC D :: (l ++ G)))
    (hstop : ∀ (D : Nat) (c : Code) (pre : List α) (l : List Chunk), Sp pre → Ix c pre l → CodeS P none N E c Q fr (markD D :: ds) (markC D :: (l ++ G))) :
    CodeS P none N E (.rangeFunc g ps.toArray assign body) Q fr ds L := by
  refine ⟨fun a W hf hds hs => wpIn_rangeFunc ?_⟩
  intro fn hfn
  have hs := hL.sat hs
  obtain ⟨rec, hrec⟩ : ∃ rec, rec = recOf fn a.tmps ps.toArray assign body W.heap.size := ⟨_, rfl⟩
  obtain ⟨W1, hW1⟩ : ∃ W1, (W.alloc (.deferred (some []))).alloc (.loop (rec .ready none)) = W1 := ⟨_, rfl⟩
  have hs1 : Sat E ((W.heap.size + 1, .loop (rec .ready none)) :: (W.heap.size, .deferred (some [])) :: (l0 ++ (C ++ G))) W1 := by
    have := (hs.alloc (.deferred (some []))).alloc (.loop (rec .ready none))
    rw [World.size_alloc, hW1] at this
    exact this
  have hev := hf.agrees g _ hg
  refine ⟨W.heap.size + 1, [markD W.heap.size], W1, { target := .fn (.func gf) lb.toArray, args := #[.func (.yield (W.heap.size + 1)) #[] #[]] }, W1, gf, #[.func (.yield (W.heap.size + 1)) #[] #[]] ++ lb.toArray, W1, ?_, ?_, fun _ _ => trivial, ?_, fun h => (by cases h), ?_⟩
  · rw [← hW1, hrec]; exact run_enterLoop_outer _ _ _ _ _
  · simp only [resolve, hev]
    simp [Deferred.ofValue, Act.eval]
  · simp [invoke, en.out]
  · have hR := hit.run (W.heap.size + 1)
      (fun pre l => ∃ l1, I pre l1 ∧ l = l1 ++ [(W.heap.size + 1, .loop (rec .ready none)), markC W.heap.size])
      (fun pre l => ∃ c l1, Ix c pre l1 ∧ l = l1 ++ [(W.heap.size + 1, .loop (rec .done (some c))), markC W.heap.size])
      G
      (fun pre l G' hG ⟨l1, h1, h2⟩ => by rw [h2, List.append_assoc]; exact hneed _ _ _ (fun c hc => List.mem_append_right _ (hG c hc)) h1)
      (fun pre x l G' hG ⟨l1, h1, h2⟩ hsp => by
        subst h2
        have hy := yield_of (P := P) (N := N) (fr := fr) (assign := assign) (body := body) (ps := ps) (enc := enc) (r := W.heap.size + 1) (fn := fn) (tmps := a.tmps) (D := W.heap.size) (T := markC W.heap.size :: G') (I := I) (Ix := Ix) (pre := pre) (x := x) (l := l1) (hps x) hpb
          (fun a' ha' => ⟨by rw [ha']; exact hf.size, fun d v hd => by rw [ha']; exact hf.at_ d v hd⟩) (fun E' => by
            have := hround E' (W.heap.size + 1) rec pre x l1 (markC W.heap.size :: G') ⟨fn, a.tmps, W.heap.size, hrec⟩ (fun c hc => List.mem_cons_of_mem _ (hG c hc)) h1 hsp
            rw [hrec] at this
            exact this)
        rw [← hrec] at hy
        refine ⟨fun E' W' hs' => ?_⟩
        have e : l1 ++ [(W.heap.size + 1, Obj.loop (rec .ready none)), markC W.heap.size] ++ G' = l1 ++ (W.heap.size + 1, Obj.loop (rec .ready none)) :: markC W.heap.size :: G' := by simp
        rw [e] at hs'
        obtain ⟨fn', tm, asg, bo, k1, k2⟩ := hy.run E' W' hs'
        refine ⟨fn', tm, asg, bo, k1, k2.mono ?_⟩
        rintro e' W'' ⟨v, l', rfl, hk, hs''⟩
        refine ⟨v, l', rfl, ?_, hs''⟩
        rcases hk with ⟨hv, l2, hI, rfl⟩ | ⟨hv, c, l2, hI, rfl⟩
        · exact ⟨l2 ++ [(W.heap.size + 1, .loop (rec .ready none)), markC W.heap.size], by simp, .inl ⟨hv, l2, hI, rfl⟩⟩
        · exact ⟨l2 ++ [(W.heap.size + 1, .loop (rec .done (some c))), markC W.heap.size], by simp, .inr ⟨hv, c, l2, hI, rfl⟩⟩)
      (l0 ++ [(W.heap.size + 1, .loop (rec .ready none)), markC W.heap.size]) G (fun _ h => h) ⟨l0, h0, rfl⟩
    have hs2 : Sat E (l0 ++ [(W.heap.size + 1, Obj.loop (rec .ready none)), markC W.heap.size] ++ (C ++ G)) W1 := hs1.perm (by
      refine List.Perm.trans ?_ (List.Perm.append_right (C ++ G) (List.perm_append_comm (l₁ := [(W.heap.size + 1, Obj.loop (rec .ready none)), markC W.heap.size]) (l₂ := l0)))
      simp [markC])
    have hc := hR.run E W1 hs2
    have eargs : (Value.func (.yield (W.heap.size + 1)) #[] #[] :: lb).toArray = #[.func (.yield (W.heap.size + 1)) #[] #[]] ++ lb.toArray := by simp
    rw [eargs] at hc
    refine callsIn_fw (hc.mono ?_)
    rintro e W2 ⟨v, l', rfl, ⟨l1, rfl, ⟨xs, hS, l2, hI, rfl⟩ | ⟨pre, hSp, c, l2, hI, rfl⟩⟩, hs3⟩
    · have hm : W2.heap[W.heap.size + 1]? = some (.loop (rec .ready none)) := hs3.has (W.heap.size + 1, _) (by simp)
      subst hrec
      refine ⟨none, _, run_endLoop (P := P) hm (by simp [recOf]), ?_⟩
      refine (hdone W.heap.size xs l2 hS hI).run { a with defers := [markD W.heap.size] ++ a.defers } _ ⟨hf.size, hf.at_⟩ (by rw [← hds]; rfl) ?_
      have h4 : Sat E (l2 ++ (W.heap.size + 1, Obj.loop (recOf fn a.tmps ps.toArray assign body W.heap.size .ready none)) :: markC W.heap.size :: G) W2 := by simpa using hs3
      have h5 := h4.upd (upd_mid l2 _ _ (.loop { recOf fn a.tmps ps.toArray assign body W.heap.size .ready none with state := .exhausted }) _)
      refine (h5.perm List.perm_middle).tail.perm List.perm_middle
    · have hm : W2.heap[W.heap.size + 1]? = some (.loop (rec .done (some c))) := hs3.has (W.heap.size + 1, _) (by simp)
      subst hrec
      refine ⟨some c, _, run_endLoop (P := P) hm (by simp [recOf]), ?_⟩
      refine (hstop W.heap.size c pre l2 hSp hI).run { a with defers := [markD W.heap.size] ++ a.defers } _ ⟨hf.size, hf.at_⟩ (by rw [← hds]; rfl) ?_
      have h4 : Sat E (l2 ++ (W.heap.size + 1, Obj.loop (recOf fn a.tmps ps.toArray assign body W.heap.size .done (some c))) :: markC W.heap.size :: G) W2 := by simpa using hs3
      have h5 := h4.upd (upd_mid l2 _ _ (.loop { recOf fn a.tmps ps.toArray assign body W.heap.size .done (some c) with state := .exhausted }) _)
      refine (h5.perm List.perm_middle).tail.perm List.perm_middle
end
end Go.Proofs.YtcjknmpogkofpaaGreat

/- phys: New, and Zero on noughts. -/
-- GU
set_option linter.unusedVariables false
set_option linter.unusedSimpArgs false
namespace Go.Proofs.YtcjknmpogkofpaaGreat
open Go.RowKit
set_option maxRecDepth 20000
set_option pp.deepTerms false
set_option pp.deepTerms.threshold 4

theorem q_buildArr {P : Program} {ro : Option Nat} {N : Nat} {fr : Fr} {R : List Chunk} {d : Option Nat} {ty : TypeId} {pos : String} {aft : Array Edge} {g : Option (Nat × Bool)} {t n e k : Nat} {zs cs : List Value} {xs : List (Nat × Operand)} {ps : List (Nat × Value)} (hx : evps fr xs = some ps) [c : ZV P t zs] [ca : AT P t n e k] (hfill : Instr.fill (fun i => some (i * k, k)) (List.toArray zs) ps = some (List.toArray cs)) : OpQ P ro N fr R ⟨d, .build t (List.toArray xs), ty, pos, aft, g⟩ (.agg (List.toArray cs)) := opQ_of_sl rfl fun ρ l hρ _ => by
  obtain ⟨i, zv, h1, h2, h3⟩ := zvV_spec c.out
  obtain ⟨inf, k1, k2, k3⟩ := atV_spec ca.out
  simp only [execOp, sl_bind, Instr.build, zeroValue, List.map_toArray, hρ.parts hx]
  rw [← sl_bind, sl_info h1, h2]
  simp only [sl_pure]
  rw [sl_under' k1]
  show sl P (sizeOf e >>= _) l _
  rw [sl_bind, sl_sizeOf' k2]
  have hz : zv.cells = List.toArray zs := by rw [← h3]
  simp only [k3]
  rw [hz, hfill]
  exact ⟨rfl, rfl⟩
abbrev z8 : List Value := [.int .u64 0, .int .u64 0, .int .u64 0, .int .u64 0, .int .u64 0, .int .u64 0, .int .u64 0, .int .u64 0]
def mcs (n : Nat) : List Value := List.replicate (n * 8) (.int .u64 0)
theorem mcs_rows (n : Nat) : mcs n = (List.replicate n z8).flatten := by
  unfold mcs
  induction n with
  | zero => rfl
  | succ n ih =>
    rw [List.replicate_succ, List.flatten_cons, ← ih, show (n + 1) * 8 = 8 + n * 8 by omega, ← List.replicate_append_replicate]
    rfl
theorem mcs_set {n k : Nat} (h : k < n) : setFrom (List.toArray (mcs n)) (k * 8) z8 = List.toArray (mcs n) := by
  apply Array.ext_getElem?
  intro j
  have hsz : (List.toArray (mcs n)).size = n * 8 := by simp [mcs]
  rw [setFrom_at, hsz]
  by_cases hj : k * 8 ≤ j ∧ j < k * 8 + 8
  · rw [if_pos ⟨hj.1, by simp; omega, by omega⟩]
    obtain ⟨i, hi, rfl⟩ : ∃ i, i < 8 ∧ j = k * 8 + i := ⟨j - k * 8, by omega, by omega⟩
    rw [Nat.add_sub_cancel_left]
    have h1 : (List.toArray (mcs n))[k * 8 + i]? = some (.int .u64 0) := by
      unfold mcs; rw [List.getElem?_toArray, List.getElem?_replicate, if_pos (by omega)]
    rw [h1]
    rcases i with _ | _ | _ | _ | _ | _ | _ | _ | i <;> first | rfl | omega
  · rw [if_neg fun h => hj ⟨h.1, by have := h.2.1; simp at this; omega⟩]
abbrev meC (b gb n : Nat) : Chunk := (b, .cells (List.toArray [.slice (some ⟨gb, 0, none⟩) n n]) 252 (0, 0))
abbrev frC (gb n : Nat) : Chunk := (gb, .cells (List.toArray (mcs n)) 255 (0, 0))
def IsM (b n : Nat) (lq : List Chunk) : Prop := 1 ≤ n ∧ n ≤ 64 ∧ ∃ gb, lq = [meC b gb n, frC gb n]
theorem mnew_any (n : Nat) (h1 : 1 ≤ n) (h2 : n ≤ 64) (l : List Chunk) : Fn Tryz.prog 64 [.int .i64 (n : Nat)] l fun v l' => ∃ b, v = .tuple #[.pointer (some ⟨b, 0, none⟩), .int .i64 0] ∧ ∃ lq, IsM b n lq ∧ l' = lq ++ l := by
  refine fn_of_body Tryz.func64 rfl rfl fun E => ?_
  simp only [argF, Tryz.ntmps64]
  refine gzU ?_
  refine t_e (e_makeSlice (n := n) (kk := 8) (xs := mcs n) rfl rfl (by omega) (by omega) (by decide) (mcs_rows n)) rfl rfl rfl ?_
  rintro _ _ ⟨gb, hgb, rfl, rfl⟩
  refine gzU ?_
  (first | refine t_e (e_box1 rfl rfl) rfl rfl rfl ?_ | refine t_e (e_boxA rfl) rfl rfl rfl ?_); rintro _ _ ⟨b, _, rfl, rfl⟩
  refine gzU ?_
  exact k_ret [] rfl .refl (by exact zRes) ⟨_, rfl, _, ⟨h1, h2, gb, rfl⟩, rfl⟩
abbrev miB (B : Nat) (x : Int) : Chunk := (B, .cells (List.toArray [.int .i64 x]) 3 (0, 0))
abbrev mpB (B b : Nat) : Chunk := (B, .cells (List.toArray [.pointer (some ⟨b, 0, none⟩)]) 52 (0, 0))
theorem mall_any (b f : Nat) (l : List Chunk) : Fn Tryz.prog 142 [.pointer (some ⟨b, 0, none⟩), .int .i64 (f : Nat)] l fun v l' => ∃ B1 B2, v = .func (.func 187) #[] #[.pointer (some ⟨B1, 0, none⟩), .pointer (some ⟨B2, 0, none⟩)] ∧ l' = miB B1 f :: mpB B2 b :: l := by
  refine fn_of_body Tryz.func142 rfl rfl fun E => ?_
  simp only [argF, Tryz.ntmps142]
  refine gzU ?_
  refine t_e (e_box1 rfl rfl) rfl rfl rfl ?_
  rintro _ _ ⟨B2, _, rfl, rfl⟩
  refine t_e (e_box1 rfl rfl) rfl rfl rfl ?_
  rintro _ _ ⟨B1, _, rfl, rfl⟩
  refine gzU ?_
  exact k_ret [] rfl .refl (by exact zRes) ⟨_, _, rfl, rfl⟩
theorem range_take {f n k : Nat} (h : f ≤ k) (hk : k < n) : (List.range' f (n - f)).take (k + 1 - f) = (List.range' f (n - f)).take (k - f) ++ [k] := by
  rw [show k + 1 - f = (k - f) + 1 by omega, List.take_add_one, List.getElem?_range' (by omega)]
  simp; omega
theorem mall_iter (B1 B2 b gb n f : Nat) (hf : f < n) (hn : n ≤ 64) : IterS Tryz.prog 187 [.pointer (some ⟨B1, 0, none⟩), .pointer (some ⟨B2, 0, none⟩)] (fun x : Nat => [.int .i64 (x : Nat), .pointer (some ⟨gb, x * 8, none⟩)]) (fun xs => xs = List.range' f (n - f)) (fun pre => pre <+: List.range' f (n - f))
    (fun _ l => miB B1 f ∈ l ∧ mpB B2 b ∈ l ∧ meC b gb n ∈ l) := by
  refine ⟨fun r I Ix G0 hneed hY l G hG h0 => ?_⟩
  obtain ⟨n1, n2, n3⟩ := hneed _ _ G hG h0
  refine fn_of_body Tryz.func187 rfl rfl fun E => ?_
  simp only [argF, Tryz.ntmps187]
  refine gzU ?_
  refine k_loop (α := Nat × List Chunk) (fun x => [(0, .func (.yield r) #[] #[]), (2, .pointer (some ⟨B2, 0, none⟩)), (4, .int .i64 x.1)]) (fun x => x.2 ++ G) (fun x => f ≤ x.1 ∧ x.1 ≤ n ∧ I ((List.range' f (n - f)).take (x.1 - f)) x.2) (fun x => n - x.1) (f, l) ⟨Nat.le_refl _, by simp only; omega, by simp only; rw [Nat.sub_self]; exact h0⟩ ⟨rfl, rfl, rfl, trivial⟩ .refl ?_
  clear n1 n2 n3
  rintro ⟨k, l⟩ ⟨hk1, hk2, hI⟩
  simp only at hk1 hk2 hI ⊢
  obtain ⟨n1, n2, n3⟩ := hneed _ _ G hG hI
  by_cases hlt : k < n
  · refine gzU ?_
    have hy := hY ((List.range' f (n - f)).take (k - f)) k l G hG hI (by rw [← range_take hk1 hlt]; exact List.take_prefix _ _)
    refine t_e (e_yield rfl rfl hy) rfl rfl rfl ?_
    rintro v l' ⟨l1, rfl, ⟨rfl, hI'⟩ | ⟨rfl, hx⟩⟩
    · refine gzU ?_
      exact k_next (k + 1, l1) ⟨by simp only; omega, by simp only; omega, by simp only; rw [range_take hk1 hlt]; exact hI'⟩ (by simp only; omega) ⟨rfl, rfl, rfl, trivial⟩ .refl
    · refine gzU ?_
      exact k_ret [] rfl .refl (by exact zRes) ⟨l1, rfl, .inr ⟨_, by rw [← range_take hk1 hlt]; exact List.take_prefix _ _, hx⟩⟩
  · obtain rfl : k = n := by omega
    rw [List.take_of_length_le (by simp)] at hI
    refine gzU ?_
    exact k_ret [] rfl .refl (by exact zRes) ⟨l, rfl, .inl ⟨_, rfl, hI⟩⟩
set_option maxHeartbeats 1000000 in
theorem mzero_any (b n f k : Nat) (lq : List Chunk) (hq : IsM b n lq) (hf : f < n) (hk : k ≤ n - f) (G : List Chunk) : Fn Tryz.prog 77 [.pointer (some ⟨b, 0, none⟩), .int .i64 (f : Nat), .int .i64 (k : Nat)] (lq ++ G) fun v l' => v = .int .i64 0 ∧ ∃ X, l' = lq ++ (X ++ G) := by
  obtain ⟨h1, h2, gb, rfl⟩ := hq
  simp only [List.cons_append, List.nil_append]
  refine fn_of_body Tryz.func77 rfl rfl fun E => ?_
  simp only [argF, Tryz.ntmps77]
  refine gzU ?_
  refine t_e (e_box1 rfl rfl) rfl rfl rfl ?_
  rintro _ _ ⟨b4, _, rfl, rfl⟩
  refine t_e (e_box1 rfl rfl) rfl rfl rfl ?_
  rintro _ _ ⟨b5, _, rfl, rfl⟩
  refine gzU ?_
  refine c_draw [(0, true), (1, true), (2, true), (3, true), (4, true), (5, true), (6, true), (7, true), (8, true), (9, true), (10, true), (11, true), (12, true), (13, true), (14, true), (15, true), (16, true), (17, true), (18, true), (19, true), (20, true), (21, true), (22, true), (23, true), (24, true), (25, true), (26, true)] [[], [0], [0, 1], [0, 1, 2], [0, 1, 2], [0, 1, 2, 4], [0, 1, 2, 4, 5], [0, 1, 2, 4, 5, 6], [0, 1, 2, 4, 5, 6, 7], [0, 1, 2, 3, 4, 5, 6, 7, 8], [0, 1, 2, 3, 4, 5, 6, 7, 8, 9], [0, 1, 2, 3, 4, 5, 6, 7, 8, 9, 10], [0, 1, 2, 3, 4, 5, 6, 7, 8, 9, 10, 11], [0, 1, 2, 3, 4, 5, 6, 7, 8, 9, 10, 11, 12], [0, 1, 2, 3, 4, 5, 6, 7, 8, 9, 10, 11, 12, 13], [0, 1, 2, 3, 4, 5, 6, 7, 8, 9, 10, 11, 12, 13, 14], [0, 1, 2, 3, 4, 5, 6, 7, 8, 9, 10, 11, 12, 13, 14, 15], [0, 1, 2, 3, 4, 5, 6, 7, 8, 9, 10, 11, 12, 13, 14, 15], [0, 1, 2, 3, 4, 5, 6, 7, 8, 9, 10, 11, 12, 13, 14, 15, 17], [0, 1, 2, 3, 4, 5, 6, 7, 8, 9, 10, 11, 12, 13, 14, 15, 17, 18], [0, 1, 2, 3, 4, 5, 6, 7, 8, 9, 10, 11, 12, 13, 14, 15, 17, 18, 19], [0, 1, 2, 3, 4, 5, 6, 7, 8, 9, 10, 11, 12, 13, 14, 15, 17, 18, 19, 20], [0, 1, 2, 3, 4, 5, 6, 7, 8, 9, 10, 11, 12, 13, 14, 15], [0, 1, 2, 3, 4, 5, 6, 7, 8, 9, 10, 11, 12, 13, 14, 15, 17, 18, 19, 20, 21, 22], [0, 1, 2, 3, 4, 5, 6, 7, 8, 9, 10, 11, 12, 13, 14, 15, 16, 17, 18, 19, 20, 21, 22, 23], [0, 1, 2, 3, 4, 5, 6, 7, 8, 9, 10, 11, 12, 13, 14, 15, 16, 17, 18, 19, 20, 21, 22, 23, 24], [0, 1, 2, 3, 4, 5, 6, 7, 8, 9, 10, 11, 12, 13, 14, 15, 16, 17, 18, 19, 20, 21, 22, 23, 24, 25]] _ (by kernel_rfl) (by kernel_rfl) zAtt (fun _ h => h) ?_
  refine pzU ?_
  refine gzU ?_
  refine t_e (e_call0 rfl rfl (mall_any b f _)) rfl rfl rfl ?_
  rintro _ _ ⟨B1, B2, rfl, rfl⟩
  refine gzU ?_
  refine c_range (α := Nat) (ps := [42, 43]) (lb := [.pointer (some ⟨B1, 0, none⟩), .pointer (some ⟨B2, 0, none⟩)]) rfl (mall_iter B1 B2 b gb n f hf h2) (fun _ => rfl) rfl
    (fun pre l => l = [miB B1 f, mpB B2 b, miB b5 k, miB b4 f, meC b gb n, frC gb n])
    (fun c pre l => c = .exit 1 ∧ l = [miB B1 f, mpB B2 b, miB b5 k, miB b4 f, meC b gb n, frC gb n])
    _ G (fun pre l2 X2 hX h => by rw [h]; exact ⟨List.mem_append_left _ (by exact zMem), List.mem_append_left _ (by exact zMem), List.mem_append_left _ (by exact zMem)⟩) (by exact zKeep) rfl ?_ ?_ ?_
  · rintro E r0 rec pre x l' T ⟨fn, tmps, D, rfl⟩ hT rfl hsp
    have hx : f ≤ x ∧ x < n := by
      have h3 : x ∈ List.range' f (n - f) := hsp.subset (by simp)
      rw [List.mem_range'_1] at h3; omega
    simp only [putPs, List.cons_append, List.nil_append]
    refine gzU ?_
    refine p_begin (by exact zUpd) ?_
    refine gzU ?_
    by_cases hb : (x : Int) - f ≥ k
    · refine gzU ?_
      refine p_round_exit [miB B1 f, mpB B2 b, miB b5 k, miB b4 f, meC b gb n, frC gb n] (by exact zKeep) ⟨rfl, rfl⟩
    · refine gzU ?_
      refine t_q (q_buildArr (zs := z8) (cs := z8) rfl rfl) rfl rfl rfl ?_
      refine gzQU ?_
      apply t_n
      · exact e_storeA (cs := List.toArray (mcs n)) (n := 8) rfl rfl rfl (by simp [Value.oneCell']) (by exact zUpd) (by simp [mcs]; omega)
      · rfl
      · rfl
      rintro _ _ ⟨rfl, rfl⟩
      rw [show (List.toArray z8).toList = z8 from rfl, mcs_set hx.2]
      refine gzU ?_
      exact p_round _ .refl rfl
  · rintro D xs l' rfl rfl
    simp only [List.cons_append, List.nil_append]
    refine gzU ?_
    exact k_ret2 [D] _ rfl (l' := meC b gb n :: frC gb n :: G) (by exact zKeep) (by exact zRes) (by exact zKeep) ⟨rfl, [], rfl⟩
  · rintro D c pre l' hsp ⟨rfl, rfl⟩
    simp only [List.cons_append, List.nil_append]
    refine gzU ?_
    exact k_ret2 [D] _ rfl (l' := meC b gb n :: frC gb n :: G) (by exact zKeep) (by exact zRes) (by exact zKeep) ⟨rfl, [], rfl⟩
end Go.Proofs.YtcjknmpogkofpaaGreat

/- Blocks in another order, told by counting; calls on blocks that stand further behind. Laws of my own, no program's. -/
set_option linter.unusedVariables false
set_option linter.unusedSimpArgs false
namespace Go.Proofs.YtcjknmpogkofpaaGreat
open Go.RowKit

theorem perm_ac {A B : List Chunk} (h : ∀ (f : List Chunk → Nat) (g : Chunk → Nat), f [] = 0 → (∀ x l, f (x :: l) = g x + f l) → (∀ x y, f (x ++ y) = f x + f y) → f A = f B := by intro f g h0 h1 h2; simp only [List.map_nil, List.map_cons, h0, h1, h2]; try omega) : A.Perm B := by
  classical
  refine List.perm_iff_count.2 fun a => h (fun l => List.count a l) (fun x => List.count a [x]) rfl (fun x l => ?_) (fun x y => List.count_append)
  rw [show x :: l = [x] ++ l from rfl, List.count_append]
theorem keep_ac {A B : List Chunk} (X : List Chunk) (h : ∀ (f : List Chunk → Nat) (g : Chunk → Nat), f [] = 0 → (∀ x l, f (x :: l) = g x + f l) → (∀ x y, f (x ++ y) = f x + f y) → f A = f (X ++ B) := by intro f g h0 h1 h2; simp only [List.map_nil, List.map_cons, h0, h1, h2]; try omega) : Keep A B := ⟨X, perm_ac h⟩
theorem Fn.mvP {P : Program} {f : FuncId} {args : List Value} {A F : List Chunk} {Kv : Value → Prop} {I : List Chunk → Prop} (Γ : List Chunk → List Chunk) (h : Fn P f args (A ++ F) fun v l' => Kv v ∧ ∃ A', I A' ∧ l' = A' ++ F)
    (hΓ : ∀ A, (Γ A).Perm (A ++ F) := by intro A; exact perm_ac) : Fn P f args (Γ A) fun v l' => Kv v ∧ ∃ A', I A' ∧ l' = Γ A' :=
  Fn.re (.of_perm (hΓ A)) h fun v l' ⟨h1, A', h2, h3⟩ => ⟨_, by rw [h3]; exact .of_perm (hΓ A').symm, h1, A', h2, rfl⟩
theorem Fn.mvX {P : Program} {f : FuncId} {args : List Value} {A F : List Chunk} {Kv : Value → Prop} {α : Type} {I : α → List Chunk → Prop} (Γ : List Chunk → List Chunk) (h : Fn P f args (A ++ F) fun v l' => Kv v ∧ ∃ A', ∃ x, I x A' ∧ l' = A' ++ F)
    (hΓ : ∀ A, (Γ A).Perm (A ++ F) := by intro A; exact perm_ac) : Fn P f args (Γ A) fun v l' => Kv v ∧ ∃ A', ∃ x, I x A' ∧ l' = Γ A' :=
  Fn.re (.of_perm (hΓ A)) h fun v l' ⟨h1, A', x, h2, h3⟩ => ⟨_, by rw [h3]; exact .of_perm (hΓ A').symm, h1, A', x, h2, rfl⟩
end Go.Proofs.YtcjknmpogkofpaaGreat

/- tlb.New, cores.New. -/
-- GU
set_option linter.unusedVariables false
set_option linter.unusedSimpArgs false
namespace Go.Proofs.YtcjknmpogkofpaaGreat
open Go.RowKit
set_option maxRecDepth 20000
set_option pp.deepTerms false
set_option pp.deepTerms.threshold 4

theorem tnew_any (l : List Chunk) : Fn Tryz.prog 136 [] l fun v l' => ∃ b c, v = .pointer (some ⟨b, 0, none⟩) ∧ l' = (b, c) :: l := by
  refine fn_of_body Tryz.func136 rfl rfl fun E => ?_
  simp only [argF, Tryz.ntmps136]
  refine gzU ?_
  (first | refine t_e (e_box1 rfl rfl) rfl rfl rfl ?_ | refine t_e (e_boxA rfl) rfl rfl rfl ?_); rintro _ _ ⟨b, _, rfl, rfl⟩
  refine gzU ?_
  exact k_ret [] rfl .refl (by exact zRes) ⟨_, _, rfl, rfl⟩
abbrev coC (b : Nat) (v : Value) : Chunk := (b, .cells (List.toArray [v]) 161 (0, 0))
/-- cores as they stand: only how many -/
def IsCo (b n : Nat) (lq : List Chunk) : Prop := ∃ v xs cs, OwnSl 265 3 v n xs cs ∧ lq = coC b v :: cs
set_option maxHeartbeats 1000000 in
theorem cnew_any (n : Nat) (h1 : 1 ≤ n) (h2 : n ≤ 3) (l : List Chunk) : Fn Tryz.prog 65 [.int .i64 (n : Nat)] l fun v l' => ∃ b, v = .tuple #[.pointer (some ⟨b, 0, none⟩), .int .i64 0] ∧ ∃ lq X, IsCo b n lq ∧ l' = lq ++ (X ++ l) := by
  refine fn_of_body Tryz.func65 rfl rfl fun E => ?_
  simp only [argF, Tryz.ntmps65]
  refine gzU ?_
  (first | refine t_e (e_box1 rfl rfl) rfl rfl rfl ?_ | refine t_e (e_boxA rfl) rfl rfl rfl ?_); rintro _ _ ⟨b, _, rfl, rfl⟩
  refine gzU ?_
  refine k_loop (α := Nat × Value × List Value × List Chunk × List Chunk) (fun x => [(4, .pointer (some ⟨b, 0, none⟩)), (13, .int .i64 n), (14, .int .i64 x.1)]) (fun x => coC b x.2.1 :: (x.2.2.2.1 ++ (x.2.2.2.2 ++ l)))
    (fun x => x.1 ≤ n ∧ OwnSl 265 3 x.2.1 x.1 x.2.2.1 x.2.2.2.1) (fun x => n - x.1) (0, .slice none 0 0, [], [], []) ⟨Nat.zero_le _, OwnSl.nil _ _⟩ ⟨rfl, rfl, rfl, trivial⟩ .refl ?_
  rintro ⟨i, v, xs, cs, X⟩ ⟨hi, ho⟩
  simp only at hi ho ⊢
  have hv1 : v.oneCell' = true := ho.one
  by_cases hlt : i < n
  · refine gzU ?_
    refine c_draw [(0, true), (1, true), (2, true), (3, true), (4, true), (5, false), (6, true), (7, false), (8, false), (9, true), (10, true), (11, false)] [[], [], [1], [1, 2], [1, 2, 3], [], [5], [5, 6], [1, 2, 3, 4, 5, 6, 7], [0, 1, 2, 3, 4, 5, 6, 7, 8], [0, 1, 2, 3, 4, 5, 6, 7, 8, 9], [0, 1, 2, 3, 4, 5, 6, 7, 8, 9, 10]] ([]) (by kernel_rfl) (by kernel_rfl) zAtt zHR ?_
    refine pzU ?_
    apply pl_s (S := [coC b v]); (· exact zLd); (· exact sing_mem (.head _)); (· rfl); (· rfl); (· rfl)
    refine pzU ?_
    apply pl_eS
    · exact e_call0 rfl rfl (tnew_any _)
    · rfl
    · rfl
    · rfl
    · intro _ _ _ c hc; cases hc
    · rintro _ _ ⟨_, _, _, rfl⟩ x hx _ c hc
      rw [List.mem_singleton.1 hx] at hc
      rw [List.mem_singleton.1 hc]; exact .tail _ (.head _)
    rintro _ _ ⟨bt, ct, rfl, rfl⟩
    refine pzU ?_
    apply pl_eS
    · exact e_litA (k := 3) (zs := [.int .i64 0, .int .i64 0, .pointer none]) rfl rfl rfl (by decide) (by decide)
    · rfl
    · rfl
    · rfl
    · intro _ _ _ c hc; cases hc
    · rintro _ _ ⟨_, _, _, rfl⟩ x hx _ c hc
      rw [List.mem_singleton.1 hx] at hc
      rw [List.mem_singleton.1 hc]; exact .tail _ (.tail _ (.head _))
    rintro _ _ ⟨bl, _, rfl, rfl⟩
    refine pzU ?_
    apply pl_eS
    · exact e_appX (k := 3) (X := [_, _]) (cs := cs) (F := X ++ l) (n := i) (xs := xs) (zs := [.int .i64 0, .int .i64 0, .pointer none]) rfl rfl rfl ho rfl (by simp [Value.oneCell']) (by omega) (by decide)
    (· rfl); (· rfl); (· rfl); (· intro _ _ _ c hc; cases hc); (· exact fun _ _ _ x hx ha => anc_all (by kernel_rfl) hx ha)
    rintro v2 _ ⟨c2, ho2, rfl⟩
    simp only [List.cons_append, List.nil_append]
    have hv2 : v2.oneCell' = true := ho2.one
    refine pzU ?_
    apply pl_nS
    · exact e_storeL rfl rfl hv2 (by exact zMem) .zero (by exact zUpd)
    (· rfl); (· rfl); (· intro _ _ _ c hc; cases hc); (· exact fun _ _ _ x hx ha => anc_all (by kernel_rfl) hx ha)
    rintro _ _ ⟨rfl, rfl⟩
    refine pzU ?_
    refine gzU ?_
    exact k_next (i + 1, v2, _, c2, (bt, ct) :: X) ⟨by simp only; omega, ho2⟩ (by simp only; omega) ⟨rfl, rfl, rfl, trivial⟩ (Keep.of_perm ((List.Perm.swap _ _ _).trans (List.Perm.cons _ List.perm_middle.symm)))
  · obtain rfl : i = n := by omega
    refine gzU ?_
    exact k_ret [] rfl .refl (by exact zRes) ⟨_, rfl, _, X, ⟨v, xs, cs, ho, rfl⟩, by simp⟩
end Go.Proofs.YtcjknmpogkofpaaGreat

/- copy, cap, append of zeros, slices.overlaps. Laws of my own, no program's. -/
set_option linter.unusedVariables false
set_option linter.unusedSimpArgs false
namespace Go.Proofs.YtcjknmpogkofpaaGreat.Ar
open Go.RowKit
set_option maxRecDepth 20000
set_option maxRecDepth 20000

theorem run_copy_k {P : Program} (w : World) (dT sT ty elem : TypeId) (i : TypeInfo) (g o dLen dCap : Nat) (a : Addr) (sLen sCap : Nat) (cur : Array Value) (t : TypeId) (cs : List Value)
    (hu : P.underlying dT = some (.slice elem)) (hi : P.info? elem = some i)
    (hg : w.heap[g]? = some (.cells cur t (0, 0))) (hn : cs.length = Nat.min sLen dLen * i.size)
    (hsrc : ∀ j v, cs[j]? = some v → w.cell? (a.add j) = some v) (hfit : o + cs.length ≤ cur.size) (h1 : ∀ v ∈ cs, v.oneCell' = true) :
    (Builtin.copy_ #[dT, sT] ty #[.slice (some ⟨g, o, none⟩) dLen dCap, .slice (some a) sLen sCap]).run P w =
      .ok (goInt (Nat.min sLen dLen)) (w.setRow g (cur.toList.take o ++ cs ++ cur.toList.drop (o + cs.length)).toArray) := by
  have hl := run_firstCells_some (P := P) (w := w) i.size (Nat.min sLen dLen) a sLen sCap cs hn hsrc
  have hst := run_storeCells_at P g o t cs 0 cur w hg (by simpa using hfit) h1
  simp only [Nat.add_zero] at hst
  have e1 : (Builtin.lenOf (.slice (some a) sLen sCap)).run P w = .ok sLen w := rfl
  have e2 : (sizeOf elem).run P w = .ok i.size w := by simp [sizeOf, typeInfo, hi]
  unfold Builtin.copy_
  simp only [List.getElem?_toArray, List.getElem?_cons_zero, List.getElem?_cons_succ, Sem.run_bind, run_underlying hu, Result.andThen_ok, e1, e2, hl, hst]
  rfl
theorem run_append_zeros {P : Program} (w : World) (t tn ty e : TypeId) (i : TypeInfo) (z : Value) (k kn : IntKind) (ht : P.underlying t = some (.slice e)) (htn : P.underlying tn = some (.int kn)) (hi : P.info? e = some i) (hz : i.zero = some z)
    (b : Addr) (sLen sCap : Nat) (olds : List Value) (hlo : olds.length = sLen * i.size) (holds : ∀ j v, olds[j]? = some v → w.cell? (b.add j) = some v)
    (n : Nat) (h0 : 0 < n) (hs : 0 < i.size) (hg : sCap < sLen + n) (h63 : sLen + n ≤ 1000000) (hby : i.bytes ≤ 1000) (hfit : Builtin.nextslicecap (sLen + n) sCap * i.bytes ≤ 281474976710656) :
    (Builtin.append_ #[t, tn] ty #[.slice (some b) sLen sCap, .int k n]).run P w =
      .ok (.slice (some ⟨w.heap.size, 0, none⟩) (sLen + n) (grownCap w (sLen + n) sCap e)) (w.drew.alloc (.cells (olds.toArray ++ Builtin.zeroCells z.cells n ++ Builtin.zeroCells z.cells (grownCap w (sLen + n) sCap e - (sLen + n))) e)) := by
  have hw : IntKind.i64.wrap (n : Int) = n := by rw [IntKind.wrap_i64]; omega
  have h48 : (n : Int) * (i.bytes : Int) ≤ 1000000000 := by
    have : n * i.bytes ≤ 1000000 * 1000 := Nat.mul_le_mul (by omega) hby
    rw [← Int.natCast_mul]; omega
  have h48i : ¬ (281474976710656 < (n : Int) * (i.bytes : Int)) := by omega
  have hneg : ¬ ((n : Int) < 0) := by omega
  have hns : ¬ (n * i.size = 0) := Nat.mul_ne_zero (by omega) (by omega)
  have hn : ¬ (sLen + n ≤ sCap) := by omega
  have h63' : ¬ (9223372036854775807 < ((sLen : Int) + (n : Int))) := by omega
  have h48' : ¬ (281474976710656 < Builtin.nextslicecap (sLen + n) sCap * i.bytes) := by omega
  have hfo := run_firstCells_some (P := P) (w := w.drew) i.size sLen b sLen sCap olds hlo (by simpa using holds)
  simp [Builtin.append_, run_underlying ht, run_underlying htn, sizeOf, typeInfo, zeroValue, hi, hz, asInt, asIntOf, hw, hn, hneg, hns, h63', h48', h48i, Question.forced, hfo, newRow, grownCap]

section
variable {P : Program} {ro : Option Nat} {N : Nat} {fr : Fr} {R l : List Chunk} {d : Option Nat} {ty t : TypeId} {pos : String} {aft : Array Edge} {g : Option (Nat × Bool)} {x y s : Operand} {off b : Nat}
theorem q_cap {p : Option Addr} {n cap e kk yb : Nat} (hx : ev fr x = some (.slice p n cap)) [c : ST P t e kk yb] : OpQ P ro N fr R ⟨d, .call { callee := .builtin .cap, args := #[x], argTypes := #[t] }, ty, pos, aft, g⟩ (.int .i64 (cap : Nat)) := opQ_of_sl rfl fun ρ l hρ _ => by
  obtain ⟨inf, h1, _⟩ := stV_spec c.out
  simp only [execOp, resolve, sl_bind, sl_pure, invoke, builtin, List.map_toArray, List.map_cons, List.map_nil, hρ x _ hx, Builtin.cap_]
  show sl P (underlying t >>= _) l _
  rw [sl_under h1]
  exact ⟨rfl, rfl⟩
/-- copy: as many elements as the shorter one has -/
theorem e_copyK {T T2 e k yb gb o sb so dLen dCap sLen sCap m : Nat} {cur cs : List Value} {cl : Array Value} {ct : TypeId} {fz : Nat × Nat} {F : List Chunk} (hx : ev fr x = some (.slice (some ⟨gb, o, none⟩) dLen dCap)) (hy : ev fr y = some (.slice (some ⟨sb, so, none⟩) sLen sCap)) [c : ST P T e k yb]
    (hm : Nat.min sLen dLen = m) (hl : cs.length = m * k) (hs : (sb, Obj.cells cl ct fz) ∈ (gb, .cells (List.toArray cur) e (0, 0)) :: F) (hsrc : ∀ j u, cs[j]? = some u → cl[so + j]? = some u) (hfit : o + cs.length ≤ cur.length) (h1 : ∀ u ∈ cs, u.oneCell' = true) :
    OpE P ro N fr ((gb, .cells (List.toArray cur) e (0, 0)) :: F) ⟨d, .call { callee := .builtin .copy, args := #[x, y], argTypes := #[T, T2] }, ty, pos, aft, g⟩ (fun v' l' => v' = .int .i64 (m : Nat) ∧ l' = (gb, .cells (List.toArray (cur.take o ++ cs ++ cur.drop (o + cs.length))) e (0, 0)) :: F) := by
  subst hm
  refine ⟨rfl, fun E a W hf hs' => ?_⟩
  have hρ := hf.agrees
  obtain ⟨inf, u1, u2, u3, u4⟩ := stV_spec c.out
  have hex : execOp a.eval ⟨d, .call { callee := .builtin .copy, args := #[x, y], argTypes := #[T, T2] }, ty, pos, aft, g⟩ = (do pure (.value (← Builtin.copy_ #[T, T2] ty #[.slice (some ⟨gb, o, none⟩) dLen dCap, .slice (some ⟨sb, so, none⟩) sLen sCap])) : Sem Next) := by
    simp [execOp, resolve, hρ x _ hx, hρ y _ hy, invoke, builtin]
  unfold OpVal
  rw [hex, Sem.run_bind]
  have hr := run_copy_k (P := P) W T T2 ty e inf gb o dLen dCap ⟨sb, so, none⟩ sLen sCap (List.toArray cur) e cs u1 u2 (hs'.has (gb, _) List.mem_cons_self) (by rw [u3]; exact hl) (fun j u hj => by rw [addr_add, hs'.cell hs]; exact hsrc j u hj) (by simpa using hfit) h1
  rw [hr]
  exact ⟨_, ⟨rfl, rfl⟩, hs'.row⟩
/-- nothing is copied -/
theorem e_copyNo {T T2 e k yb dLen dCap sLen sCap : Nat} {p q : Option Addr} (hx : ev fr x = some (.slice p dLen dCap)) (hy : ev fr y = some (.slice q sLen sCap)) [c : ST P T e k yb] (hm : Nat.min sLen dLen = 0) :
    OpE P ro N fr l ⟨d, .call { callee := .builtin .copy, args := #[x, y], argTypes := #[T, T2] }, ty, pos, aft, g⟩ (fun v' l' => v' = .int .i64 0 ∧ l' = l) := by
  refine ⟨rfl, fun E a W hf hs' => ?_⟩
  have hρ := hf.agrees
  obtain ⟨inf, u1, u2, u3, u4⟩ := stV_spec c.out
  have hex : execOp a.eval ⟨d, .call { callee := .builtin .copy, args := #[x, y], argTypes := #[T, T2] }, ty, pos, aft, g⟩ = (do pure (.value (← Builtin.copy_ #[T, T2] ty #[.slice p dLen dCap, .slice q sLen sCap])) : Sem Next) := by
    simp [execOp, resolve, hρ x _ hx, hρ y _ hy, invoke, builtin]
  unfold OpVal
  rw [hex, Sem.run_bind]
  have hr : (Builtin.copy_ #[T, T2] ty #[.slice p dLen dCap, .slice q sLen sCap]).run P W = .ok (goInt 0) W := by
    cases p <;> cases q <;> simp [Builtin.copy_, run_underlying u1, sizeOf, typeInfo, u2, Builtin.lenOf, Builtin.firstCells, hm, storeCells, loadCells, loadCellsFrom]
  rw [hr]
  exact ⟨_, ⟨rfl, rfl⟩, hs'⟩
/-- zeros appended where there is no room -/
theorem e_appendZ {T tn e k yb n m gb cap : Nat} {xs sp zs : List Value} {F : List Chunk} (hx : ev fr s = some (.slice (some ⟨gb, 0, none⟩) n cap)) (hy : ev fr x = some (.int .i64 (m : Nat))) [c : ST P T e k yb] [cz : ZV P e zs] [ci : IT P tn .i64] (hzs : zs.length = k) (hk : 0 < k)
    (hxs : xs.length = n * k) (hm0 : 0 < m) (hroom : cap < n + m) (hn : n + m ≤ 1000000) (hby : yb ≤ 1000) :
    OpE P ro N fr ((gb, .cells (List.toArray (xs ++ sp)) e (0, 0)) :: F) ⟨d, .call { callee := .builtin .append, args := #[s, x], argTypes := #[T, tn] }, ty, pos, aft, g⟩ (fun v' l' => ∃ nb cap' sp', (∀ c, c ∈ (gb, Obj.cells (List.toArray (xs ++ sp)) e (0, 0)) :: F → c.1 ≠ nb) ∧ v' = .slice (some ⟨nb, 0, none⟩) (n + m) cap' ∧ l' = (nb, .cells (List.toArray (xs ++ (List.replicate m zs).flatten ++ sp')) e (0, 0)) :: (gb, .cells (List.toArray (xs ++ sp)) e (0, 0)) :: F ∧ n + m ≤ cap' ∧ cap' ≤ maxLen ∧ (xs ++ (List.replicate m zs).flatten ++ sp').length = cap' * k) := by
  refine ⟨rfl, fun E a W hf hs => ?_⟩
  have hρ := hf.agrees
  obtain ⟨inf, u1, u2, u3, u4⟩ := stV_spec c.out
  obtain ⟨inf', zv, z1, z2, z3⟩ := zvV_spec cz.out
  rw [u2] at z1; cases z1
  have hu := itV_spec ci.out
  have hex : execOp a.eval ⟨d, .call { callee := .builtin .append, args := #[s, x], argTypes := #[T, tn] }, ty, pos, aft, g⟩ = (do pure (.value (← Builtin.append_ #[T, tn] ty #[.slice (some ⟨gb, 0, none⟩) n cap, .int .i64 (m : Nat)])) : Sem Next) := by
    simp [execOp, resolve, hρ s _ hx, hρ x _ hy, invoke, builtin]
  unfold OpVal
  rw [hex, Sem.run_bind]
  have hzc : zv.cells = List.toArray zs := by rw [← z3]
  have hold : ∀ j u, xs[j]? = some u → W.cell? ((⟨gb, 0, none⟩ : Addr).add j) = some u := fun j u hj => by
    rw [addr_add, hs.cell List.mem_cons_self, Nat.zero_add]
    have hlt := (List.getElem?_eq_some_iff.1 hj).1
    simp only [List.getElem?_toArray]
    rw [List.getElem?_append_left hlt]
    exact hj
  have hb2 : (n + m) * yb ≤ 140737488355328 := by
    have := Nat.mul_le_mul hn hby; omega
  have hr := run_append_zeros (P := P) W T tn ty e inf zv .i64 .i64 u1 hu u2 z2 ⟨gb, 0, none⟩ n cap xs (by rw [u3]; exact hxs) hold m hm0 (by rw [u3]; exact hk) hroom hn (by rw [u4]; exact hby) (growslice_fits (by omega) (by rw [u4]; exact hb2))
  rw [hr]
  have hsz := size_zeroCells zv.cells (grownCap W (n + m) cap e - (n + m))
  have hzm : Builtin.zeroCells zv.cells m = List.toArray (List.replicate m zs).flatten := by
    unfold Builtin.zeroCells
    have hk2 : 0 < m * k := Nat.mul_pos hm0 hk
    have := row_zeros hzc hzs hk2
    rw [show zv.cells.size = k by rw [hzc]; simpa using hzs]
    rw [← this, show zv.cells.size = k by rw [hzc]; simpa using hzs]
  refine ⟨_, ⟨W.heap.size, grownCap W (n + m) cap e, (Builtin.zeroCells zv.cells (grownCap W (n + m) cap e - (n + m))).toList, fun c hc => ?_, rfl, rfl, grownCap_ge _ _ _ _, grownCap_le_maxLen _ _ _ _ (by unfold maxLen; omega), ?_⟩, ?_⟩
  · intro e1
    have := hs.has c hc
    rw [e1] at this
    simp at this
  · have hge := grownCap_ge W (n + m) cap e
    have h1 : (Builtin.zeroCells zv.cells (grownCap W (n + m) cap e - (n + m))).toList.length = (grownCap W (n + m) cap e - (n + m)) * k := by
      rw [Array.length_toList, hsz, show zv.cells.size = k by rw [hzc]; simpa using hzs]
    have : (List.replicate m zs).flatten.length = m * k := by simp [hzs]
    rw [List.length_append, List.length_append, hxs, h1, this, ← Nat.add_mul, ← Nat.add_mul]
    congr 1; omega
  · have h2 := hs.drew.alloc (.cells (xs.toArray ++ Builtin.zeroCells zv.cells m ++ Builtin.zeroCells zv.cells (grownCap W (n + m) cap e - (n + m))) e)
    have e1 : W.drew.heap.size = W.heap.size := rfl
    rw [e1] at h2
    have e2 : List.toArray (xs ++ (List.replicate m zs).flatten ++ (Builtin.zeroCells zv.cells (grownCap W (n + m) cap e - (n + m))).toList) = xs.toArray ++ Builtin.zeroCells zv.cells m ++ Builtin.zeroCells zv.cells (grownCap W (n + m) cap e - (n + m)) := by
      rw [hzm]; apply Array.toList_inj.1; simp
    rw [e2]
    exact h2
/-- what is in two blocks does not overlap -/
theorem q_overlaps {f T e k yb : Nat} {fn : Func} {at_ : Array TypeId} {a1 o1 a2 o2 n1 c1 n2 c2 : Nat} {cl1 cl2 : Array Value} {t1 t2 : TypeId} (hfx : ev fr s = some (.func (.func f) #[] #[])) (hx : ev fr x = some (.slice (some ⟨a1, o1, none⟩) n1 c1)) (hy : ev fr y = some (.slice (some ⟨a2, o2, none⟩) n2 c2)) [c : ST P T e k yb]
    (hf : P.funcs[f]? = some fn) (hfn : (fn.name == "runtime.NumGoroutine") = false) (hb : fn.body.isNone = true) (hnx : Extern.findNext fn = none) (tR : TypeId) (hext : Extern.find fn = some (Extern.SlicesOverlaps.overlaps #[T, T] #[tR]))
    (h1 : (a1, Obj.cells cl1 t1 (0, 0)) ∈ R) (h2 : (a2, Obj.cells cl2 t2 (0, 0)) ∈ R) (hne : a1 ≠ a2) (h0 : 0 < cl2.size) :
    OpQ P ro N fr R ⟨d, .call { callee := .value s, args := #[x, y], argTypes := at_ }, ty, pos, aft, g⟩ (.bool false) := by
  refine ⟨fun l hl => ⟨rfl, fun E a W hfs hs => ?_⟩⟩
  have hρ := hfs.agrees
  obtain ⟨inf, u1, u2, u3, u4⟩ := stV_spec c.out
  have k1 := hs.has _ (hl _ h1)
  have k2 := hs.has _ (hl _ h2)
  simp only at k1 k2
  have hr := Lib.run_overlaps_apart (P := P) W T tR e u1 inf.size (fun w => by simp [sizeOf, typeInfo, u2]) ⟨a1, o1, none⟩ ⟨a2, o2, none⟩ n1 c1 n2 c2 hne t1 t2 cl1.size cl2.size (by simp [World.shape?, k1]) (by simp [World.shape?, k2]) (by omega) (by simp [World.frozen?, k1]) (by simp [World.frozen?, k1])
  have hc := run_callFunc_extern (P := P) hf hfn hb hnx hext #[.slice (some ⟨a1, o1, none⟩) n1 c1, .slice (some ⟨a2, o2, none⟩) n2 c2] W
  unfold OpVal
  have hex : (execOp a.eval ⟨d, .call { callee := .value s, args := #[x, y], argTypes := at_ }, ty, pos, aft, g⟩).run P W = .ok (.value (.bool false)) W := by
    simp only [execOp, resolve, List.map_toArray, List.map_cons, List.map_nil, hρ s _ hfx, hρ x _ hx, hρ y _ hy, Deferred.ofValue, Sem.run_bind]
    simp only [Sem.run_pure, Result.andThen, invoke]
    simp only [Array.append_empty, Array.empty_append]
    rw [hc, hr]
    rfl
  rw [hex]
  exact ⟨_, ⟨rfl, rfl⟩, hs⟩
end
end Go.Proofs.YtcjknmpogkofpaaGreat.Ar

/- slices.Insert of one struct. -/
set_option linter.unusedVariables false
set_option linter.unusedSimpArgs false
namespace Go.Proofs.YtcjknmpogkofpaaGreat.Ar
open Go.RowKit
set_option maxRecDepth 20000
set_option maxRecDepth 20000

section
variable {P : Program} {ro : Option Nat} {N : Nat} {fr : Fr} {R l : List Chunk} {d : Option Nat} {ty : TypeId} {pos : String} {aft : Array Edge} {g : Option (Nat × Bool)} {x : Operand}
theorem q_sliceP {T e k yb : Nat} {lo hi mx : Option Operand} {p : Option Addr} {n cap l0 h0 m0 n' c' : Nat} (hx : ev fr x = some (.slice p n cap)) [c : ST P T e k yb] (hl : Bnd fr lo 0 l0) (hh : Bnd fr hi n h0) (hm : Bnd fr mx cap m0) (hno : mx.isSome = true → hi.isSome = true) (h1 : l0 ≤ h0) (h2 : h0 ≤ m0) (h3 : m0 ≤ cap)
    (hn : h0 - l0 = n') (hc : m0 - l0 = c') : OpQ P ro N fr R ⟨d, .slice T x lo hi mx, ty, pos, aft, g⟩ (.slice (if m0 = l0 then p else p.map (·.add (l0 * k))) n' c') := opQ_of_sl rfl fun ρ l hρ _ => by
  obtain ⟨inf, u1, u2, u3, _⟩ := stV_spec c.out
  subst hn hc
  simp only [execOp, hρ x _ hx]
  rw [sl_bind]
  unfold Instr.sliceAt
  rw [sl_under u1]
  show sl P (Instr.slice T _ _ _ _) l _
  unfold Instr.slice
  rw [sl_under u1]
  simp only [sl_bind]
  rw [sl_sliceBounds hρ hl hh hm hno h1 h2 h3]
  simp only
  rw [sl_sizeOf' u2]
  simp only [sl_pure, u3]
  simp
end
theorem ov_f : Tryz.prog.funcs[185]? = some Tryz.f185 := Tryz.func185
theorem ov_n : (Tryz.f185.name == "runtime.NumGoroutine") = false := by kernel_rfl
theorem ov_b : Tryz.f185.body.isNone = true := by kernel_rfl
theorem ov_x : Extern.findNext Tryz.f185 = none := by kernel_rfl
theorem ov_e : Extern.find Tryz.f185 = some (Extern.SlicesOverlaps.overlaps #[40, 40] #[4]) := by kernel_rfl
/-- cells laid over others of the same number -/
theorem lay3 (A X Y cs : List Value) (h : cs.length = X.length) : (A ++ X ++ Y).take A.length ++ cs ++ (A ++ X ++ Y).drop (A.length + cs.length) = A ++ cs ++ Y := by
  rw [h]
  have e1 : (A ++ X ++ Y).take A.length = A := by rw [List.append_assoc, List.take_left' rfl]
  have e2 : (A ++ X ++ Y).drop (A.length + X.length) = Y := by rw [← List.length_append, List.drop_left' rfl]
  rw [e1, e2]
abbrev obZ : List Value := [.int .i64 0, .int .i64 0, .int .i64 0, .int .i64 0, .int .i64 0, .int .i64 0, .int .i64 0, .int .i64 0, .int .i64 0]
set_option pp.deepTerms false
set_option pp.deepTerms.threshold 4
set_option maxHeartbeats 400000
theorem insert_any (v : Value) (n i bl : Nat) (xs ws : List Value) (cs F : List Chunk) (ho : OwnSl 68 9 v n xs cs) (hi : i ≤ n) (hw : ws.length = 9) (h1 : ∀ u ∈ ws, u.oneCell' = true) (hx1 : ∀ u ∈ xs, u.oneCell' = true) (hne : ∀ c, c ∈ cs → c.1 ≠ bl) (hn : n ≤ 90000) :
    Fn Tryz.prog 141 [v, .int .i64 (i : Nat), .slice (some ⟨bl, 0, none⟩) 1 1] ((bl, .cells (List.toArray ws) 68 (0, 0)) :: (cs ++ F)) fun v' l' => ∃ c2, OwnSl 68 9 v' (n + 1) (xs.take (i * 9) ++ ws ++ xs.drop (i * 9)) c2 ∧ l' = c2 ++ F := by
  obtain ⟨p, cap, hv, hnc⟩ : ∃ p cap, v = .slice p n cap ∧ n ≤ cap := by
    rcases ho.2 with ⟨h, h0, _⟩ | ⟨b, cap, sp, h, _, h2, _⟩
    · exact ⟨none, 0, by rw [h, h0], by omega⟩
    · exact ⟨_, cap, h, h2⟩
  subst hv
  refine fn_of_body Tryz.func141 rfl rfl fun E => ?_
  simp only [argF, Tryz.ntmps141]
  refine gz ?_
  refine t_q (q_sliceP (l0 := i) (h0 := n) (m0 := cap) rfl (.some rfl (by omega) rfl) .none .none (by simp) hi hnc (by omega) rfl rfl) rfl rfl rfl ?_
  refine gz ?_
  by_cases hin : i = n
  · subst hin
    refine gz ?_
    refine t_e (e_appX (k := 9) (X := []) (cs := cs) (F := F) (xs := xs) (n := i) (ws := ws) (zs := obZ) rfl rfl rfl ho hw h1 (by omega) (by decide)) rfl rfl rfl ?_
    rintro v' _ ⟨c2, ho2, rfl⟩
    have hv1 : v'.oneCell' = true := ho2.one
    refine gz ?_
    refine k_ret [] rfl (l' := c2 ++ F) .refl (by exact zRes) ⟨c2, ?_, rfl⟩
    rw [List.take_of_length_le (by rw [ho.1]; omega), List.drop_of_length_le (by rw [ho.1]; omega), List.append_nil]; exact ho2
  refine gz ?_
  rcases ho.2 with ⟨h, h0, _⟩ | ⟨gb, cap', sp, h, rfl, h2, hcm, hcl⟩
  · omega
  cases h
  have hxl : xs.length = n * 9 := ho.1
  obtain ⟨A, hA⟩ : ∃ A, xs.take (i * 9) = A := ⟨_, rfl⟩
  obtain ⟨B, hB⟩ : ∃ B, xs.drop (i * 9) = B := ⟨_, rfl⟩
  have hAB : xs = A ++ B := by rw [← hA, ← hB, List.take_append_drop]
  have hAl : A.length = i * 9 := by rw [← hA, List.length_take]; omega
  have hBl : B.length = (n - i) * 9 := by rw [← hB, List.length_drop]; omega
  have hB1 : ∀ u ∈ B, u.oneCell' = true := fun u hu => hx1 u (by rw [hAB]; exact List.mem_append_right _ hu)
  rw [hA, hB]
  have hgb : gb ≠ bl := hne _ (.head _)
  rw [show xs ++ sp = A ++ (B ++ sp) by rw [hAB, List.append_assoc]] at hcl ⊢
  rw [List.length_append, List.length_append] at hcl
  simp only [List.cons_append, List.nil_append]
  refine t_q (q_cap rfl) rfl rfl rfl ?_
  refine gz ?_
  by_cases hroom : cap < n + 1
  · refine gz ?_
    refine t_q (q_slice (l0 := 0) (h0 := i) (m0 := cap) (off' := 0) (n' := i) (c' := cap) rfl .none (.some rfl (by omega) rfl) .none (by simp) (by omega) (by omega) (by omega) (by simp) (by omega) (by omega)) rfl rfl rfl ?_
    refine gz ?_
    refine s_keep (Keep.of_perm (l' := (gb, .cells (List.toArray (A ++ (B ++ sp))) 68 (0, 0)) :: ((bl, .cells (List.toArray ws) 68 (0, 0)) :: F)) (List.Perm.swap ..)) ?_
    refine t_e (e_appendZ (k := 9) (n := i) (m := n + 1 - i) (gb := gb) (cap := cap) (xs := A) (sp := B ++ sp) (zs := obZ) (F := (bl, .cells (List.toArray ws) 68 (0, 0)) :: F) rfl ?_ rfl (by omega) hAl (by omega) (by omega) (by omega) (by decide)) rfl rfl rfl ?_
    · show some (Value.int .i64 _) = _
      congr 2; omega
    rintro _ _ ⟨nb, cap2, sp2, hnb, rfl, rfl, hc1, hc2, hc3⟩
    rw [show i + (n + 1 - i) = n + 1 by omega] at hc1 ⊢
    obtain ⟨Z, hZ⟩ : ∃ Z, (List.replicate (n + 1 - i) obZ).flatten = Z := ⟨_, rfl⟩
    have hZl : Z.length = 9 + B.length := by rw [← hZ, hBl]; simp; omega
    rw [hZ] at hc3 ⊢
    have e0 : A ++ Z ++ sp2 = A ++ Z.take 9 ++ (Z.drop 9 ++ sp2) := by
      rw [List.append_assoc, List.append_assoc, ← List.append_assoc (Z.take 9), List.take_append_drop]
    have hZ9 : (Z.take 9).length = 9 := by rw [List.length_take]; omega
    have hZd : (Z.drop 9).length = B.length := by rw [List.length_drop]; omega
    rw [List.length_append, List.length_append] at hc3
    refine gz ?_
    refine t_q (q_slice (l0 := i) (h0 := n + 1) (m0 := cap2) (off' := A.length) (n' := n + 1 - i) (c' := cap2 - i) rfl (.some rfl (by omega) rfl) .none .none (by simp) (by omega) (by omega) (by omega) (by rw [if_neg (by omega)]; omega) rfl rfl) rfl rfl rfl ?_
    refine gz ?_
    have hl1 : (bl, Obj.cells (List.toArray ws) 68 (0, 0)) ∈ (nb, Obj.cells (List.toArray (A ++ Z ++ sp2)) 68 (0, 0)) :: (gb, .cells (List.toArray (A ++ (B ++ sp))) 68 (0, 0)) :: (bl, .cells (List.toArray ws) 68 (0, 0)) :: F := .tail _ (.tail _ (.head _))
    refine t_e (e_copyK (k := 9) (m := 1) (cs := ws) rfl rfl (by show min 1 (n + 1 - i) = 1; omega) hw hl1 (fun j u hj => by simpa using hj) (by simp only [List.length_append]; omega) h1) rfl rfl rfl ?_
    rintro _ _ ⟨rfl, rfl⟩
    rw [e0, lay3 A _ _ ws (by rw [hw, hZ9])]
    refine gz ?_
    have hAw : (A ++ ws).length = i * 9 + 9 := by rw [List.length_append]; omega
    have hl2 : (gb, Obj.cells (List.toArray (A ++ (B ++ sp))) 68 (0, 0)) ∈ (nb, Obj.cells (List.toArray (A ++ ws ++ (Z.drop 9 ++ sp2))) 68 (0, 0)) :: (gb, .cells (List.toArray (A ++ (B ++ sp))) 68 (0, 0)) :: (bl, .cells (List.toArray ws) 68 (0, 0)) :: F := .tail _ (.head _)
    refine c_draw [(0, true), (1, true), (2, true), (3, true), (4, true), (5, true), (6, true), (7, true), (8, false)] [[], [], [], [1, 2], [0, 1, 2, 3], [], [], [5, 6], [0, 1, 2, 3, 4, 5, 6, 7]] ([]) (by kernel_rfl) (by kernel_rfl) zAtt zHR ?_
    refine pz ?_
    apply pl_q
    · exact q_slice (l0 := i + 1) (h0 := n + 1) (m0 := cap2) (off' := i * 9 + 9) (n' := n - i) (c' := cap2 - (i + 1)) rfl (.some rfl (by omega) rfl) .none .none (by simp) (by omega) (by omega) (by omega) (by rw [if_neg (by omega)]; omega) (by omega) rfl
    · rfl
    · rfl
    · rfl
    refine pz ?_
    apply pl_q
    · exact q_slice (l0 := i) (h0 := n) (m0 := cap) (off' := i * 9) (n' := n - i) (c' := cap - i) rfl (.some rfl (by omega) rfl) .none .none (by simp) (by omega) (by omega) (by omega) (by rw [if_neg (by omega)]; omega) rfl rfl
    · rfl
    · rfl
    · rfl
    refine pz ?_
    apply pl_e
    · apply e_copyK (k := 9) (m := n - i) (cs := B) (cur := A ++ ws ++ (Z.drop 9 ++ sp2))
      · rfl
      · rfl
      · exact Nat.min_self _
      · omega
      · exact hl2
      · intro j u hj
        have hjl := (List.getElem?_eq_some_iff.1 hj).1
        rw [List.getElem?_toArray, List.getElem?_append_right (by omega), hAl, show i * 9 + j - i * 9 = j by omega, List.getElem?_append_left hjl]; exact hj
      · rw [List.length_append, List.length_append, List.length_append, hw, hAl, hZd]; omega
      · exact hB1
    · rfl
    · rfl
    · rfl
    · intro _ _ _ c hc; cases hc
    rintro _ _ ⟨rfl, rfl⟩
    have e3 : List.take (i * 9 + 9) (A ++ ws ++ (List.drop 9 Z ++ sp2)) ++ B ++ List.drop (i * 9 + 9 + B.length) (A ++ ws ++ (List.drop 9 Z ++ sp2)) = A ++ ws ++ B ++ sp2 := by
      have := lay3 (A ++ ws) (Z.drop 9) sp2 B hZd.symm
      rw [hAw, List.append_assoc (A ++ ws) (Z.drop 9) sp2] at this
      exact this
    rw [e3]
    refine pz ?_
    refine gz ?_
    refine k_ret [] rfl (l' := (nb, .cells (List.toArray (A ++ ws ++ B ++ sp2)) 68 (0, 0)) :: F) (by exact zKeep) (by exact zRes) ⟨[(nb, _)], ⟨?_, .inr ⟨nb, cap2, sp2, rfl, rfl, hc1, hc2, ?_⟩⟩, rfl⟩
    · rw [List.length_append, hAw]; omega
    · rw [List.length_append, List.length_append, hAw]; omega
  · obtain ⟨s1, s2, hs12, hs1⟩ : ∃ s1 s2, sp = s1 ++ s2 ∧ s1.length = 9 := ⟨sp.take 9, sp.drop 9, (List.take_append_drop ..).symm, by rw [List.length_take]; omega⟩
    refine gz ?_
    refine t_q (q_slice (l0 := 0) (h0 := n + 1) (m0 := cap) (off' := 0) (n' := n + 1) (c' := cap) rfl .none (.some rfl (by omega) (by omega)) .none (by simp) (by omega) (by omega) (by omega) (by simp) (by omega) (by omega)) rfl rfl rfl ?_
    refine gz ?_
    refine t_q (q_slice (l0 := i + 1) (h0 := n + 1) (m0 := cap) (off' := i * 9 + 9) (n' := n - i) (c' := cap - (i + 1)) rfl (.some rfl (by omega) rfl) .none .none (by simp) (by omega) (by omega) (by omega) (by rw [if_neg (by omega)]; omega) (by omega) rfl) rfl rfl rfl ?_
    refine gz ?_
    have hl2 : (gb, Obj.cells (List.toArray (A ++ (B ++ sp))) 68 (0, 0)) ∈ (bl, .cells (List.toArray ws) 68 (0, 0)) :: (gb, Obj.cells (List.toArray (A ++ (B ++ sp))) 68 (0, 0)) :: F := .tail _ (.head _)
    refine t_q (q_overlaps (cl1 := List.toArray ws) (cl2 := List.toArray (A ++ (B ++ sp))) rfl rfl rfl ov_f ov_n ov_b ov_x 4 ov_e (.head _) hl2 (fun h => hgb h.symm) (by simp; omega)) rfl rfl rfl ?_
    refine s_keep (Keep.of_perm (l' := (gb, .cells (List.toArray (A ++ (B ++ sp))) 68 (0, 0)) :: ((bl, .cells (List.toArray ws) 68 (0, 0)) :: F)) (List.Perm.swap ..)) ?_
    refine gz ?_
    refine c_draw [(0, true), (1, true), (2, true), (3, true), (4, true), (5, true), (6, true), (7, true), (8, false)] [[], [], [], [1, 2], [0, 1, 2, 3], [], [], [5, 6], [0, 1, 2, 3, 4, 5, 6, 7]] ([]) (by kernel_rfl) (by kernel_rfl) zAtt zHR ?_
    refine pz ?_
    apply pl_q
    · exact q_slice (l0 := i + 1) (h0 := n + 1) (m0 := cap) (off' := i * 9 + 9) (n' := n - i) (c' := cap - (i + 1)) rfl (.some rfl (by omega) rfl) .none .none (by simp) (by omega) (by omega) (by omega) (by rw [if_neg (by omega)]; omega) (by omega) rfl
    · rfl
    · rfl
    · rfl
    refine pz ?_
    apply pl_q
    · exact q_slice (l0 := i) (h0 := n + 1) (m0 := cap) (off' := i * 9) (n' := n + 1 - i) (c' := cap - i) rfl (.some rfl (by omega) rfl) .none .none (by simp) (by omega) (by omega) (by omega) (by rw [if_neg (by omega)]; omega) rfl rfl
    · rfl
    · rfl
    · rfl
    refine pz ?_
    apply pl_e
    · apply e_copyK (k := 9) (m := n - i) (cs := B) (cur := A ++ (B ++ sp))
      · rfl
      · rfl
      · show min (n + 1 - i) (n - i) = n - i; omega
      · omega
      · exact .head _
      · intro j u hj
        have hjl := (List.getElem?_eq_some_iff.1 hj).1
        rw [List.getElem?_toArray, List.getElem?_append_right (by omega), hAl, show i * 9 + j - i * 9 = j by omega, List.getElem?_append_left hjl]; exact hj
      · rw [List.length_append, List.length_append, hAl]; omega
      · exact hB1
    · rfl
    · rfl
    · rfl
    · intro _ _ _ c hc; cases hc
    rintro _ _ ⟨rfl, rfl⟩
    obtain ⟨Y, hY⟩ : ∃ Y, (B ++ sp).take 9 = Y := ⟨_, rfl⟩
    have hYl : Y.length = 9 := by rw [← hY, List.length_take, List.length_append]; omega
    have hD : (B ++ sp).drop (9 + B.length) = s2 := by
      rw [Nat.add_comm, ← List.drop_drop, List.drop_left' rfl, hs12, List.drop_left' hs1]
    have e3 : List.take (i * 9 + 9) (A ++ (B ++ sp)) ++ B ++ List.drop (i * 9 + 9 + B.length) (A ++ (B ++ sp)) = A ++ Y ++ (B ++ s2) := by
      rw [← hAl, Nat.add_assoc, List.drop_append, List.take_append, List.drop_of_length_le (by omega), List.take_of_length_le (by omega), Nat.add_sub_cancel_left, Nat.add_sub_cancel_left, hD, hY]
      simp
    rw [e3]
    refine pz ?_
    refine gz ?_
    refine t_q (q_slice (l0 := i) (h0 := n + 1) (m0 := cap) (off' := A.length) (n' := n + 1 - i) (c' := cap - i) rfl (.some rfl (by omega) rfl) .none .none (by simp) (by omega) (by omega) (by omega) (by rw [if_neg (by omega)]; omega) rfl rfl) rfl rfl rfl ?_
    refine gz ?_
    have hl3 : (bl, Obj.cells (List.toArray ws) 68 (0, 0)) ∈ (gb, Obj.cells (List.toArray (A ++ Y ++ (B ++ s2))) 68 (0, 0)) :: (bl, .cells (List.toArray ws) 68 (0, 0)) :: F := .tail _ (.head _)
    refine t_e (e_copyK (k := 9) (m := 1) (cs := ws) rfl rfl (by show min 1 (n + 1 - i) = 1; omega) hw hl3 (fun j u hj => by simpa using hj) (by simp only [List.length_append]; omega) h1) rfl rfl rfl ?_
    rintro _ _ ⟨rfl, rfl⟩
    rw [lay3 A _ _ ws (by rw [hw, hYl])]
    refine gz ?_
    rw [hs12, List.length_append] at hcl
    refine k_ret [] rfl (l' := (gb, .cells (List.toArray (A ++ ws ++ (B ++ s2))) 68 (0, 0)) :: F) (by exact zKeep) (by exact zRes) ⟨[(gb, _)], ⟨?_, .inr ⟨gb, cap, s2, rfl, ?_, by omega, hcm, ?_⟩⟩, rfl⟩
    · rw [List.length_append, List.length_append]; omega
    · rw [List.append_assoc (A ++ ws)]
    · rw [List.length_append, List.length_append, List.length_append]; omega
end Go.Proofs.YtcjknmpogkofpaaGreat.Ar

/- slices.Delete of one struct; cells laid over a row. -/
set_option linter.unusedVariables false
set_option linter.unusedSimpArgs false
namespace Go.Proofs.YtcjknmpogkofpaaGreat.Ar
open Go.RowKit
set_option maxRecDepth 20000
set_option maxRecDepth 20000

theorem setFrom_mid (ys' : List Value) : ∀ (X Y Z : List Value), ys'.length = Y.length → setFrom (List.toArray (X ++ Y ++ Z)) X.length ys' = List.toArray (X ++ ys' ++ Z) := by
  induction ys' with
  | nil => intro X Y Z h; cases Y with
    | nil => rfl
    | cons a b => simp at h
  | cons y r ih => intro X Y Z h; cases Y with
    | nil => simp at h
    | cons a b =>
      show setFrom ((List.toArray (X ++ (a :: b) ++ Z)).setIfInBounds X.length y) (X.length + 1) r = _
      have e1 : (List.toArray (X ++ (a :: b) ++ Z)).setIfInBounds X.length y = List.toArray ((X ++ [y]) ++ b ++ Z) := by
        rw [List.setIfInBounds_toArray]
        congr 1
        rw [List.append_assoc, List.set_append_right _ _ (Nat.le_refl _), Nat.sub_self]
        simp
      rw [e1, show X.length + 1 = (X ++ [y]).length by simp, ih (X ++ [y]) b Z (by simpa using h)]
      simp
set_option pp.deepTerms false
set_option pp.deepTerms.threshold 4
set_option maxHeartbeats 400000
end Go.Proofs.YtcjknmpogkofpaaGreat.Ar

/- Rows of numbers told by a function. -/
set_option linter.unusedVariables false
set_option linter.unusedSimpArgs false
namespace Go.Proofs.YtcjknmpogkofpaaGreat
open Go.RowKit

def upd {α : Type} (f : Nat → α) (k : Nat) (v : α) : Nat → α := fun i => if i = k then v else f i
theorem upd_same {α : Type} (f : Nat → α) (k : Nat) (v : α) : upd f k v k = v := if_pos rfl
theorem upd_other {α : Type} (f : Nat → α) (k i : Nat) (v : α) (h : i ≠ k) : upd f k v i = f i := if_neg h
theorem upd_upd {α : Type} (f : Nat → α) (k : Nat) (v w : α) : upd (upd f k v) k w = upd f k w := by funext i; unfold upd; split <;> rfl
/-- f a, f (a + 1), .. (n of them) -/
def seqI (f : Nat → Int) (a n : Nat) : List Int := (List.range n).map fun j => f (a + j)
theorem seqI_len (f : Nat → Int) (a n : Nat) : (seqI f a n).length = n := by simp [seqI]
theorem seqI_succ (f : Nat → Int) (a n : Nat) : seqI f a (n + 1) = seqI f a n ++ [f (a + n)] := by simp [seqI, List.range_succ]
theorem seqI_cons (f : Nat → Int) (a n : Nat) : seqI f a (n + 1) = f a :: seqI f (a + 1) n := by
  simp only [seqI, List.range_succ_eq_map, List.map_cons, List.map_map, Nat.add_zero]
  congr 1
  apply List.map_congr_left
  intro j _
  simp only [Function.comp_apply]; congr 1; omega
theorem seqI_mem {f : Nat → Int} {a n : Nat} {x : Int} (h : x ∈ seqI f a n) : ∃ j, j < n ∧ x = f (a + j) := by
  simp only [seqI, List.mem_map, List.mem_range] at h
  obtain ⟨j, hj, e⟩ := h
  exact ⟨j, hj, e.symm⟩
theorem seqI_congr {f g : Nat → Int} {a n : Nat} (h : ∀ j, j < n → f (a + j) = g (a + j)) : seqI f a n = seqI g a n := by
  unfold seqI; apply List.map_congr_left; intro j hj; exact h j (List.mem_range.1 hj)
abbrev fLo : Nat → Int := fun j => 1 + (j : Int)
end Go.Proofs.YtcjknmpogkofpaaGreat

/- Low. -/
set_option linter.unusedVariables false
set_option linter.unusedSimpArgs false
namespace Go.Proofs.YtcjknmpogkofpaaGreat
open Go.RowKit
set_option maxRecDepth 20000

theorem wrap_u64 (x : Int) : IntKind.u64.wrap x = x % 18446744073709551616 := by
  simp [IntKind.wrap, IntKind.signed, IntKind.bits]
def lowV (x n : Int) : Nat := ((x % 18446744073709551616) % n).toNat
theorem lowV_lt (x : Int) (n : Nat) (h : 0 < n) : lowV x n < n := by
  have h1 := Int.emod_nonneg (x % 18446744073709551616) (b := (n : Int)) (by omega)
  have h2 := Int.emod_lt_of_pos (x % 18446744073709551616) (b := (n : Int)) (by omega)
  unfold lowV; omega
theorem lowV_cast (x : Int) (n : Nat) (h : 0 < n) : ((lowV x n : Nat) : Int) = (x % 18446744073709551616) % n := by
  have h1 := Int.emod_nonneg (x % 18446744073709551616) (b := (n : Int)) (by omega)
  unfold lowV; omega
end Go.Proofs.YtcjknmpogkofpaaGreat

/- From a contract on all blocks to the form that a statement's last step wants. -/
set_option linter.unusedVariables false
set_option linter.unusedSimpArgs false
namespace Go.Proofs.YtcjknmpogkofpaaGreat
open Go.RowKit

/-- a list of numbers that came in -/
def InInts (l : List Chunk) (a : Option Addr) (n : Nat) (g : Nat → Int) : Prop :=
  0 < n → ∃ bB off cs t fz, a = some ⟨bB, off, none⟩ ∧ (bB, Obj.cells cs t fz) ∈ l ∧ ∀ i, i < n → cs[off + i * 1]? = some (.int .i64 (g i))

/-- a list of acts that came in -/
def InActs (l : List Chunk) (a : Option Addr) (n : Nat) (D A B : Nat → Int) : Prop :=
  0 < n → ∃ bB off cs t fz, a = some ⟨bB, off, none⟩ ∧ (bB, Obj.cells cs t fz) ∈ l ∧ ∀ i, i < n → off + i * 3 + 3 ≤ cs.size ∧ cs.extract (off + i * 3) (off + i * 3 + 3) = List.toArray [.int .i64 (D i), .int .i64 (A i), .int .i64 (B i)]

def allOf (W : World) : List Chunk := W.heap.toList.zipIdx.map fun x => (x.2, x.1)
theorem allOf_mem (W : World) (k : Nat) (o : Obj) : (k, o) ∈ allOf W ↔ W.heap[k]? = some o := by
  unfold allOf
  rw [List.mem_map]
  constructor
  · rintro ⟨⟨o', k'⟩, h, e⟩
    cases e
    have := List.mem_zipIdx_iff_getElem?.1 h
    simpa using this
  · intro h
    exact ⟨(o, k), List.mem_zipIdx_iff_getElem?.2 (by simpa using h), rfl⟩
theorem sat_all (W : World) : Sat W (allOf W) W := by
  refine ⟨rfl, rfl, rfl, ?_, fun c hc => (allOf_mem W c.1 c.2).1 hc⟩
  unfold allOf
  rw [List.map_map]
  have : (Prod.fst ∘ fun x : Obj × Nat => (x.2, x.1)) = Prod.snd := rfl
  rw [this, List.zipIdx_map_snd]
  exact List.nodup_range'
theorem law_walk {P : Program} {f : FuncId} {args : List Value} {W : World} (h : Fn P f args (allOf W) fun v l' => v = .bool true ∧ ∃ X, l' = X ++ allOf W) :
    Calls P f args.toArray W fun e W' => e = .returned (.bool true) ∧ Below W.heap.size W W' := by
  refine (h.run W W (sat_all W)).mono ?_
  rintro e W' ⟨v, l', rfl, ⟨rfl, X, rfl⟩, hs⟩
  have hb : ∀ k, k < W.heap.size → W'.heap[k]? = W.heap[k]? := fun k hk => by
    rw [Array.getElem?_eq_getElem hk]
    exact hs.has (k, W.heap[k]) (List.mem_append_right _ ((allOf_mem W k _).2 (Array.getElem?_eq_getElem hk)))
  refine ⟨rfl, ⟨hs.os, hs.tape, hs.output, ?_, hb⟩⟩
  by_cases h0 : W.heap.size = 0
  · omega
  · have h1 := hb (W.heap.size - 1) (by omega)
    rw [Array.getElem?_eq_getElem (xs := W.heap) (by omega)] at h1
    have := (Array.getElem?_eq_some_iff.1 h1).1
    omega
theorem rows_ints {W : World} {a : Option Addr} {n cap : Nat} {rows : List (List Value)} (h : IsRows [some .i64] W a n cap rows) : ∃ g, InInts (allOf W) a n g := by
  have hx : ∀ i, i < n → ∃ x : Int, rows[i]?.getD [] = [.int .i64 x] := fun i hi => by
    have hlt : i < rows.length := by rw [h.size]; exact hi
    obtain ⟨c, r, e1, ⟨x, rfl, _⟩, e2⟩ := h.all rows[i] (List.getElem_mem hlt)
    refine ⟨x, ?_⟩
    rw [List.getElem?_eq_getElem hlt, Option.getD_some, e1, show r = [] from e2]
  refine ⟨fun i => if hi : i < n then Classical.choose (hx i hi) else 0, fun h0 => ?_⟩
  obtain ⟨b, off, rfl, hb, hcell⟩ := h.at_ h0
  have c0 := hcell 0 0 h0 (by simp)
  unfold World.cell? at c0
  split at c0
  · rename_i cs t fz hob
    refine ⟨b, off, cs, t, fz, rfl, (allOf_mem W b _).2 hob, fun i hi => ?_⟩
    have ci := hcell i 0 hi (by simp)
    have hob' : W.heap[b]? = some (.cells cs t fz) := hob
    rw [blk_cell hob', Classical.choose_spec (hx i hi)] at ci
    show cs[off + i * 1]? = some (.int .i64 (if hi : i < n then Classical.choose (hx i hi) else 0))
    rw [dif_pos hi]
    simpa using ci
  · have := hx 0 h0
    obtain ⟨x, hx0⟩ := this
    rw [hx0] at c0
    cases c0
theorem rows_acts {W : World} {a : Option Addr} {n cap : Nat} {rows : List (List Value)} (h : IsRows [some .i64, some .i64, some .i64] W a n cap rows) : ∃ D A B, InActs (allOf W) a n D A B := by
  have hx : ∀ i, i < n → ∃ x : Int × Int × Int, rows[i]?.getD [] = [.int .i64 x.1, .int .i64 x.2.1, .int .i64 x.2.2] := fun i hi => by
    have hlt : i < rows.length := by rw [h.size]; exact hi
    obtain ⟨c, r, e1, ⟨x, rfl, _⟩, c2, r2, e2, ⟨y, rfl, _⟩, c3, r3, e3, ⟨z, rfl, _⟩, e4⟩ := h.all rows[i] (List.getElem_mem hlt)
    refine ⟨(x, y, z), ?_⟩
    rw [List.getElem?_eq_getElem hlt, Option.getD_some, e1, e2, e3, show r3 = [] from e4]
  obtain ⟨g, hg⟩ : ∃ g : Nat → Int × Int × Int, ∀ i, i < n → rows[i]?.getD [] = [.int .i64 (g i).1, .int .i64 (g i).2.1, .int .i64 (g i).2.2] :=
    ⟨fun i => if hi : i < n then Classical.choose (hx i hi) else (0, 0, 0), fun i hi => by dsimp only; rw [dif_pos hi]; exact Classical.choose_spec (hx i hi)⟩
  refine ⟨fun i => (g i).1, fun i => (g i).2.1, fun i => (g i).2.2, fun h0 => ?_⟩
  obtain ⟨b, off, rfl, hb, hcell⟩ := h.at_ h0
  have c0 := hcell 0 0 h0 (by simp)
  unfold World.cell? at c0
  split at c0
  · rename_i cs t fz hob
    have hob' : W.heap[b]? = some (.cells cs t fz) := hob
    refine ⟨b, off, cs, t, fz, rfl, (allOf_mem W b _).2 hob', fun i hi => ?_⟩
    have c1 := hcell i 0 hi (by simp)
    have c2 := hcell i 1 hi (by simp)
    have c3 := hcell i 2 hi (by simp)
    rw [blk_cell hob', hg i hi] at c1 c2 c3
    simp only [List.length_cons, List.length_nil, Nat.reduceAdd, Nat.add_zero, List.getElem?_cons_zero, List.getElem?_cons_succ] at c1 c2 c3
    have hlt := (Array.getElem?_eq_some_iff.1 c3).1
    refine ⟨by omega, ?_⟩
    apply Array.ext_getElem?
    intro j
    rw [Array.getElem?_extract]
    by_cases hj : j < 3
    · rw [if_pos (by omega)]
      match j, hj with
      | 0, _ => simpa using c1
      | 1, _ => simpa using c2
      | 2, _ => simpa using c3
    · rw [if_neg (by omega)]
      simp; omega
  · obtain ⟨x, hx0⟩ := hx 0 h0
    rw [hx0] at c0
    cases c0
end Go.Proofs.YtcjknmpogkofpaaGreat

/- Arena: the state as plain data and its blocks. -/
set_option linter.unusedVariables false
set_option linter.unusedSimpArgs false
namespace Go.Proofs.YtcjknmpogkofpaaGreat.Ar
open Go.RowKit
set_option maxRecDepth 20000
set_option maxRecDepth 20000

abbrev intV (x : Int) : Value := .int .i64 x
structure ObT where
  id : Int
  kd : Int
  sz : Int
  fi : Int
  fr : Int
  ma : Int
  se : Int
  pg : Int
  lv : Int
deriving DecidableEq
abbrev obC (o : ObT) : List Value := [.int .i64 o.id, .int .i64 o.kd, .int .i64 o.sz, .int .i64 o.fi, .int .i64 o.fr, .int .i64 o.ma, .int .i64 o.se, .int .i64 o.pg, .int .i64 o.lv]
abbrev obO : ObT := ⟨0, 0, 0, 0, 0, 0, 0, 0, 0⟩
abbrev OL := List ObT
def ocs (os : OL) : List Value := os.flatMap obC
theorem ocs_l (os : OL) : (ocs os).length = os.length * 9 := by
  induction os with
  | nil => rfl
  | cons x r ih =>
    rw [show ocs (x :: r) = obC x ++ ocs r from rfl, List.length_append, ih]
    show 9 + r.length * 9 = (r.length + 1) * 9
    omega
theorem ocs_app (a b : OL) : ocs (a ++ b) = ocs a ++ ocs b := List.flatMap_append ..
theorem ocs_one (os : OL) : ∀ u ∈ ocs os, u.oneCell' = true := by
  intro u hu
  obtain ⟨o, _, h⟩ := List.mem_flatMap.1 hu
  simp only [obC, List.mem_cons, List.not_mem_nil, or_false] at h
  rcases h with rfl | rfl | rfl | rfl | rfl | rfl | rfl | rfl | rfl <;> rfl
/-- the place of a row's cell -/
theorem ocs_at {os : OL} {i : Nat} {o : ObT} (h : os[i]? = some o) (sp : List Value) (j : Nat) (hj : j < 9) : (List.toArray (ocs os ++ sp))[i * 9 + j]? = (obC o)[j]? := by
  obtain ⟨h1, h2⟩ := flat_row (enc := obC) (k := 9) (fun _ => rfl) sp os i o h
  rw [← h1, List.getElem?_take, if_pos hj, List.getElem?_drop, List.getElem?_toArray]; rfl
theorem ocs_ext {os : OL} {i : Nat} {o : ObT} (h : os[i]? = some o) (sp : List Value) : i * 9 + 9 ≤ (List.toArray (ocs os ++ sp)).size ∧ (List.toArray (ocs os ++ sp)).extract (i * 9) (i * 9 + 9) = List.toArray (obC o) := by
  obtain ⟨h1, h2⟩ := flat_row (enc := obC) (k := 9) (fun _ => rfl) sp os i o h
  refine ⟨by rw [List.size_toArray]; exact h2, ?_⟩
  rw [List.extract_toArray, List.extract_eq_take_drop, Nat.add_sub_cancel_left]
  exact congrArg List.toArray h1
theorem split_at {os : OL} {i : Nat} {o : ObT} (h : os[i]? = some o) : os = os.take i ++ o :: os.drop (i + 1) := by
  obtain ⟨hi, rfl⟩ := List.getElem?_eq_some_iff.1 h
  rw [List.getElem_cons_drop, List.take_append_drop]
theorem ocs_set {os : OL} {i : Nat} {o o' : ObT} (h : os[i]? = some o) (sp : List Value) (j : Nat) (v : Value) (hj : j < 9) (he : (obC o).set j v = obC o') : (List.toArray (ocs os ++ sp)).setIfInBounds (i * 9 + j) v = List.toArray (ocs (os.set i o') ++ sp) := by
  have hi := (List.getElem?_eq_some_iff.1 h).1
  have e1 : ocs os ++ sp = ocs (os.take i) ++ (obC o ++ (ocs (os.drop (i + 1)) ++ sp)) := by
    conv => lhs; rw [split_at h]
    rw [ocs_app, show ocs (o :: os.drop (i + 1)) = obC o ++ ocs (os.drop (i + 1)) from rfl]; simp
  have e2 : ocs (os.set i o') ++ sp = ocs (os.take i) ++ (obC o' ++ (ocs (os.drop (i + 1)) ++ sp)) := by
    rw [List.set_eq_take_append_cons_drop, if_pos hi, ocs_app, show ocs (o' :: os.drop (i + 1)) = obC o' ++ ocs (os.drop (i + 1)) from rfl]; simp
  have hl : (ocs (os.take i)).length = i * 9 := by rw [ocs_l, List.length_take]; omega
  rw [List.setIfInBounds_toArray, e1, e2, List.set_append_right _ _ (by omega), show i * 9 + j - (ocs (os.take i)).length = j by omega, List.set_append_left _ _ (by show j < 9; omega), he]
/-- an arena's own cells -/
def arL (n : Int) (g : Nat → Int) (v : Value) : List Value := .int .i64 n :: ((seqI g 0 64).map intV ++ [v])
theorem arL_len (n : Int) (g : Nat → Int) (v : Value) : (arL n g v).length = 66 := by unfold arL; simp [seqI_len]
theorem arL_n (n : Int) (g : Nat → Int) (v : Value) : (List.toArray (arL n g v))[0]? = some (.int .i64 n) := rfl
theorem arL_l (n : Int) (g : Nat → Int) (v : Value) : (List.toArray (arL n g v))[65]? = some v := by
  rw [List.getElem?_toArray]; unfold arL
  rw [List.getElem?_cons_succ, List.getElem?_append_right (by simp [seqI_len])]; simp [seqI_len]
theorem arL_g (n : Int) (g : Nat → Int) (v : Value) {j : Nat} (hj : j < 64) : (List.toArray (arL n g v))[1 + j * 1]? = some (.int .i64 (g j)) := by
  rw [List.getElem?_toArray, show 1 + j * 1 = j + 1 by omega]; unfold arL
  rw [List.getElem?_cons_succ, List.getElem?_append_left (by simp [seqI_len]; omega), List.getElem?_map]
  simp [seqI, hj]
theorem arL_setG (n : Int) (g : Nat → Int) (v : Value) {j : Nat} (hj : j < 64) (x : Int) : (List.toArray (arL n g v)).setIfInBounds (1 + j * 1) (.int .i64 x) = List.toArray (arL n (upd g j x) v) := by
  rw [List.setIfInBounds_toArray, show 1 + j * 1 = j + 1 by omega]; unfold arL
  rw [List.set_cons_succ, List.set_append_left _ _ (by simp [seqI_len]; omega)]
  congr 3
  apply List.ext_getElem?
  intro k
  rw [List.getElem?_set]
  by_cases hk : k < 64
  · by_cases e : j = k
    · subst e
      rw [if_pos rfl, if_pos (by simp [seqI_len]; omega)]
      simp [seqI, hk, upd_same]
    · rw [if_neg e]
      simp [seqI, hk, upd_other _ _ _ _ (fun h => e h.symm)]
  · rw [if_neg (by omega)]
    rw [List.getElem?_eq_none (by simp [seqI_len]; omega), List.getElem?_eq_none (by simp [seqI_len]; omega)]
theorem arL_setL (n : Int) (g : Nat → Int) (v u : Value) : (List.toArray (arL n g v)).setIfInBounds 65 u = List.toArray (arL n g u) := by
  rw [List.setIfInBounds_toArray]; unfold arL
  rw [List.set_cons_succ, List.set_append_right _ _ (by simp [seqI_len])]
  simp [seqI_len]
abbrev arC (b : Nat) (n : Int) (g : Nat → Int) (v : Value) : Chunk := (b, .cells (List.toArray (arL n g v)) 261 (0, 0))
/-- an arena as plain data: how many frames, how many ever began at each, the objects -/
structure ArT where
  n : Int
  g : Nat → Int
  os : OL
structure ArT.Ok (S : ArT) : Prop where
  n1 : 1 ≤ S.n
  n2 : S.n ≤ 64
  g1 : ∀ j, 0 ≤ S.g j ∧ S.g j ≤ 1024
  asc : S.os.Pairwise fun x y => x.id < y.id
  rng : ∀ x ∈ S.os, 1 ≤ x.id ∧ x.id ≤ 65535
  num : ∀ x ∈ S.os, 0 ≤ x.fi ∧ x.fi < S.n ∧ ∃ c : Int, 0 ≤ c ∧ c < S.g x.fi.toNat ∧ x.id = x.fi + 1 + 64 * c
theorem asc_len : ∀ (os : OL) (a : Int), 0 ≤ a → a ≤ 65535 → (os.Pairwise fun x y => x.id < y.id) → (∀ x ∈ os, a < x.id ∧ x.id ≤ 65535) → (os.length : Int) ≤ 65535 - a
  | [], a, h0, ha, _, _ => by simp; omega
  | x :: r, a, h0, ha, h, hr => by
    obtain ⟨h1, h2⟩ := List.pairwise_cons.1 h
    have hx := hr x (.head _)
    have := asc_len r x.id (by omega) (by omega) h2 fun y hy => ⟨h1 y hy, (hr y (.tail _ hy)).2⟩
    simp only [List.length_cons]; omega
theorem ArT.Ok.len {S : ArT} (h : S.Ok) : S.os.length ≤ 65535 := by
  have := asc_len S.os 0 (by omega) (by omega) h.asc fun x hx => by have := h.rng x hx; omega
  omega
structure IsA (b : Nat) (S : ArT) (lq : List Chunk) : Prop where
  ok : S.Ok
  ex : ∃ v cs, lq = arC b S.n S.g v :: cs ∧ OwnSl 68 9 v S.os.length (ocs S.os) cs
end Go.Proofs.YtcjknmpogkofpaaGreat.Ar

/- Arena: New, the iterator's closure, carve's and kinds' functions, apart, Next. -/
-- GU
set_option linter.unusedVariables false
set_option linter.unusedSimpArgs false
namespace Go.Proofs.YtcjknmpogkofpaaGreat.Ar
open Go.RowKit
set_option maxRecDepth 20000
set_option maxRecDepth 20000

def framesD (k s : Int) : Int :=
  if k = 1 then (if 1 ≤ s ∧ s ≤ 64 then s else 0)
  else if k = 2 then (if s = 1 then 1 else if s = 2 then 1 else if s = 3 then 2 else if s = 4 then 4 else 0)
  else if k = 3 ∨ k = 4 ∨ k = 5 ∨ k = 6 ∨ k = 8 ∨ k = 9 then (if s = 0 then 1 else 0) else 0
def slotsD (k s : Int) : Int :=
  if k = 2 then (if s = 1 then 2 else if s = 2 then 4 else if s = 3 then 8 else if s = 4 then 16 else 0)
  else if k = 9 then (if s = 0 then 3 else 0) else 0
def smallI (x : Int) : Prop := 0 ≤ x ∧ x ≤ 1048576
instance (x : Int) : Decidable (smallI x) := by unfold smallI; exact inferInstance
def mayD (a n b k : Int) : Bool := decide (smallI a ∧ smallI n ∧ smallI b ∧ smallI k)
def meetD (a n b k : Int) : Bool := mayD a n b k && decide (n > 0) && decide (k > 0) && decide (a < b + k) && decide (b < a + n)
def withinD (a n b k : Int) : Bool := mayD a n b k && (decide (n = 0) || (decide (a ≥ b) && decide (a + n ≤ b + k)))
def apartD (kd fi n : Int) (o : ObT) : Bool := !meetD fi n o.fi o.fr || ((decide (o.kd = 1) && withinD fi n o.fi o.fr) || (decide (kd = 1) && withinD o.fi o.fr fi n))
def nextD (S : ArT) (f : Int) : Int := if f < 0 then 0 else if f ≥ S.n then 0 else if f + 1 + 64 * S.g f.toNat > 65535 then 0 else f + 1 + 64 * S.g f.toNat
set_option pp.deepTerms false
set_option pp.deepTerms.threshold 4
set_option maxHeartbeats 400000
theorem new_any (n : Int) (l : List Chunk) : Fn Tryz.prog 66 [.int .i64 n] l fun v l' =>
    (¬ (1 ≤ n ∧ n ≤ 64) ∧ v = .tuple #[.pointer none, .int .i64 3] ∧ l' = l) ∨ ((1 ≤ n ∧ n ≤ 64) ∧ ∃ b lq, v = .tuple #[.pointer (some ⟨b, 0, none⟩), .int .i64 0] ∧ IsA b ⟨n, fun _ => 0, []⟩ lq ∧ l' = lq ++ l) := by
  refine fn_of_body Tryz.func66 rfl rfl fun E => ?_
  simp only [argF, Tryz.ntmps66]
  by_cases h1 : n < 1
  · refine gzU ?_
    exact k_ret [] rfl .refl (by exact zRes) (.inl ⟨by omega, rfl, rfl⟩)
  by_cases h2 : n > 64
  · refine gzU ?_
    exact k_ret [] rfl .refl (by exact zRes) (.inl ⟨by omega, rfl, rfl⟩)
  refine gzU ?_
  refine t_e (e_boxA rfl) rfl rfl rfl ?_
  rintro _ _ ⟨b, hb, rfl, rfl⟩
  refine gzU ?_
  refine k_ret [] rfl .refl (by exact zRes) (.inr ⟨by omega, b, [arC b n (fun _ => 0) (.slice none 0 0)], rfl, ⟨⟨by show 1 ≤ n; omega, by show n ≤ 64; omega, fun j => by simp, .nil, (fun x hx => by cases hx), fun x hx => by cases hx⟩, _, [], rfl, OwnSl.nil _ _⟩, rfl⟩)
theorem each_any (b : Value) (h1 : b.oneCell' = true) (l : List Chunk) : Fn Tryz.prog 124 [b] l fun v l' => ∃ B, v = .func (.func 173) #[] #[.pointer (some ⟨B, 0, none⟩)] ∧ l' = (B, .cells #[b] 122 (0, 0)) :: l := by
  refine fn_of_body Tryz.func124 rfl rfl fun E => ?_
  simp only [argF, Tryz.ntmps124]
  refine gzU ?_
  refine t_e (e_box1 rfl h1) rfl rfl rfl ?_
  rintro _ _ ⟨B, hB, rfl, rfl⟩
  refine gzU ?_
  exact k_ret [] rfl .refl (by exact zRes) ⟨B, rfl, rfl⟩
theorem slots_any (k s : Int) (l : List Chunk) : Fn Tryz.prog 78 [.int .i64 k, .int .i64 s] l fun v l' => v = .int .i64 (slotsD k s) ∧ l' = l := by
  refine fn_of_body Tryz.func78 rfl rfl fun E => ?_
  simp only [argF, Tryz.ntmps78]
  by_cases h2 : k = 2
  · subst h2
    by_cases h1 : 1 ≤ s ∧ s ≤ 4
    · have hs : s = 1 ∨ s = 2 ∨ s = 3 ∨ s = 4 := by omega
      rcases hs with rfl | rfl | rfl | rfl
      · refine gzU ?_
        refine t_q (q_shl (i := 1) (n := 1) rfl rfl (by decide)) rfl rfl rfl ?_
        refine gzU ?_
        exact k_ret [] rfl .refl (by exact zRes) ⟨rfl, rfl⟩
      · refine gzU ?_
        refine t_q (q_shl (i := 1) (n := 2) rfl rfl (by decide)) rfl rfl rfl ?_
        refine gzU ?_
        exact k_ret [] rfl .refl (by exact zRes) ⟨rfl, rfl⟩
      · refine gzU ?_
        refine t_q (q_shl (i := 1) (n := 3) rfl rfl (by decide)) rfl rfl rfl ?_
        refine gzU ?_
        exact k_ret [] rfl .refl (by exact zRes) ⟨rfl, rfl⟩
      · refine gzU ?_
        refine t_q (q_shl (i := 1) (n := 4) rfl rfl (by decide)) rfl rfl rfl ?_
        refine gzU ?_
        exact k_ret [] rfl .refl (by exact zRes) ⟨rfl, rfl⟩
    · by_cases h3 : 1 ≤ s
      · refine gzU ?_
        refine k_ret [] rfl .refl (by exact zRes) ⟨?_, rfl⟩
        unfold slotsD
        rw [if_pos rfl, if_neg (by omega), if_neg (by omega), if_neg (by omega), if_neg (by omega)]; rfl
      · refine gzU ?_
        refine k_ret [] rfl .refl (by exact zRes) ⟨?_, rfl⟩
        unfold slotsD
        rw [if_pos rfl, if_neg (by omega), if_neg (by omega), if_neg (by omega), if_neg (by omega)]; rfl
  · by_cases h9 : k = 9
    · subst h9
      by_cases h0 : s = 0
      · subst h0
        refine gzU ?_
        exact k_ret [] rfl .refl (by exact zRes) ⟨rfl, rfl⟩
      · refine gzU ?_
        refine k_ret [] rfl .refl (by exact zRes) ⟨?_, rfl⟩
        unfold slotsD
        rw [if_neg (by omega), if_pos rfl, if_neg h0]; rfl
    · refine gzU ?_
      refine k_ret [] rfl .refl (by exact zRes) ⟨?_, rfl⟩
      unfold slotsD
      rw [if_neg h2, if_neg h9]; rfl
theorem may_any (a n b k : Int) (B : Nat) (l : List Chunk) (hm : (B, Obj.cells (List.toArray [.int .i64 a, .int .i64 n, .int .i64 b, .int .i64 k]) 3 (0, 0)) ∈ l) : Fn Tryz.prog 212 [.slice (some ⟨B, 0, none⟩) 4 4] l fun v l' => v = .bool (mayD a n b k) ∧ l' = l := by
  refine fn_of_body Tryz.func212 rfl rfl fun E => ?_
  simp only [argF, Tryz.ntmps212]
  refine gzU ?_
  refine k_loop (α := Nat) (fun i => [(5, .slice (some ⟨B, 0, none⟩) 4 4), (6, .int .i64 4), (7, .int .i64 i)]) (fun i => l) (fun i => i ≤ 4 ∧ ∀ j x, j < i → [a, n, b, k][j]? = some x → smallI x) (fun i => 4 - i) 0 ⟨Nat.zero_le _, fun j x h => by omega⟩ ⟨rfl, rfl, rfl, trivial⟩ .refl ?_
  rintro i ⟨hi, hj⟩
  by_cases hlt : i < 4
  · obtain ⟨x, hx⟩ : ∃ x, [a, n, b, k][i]? = some x := ⟨_, List.getElem?_eq_getElem (show i < [a, n, b, k].length from hlt)⟩
    have hc : (List.toArray [Value.int .i64 a, .int .i64 n, .int .i64 b, .int .i64 k])[i * 1]? = some (.int .i64 x) := by
      have : i = 0 ∨ i = 1 ∨ i = 2 ∨ i = 3 := by omega
      rcases this with rfl | rfl | rfl | rfl <;> (simp at hx; subst hx; rfl)
    have hF : ¬ smallI x → mayD a n b k = false := fun h => by
      refine decide_eq_false fun hh => h ?_
      have : i = 0 ∨ i = 1 ∨ i = 2 ∨ i = 3 := by omega
      rcases this with rfl | rfl | rfl | rfl <;> (simp at hx; subst hx; simp [hh])
    refine gzU ?_
    by_cases h1 : x < 0
    · refine gzU ?_
      exact k_ret [] rfl .refl (by exact zRes) ⟨by rw [hF (fun h => by unfold smallI at h; omega)]; rfl, rfl⟩
    by_cases h2 : x > 1048576
    · refine gzU ?_
      exact k_ret [] rfl .refl (by exact zRes) ⟨by rw [hF (fun h => by unfold smallI at h; omega)]; rfl, rfl⟩
    · refine gzU ?_
      refine k_next (i + 1) ⟨by omega, fun j y hji hy => ?_⟩ (by omega) ⟨rfl, rfl, rfl, trivial⟩ .refl
      by_cases e : j = i
      · subst e; rw [hx] at hy; cases hy; exact ⟨by omega, by omega⟩
      · exact hj j y (by omega) hy
  · obtain rfl : i = 4 := by omega
    have hT : mayD a n b k = true := decide_eq_true ⟨hj 0 a (by omega) rfl, hj 1 n (by omega) rfl, hj 2 b (by omega) rfl, hj 3 k (by omega) rfl⟩
    refine gzU ?_
    exact k_ret [] rfl .refl (by exact zRes) ⟨by rw [hT]; rfl, rfl⟩
theorem may_sm {a n b k : Int} (h : mayD a n b k = true) : smallI a ∧ smallI n ∧ smallI b ∧ smallI k := of_decide_eq_true h
theorem meet_any (a n b k : Int) (l : List Chunk) : Fn Tryz.prog 183 [.int .i64 a, .int .i64 n, .int .i64 b, .int .i64 k] l fun v l' => v = .bool (meetD a n b k) ∧ l' = l := by
  refine fn_of_body Tryz.func183 rfl rfl fun E => ?_
  simp only [argF, Tryz.ntmps183]
  refine gzU ?_
  refine t_e (e_litN rfl (by decide) (by decide) rfl) rfl rfl rfl ?_
  rintro _ _ ⟨B, hB, rfl, rfl⟩
  refine gzU ?_
  refine t_q (q_call rfl rfl fun l2 hl => may_any a n b k B l2 (hl _ (.head _))) rfl rfl rfl ?_
  cases hm : mayD a n b k with
  | false =>
    refine gzU ?_
    exact k_ret [] rfl (.drop .refl) (by exact zRes) ⟨by unfold meetD; rw [hm]; rfl, rfl⟩
  | true =>
    obtain ⟨⟨a1, a2⟩, ⟨n1, n2⟩, ⟨b1, b2⟩, k1, k2⟩ := may_sm hm
    by_cases h1 : n > 0
    · by_cases h2 : k > 0
      · by_cases h3 : a < b + k
        · by_cases h4 : b < a + n
          · refine gzU ?_
            exact k_ret [] rfl (.drop .refl) (by exact zRes) ⟨by unfold meetD; rw [hm, decide_eq_true h1, decide_eq_true h2, decide_eq_true h3, decide_eq_true h4]; rfl, rfl⟩
          · refine gzU ?_
            exact k_ret [] rfl (.drop .refl) (by exact zRes) ⟨by unfold meetD; rw [hm, decide_eq_true h1, decide_eq_true h2, decide_eq_true h3, decide_eq_false h4]; rfl, rfl⟩
        · refine gzU ?_
          exact k_ret [] rfl (.drop .refl) (by exact zRes) ⟨by unfold meetD; rw [hm, decide_eq_true h1, decide_eq_true h2, decide_eq_false h3]; rfl, rfl⟩
      · refine gzU ?_
        exact k_ret [] rfl (.drop .refl) (by exact zRes) ⟨by unfold meetD; rw [hm, decide_eq_true h1, decide_eq_false h2]; rfl, rfl⟩
    · refine gzU ?_
      exact k_ret [] rfl (.drop .refl) (by exact zRes) ⟨by unfold meetD; rw [hm, decide_eq_false h1]; rfl, rfl⟩
theorem within_any (a n b k : Int) (l : List Chunk) : Fn Tryz.prog 184 [.int .i64 a, .int .i64 n, .int .i64 b, .int .i64 k] l fun v l' => v = .bool (withinD a n b k) ∧ l' = l := by
  refine fn_of_body Tryz.func184 rfl rfl fun E => ?_
  simp only [argF, Tryz.ntmps184]
  refine gzU ?_
  refine t_e (e_litN rfl (by decide) (by decide) rfl) rfl rfl rfl ?_
  rintro _ _ ⟨B, hB, rfl, rfl⟩
  refine gzU ?_
  refine t_q (q_call rfl rfl fun l2 hl => may_any a n b k B l2 (hl _ (.head _))) rfl rfl rfl ?_
  cases hm : mayD a n b k with
  | false =>
    refine gzU ?_
    exact k_ret [] rfl (.drop .refl) (by exact zRes) ⟨by unfold withinD; rw [hm]; rfl, rfl⟩
  | true =>
    obtain ⟨⟨a1, a2⟩, ⟨n1, n2⟩, ⟨b1, b2⟩, k1, k2⟩ := may_sm hm
    by_cases h1 : n = 0
    · refine gzU ?_
      exact k_ret [] rfl (.drop .refl) (by exact zRes) ⟨by unfold withinD; rw [hm, decide_eq_true h1]; rfl, rfl⟩
    · by_cases h3 : a ≥ b
      · by_cases h4 : a + n ≤ b + k
        · refine gzU ?_
          exact k_ret [] rfl (.drop .refl) (by exact zRes) ⟨by unfold withinD; rw [hm, decide_eq_false h1, decide_eq_true h3, decide_eq_true h4]; rfl, rfl⟩
        · refine gzU ?_
          exact k_ret [] rfl (.drop .refl) (by exact zRes) ⟨by unfold withinD; rw [hm, decide_eq_false h1, decide_eq_true h3, decide_eq_false h4]; rfl, rfl⟩
      · refine gzU ?_
        exact k_ret [] rfl (.drop .refl) (by exact zRes) ⟨by unfold withinD; rw [hm, decide_eq_false h1, decide_eq_false h3]; rfl, rfl⟩
theorem frames_any (k s : Int) (l : List Chunk) : Fn Tryz.prog 74 [.int .i64 k, .int .i64 s] l fun v l' => v = .int .i64 (framesD k s) ∧ l' = l := by
  refine fn_of_body Tryz.func74 rfl rfl fun E => ?_
  simp only [argF, Tryz.ntmps74]
  by_cases h1 : k = 1
  · subst h1
    by_cases hs : s ≥ 1
    · by_cases hs2 : s ≤ 64
      · refine gzU ?_
        exact k_ret [] rfl .refl (by exact zRes) ⟨by unfold framesD; rw [if_pos rfl, if_pos ⟨hs, hs2⟩]; rfl, rfl⟩
      · refine gzU ?_
        exact k_ret [] rfl .refl (by exact zRes) ⟨by unfold framesD; rw [if_pos rfl, if_neg (by omega)]; rfl, rfl⟩
    · refine gzU ?_
      exact k_ret [] rfl .refl (by exact zRes) ⟨by unfold framesD; rw [if_pos rfl, if_neg (by omega)]; rfl, rfl⟩
  by_cases h2 : k = 2
  · subst h2
    by_cases hs : s = 1 ∨ s = 2 ∨ s = 3 ∨ s = 4
    · rcases hs with rfl | rfl | rfl | rfl
      · refine gzU ?_
        refine t_q (q_call rfl rfl fun l2 _ => slots_any 2 _ l2) rfl rfl rfl ?_
        simp only [slotsD, if_true, if_false, Int.reduceEq]
        refine gzU ?_
        exact k_ret [] rfl .refl (by exact zRes) ⟨rfl, rfl⟩
      · refine gzU ?_
        refine t_q (q_call rfl rfl fun l2 _ => slots_any 2 _ l2) rfl rfl rfl ?_
        simp only [slotsD, if_true, if_false, Int.reduceEq]
        refine gzU ?_
        exact k_ret [] rfl .refl (by exact zRes) ⟨rfl, rfl⟩
      · refine gzU ?_
        refine t_q (q_call rfl rfl fun l2 _ => slots_any 2 _ l2) rfl rfl rfl ?_
        simp only [slotsD, if_true, if_false, Int.reduceEq]
        refine gzU ?_
        exact k_ret [] rfl .refl (by exact zRes) ⟨rfl, rfl⟩
      · refine gzU ?_
        refine t_q (q_call rfl rfl fun l2 _ => slots_any 2 _ l2) rfl rfl rfl ?_
        simp only [slotsD, if_true, if_false, Int.reduceEq]
        refine gzU ?_
        exact k_ret [] rfl .refl (by exact zRes) ⟨rfl, rfl⟩
    · refine gzU ?_
      refine t_q (q_call rfl rfl fun l2 _ => slots_any 2 _ l2) rfl rfl rfl ?_
      rw [show slotsD 2 s = 0 by unfold slotsD; rw [if_pos rfl, if_neg (by omega), if_neg (by omega), if_neg (by omega), if_neg (by omega)]]
      refine gzU ?_
      exact k_ret [] rfl .refl (by exact zRes) ⟨by unfold framesD; rw [if_neg (by omega), if_pos rfl, if_neg (by omega), if_neg (by omega), if_neg (by omega), if_neg (by omega)]; rfl, rfl⟩
  by_cases hk : k = 3 ∨ k = 4 ∨ k = 5 ∨ k = 6 ∨ k = 8 ∨ k = 9
  · have e : framesD k s = if s = 0 then 1 else 0 := by unfold framesD; rw [if_neg h1, if_neg h2, if_pos hk]
    rw [e]
    rcases hk with rfl | rfl | rfl | rfl | rfl | rfl
    · by_cases hs : s = 0
      · refine gzU ?_
        exact k_ret [] rfl .refl (by exact zRes) ⟨by rw [if_pos hs]; rfl, rfl⟩
      · refine gzU ?_
        exact k_ret [] rfl .refl (by exact zRes) ⟨by rw [if_neg hs]; rfl, rfl⟩
    · by_cases hs : s = 0
      · refine gzU ?_
        exact k_ret [] rfl .refl (by exact zRes) ⟨by rw [if_pos hs]; rfl, rfl⟩
      · refine gzU ?_
        exact k_ret [] rfl .refl (by exact zRes) ⟨by rw [if_neg hs]; rfl, rfl⟩
    · by_cases hs : s = 0
      · refine gzU ?_
        exact k_ret [] rfl .refl (by exact zRes) ⟨by rw [if_pos hs]; rfl, rfl⟩
      · refine gzU ?_
        exact k_ret [] rfl .refl (by exact zRes) ⟨by rw [if_neg hs]; rfl, rfl⟩
    · by_cases hs : s = 0
      · refine gzU ?_
        exact k_ret [] rfl .refl (by exact zRes) ⟨by rw [if_pos hs]; rfl, rfl⟩
      · refine gzU ?_
        exact k_ret [] rfl .refl (by exact zRes) ⟨by rw [if_neg hs]; rfl, rfl⟩
    · by_cases hs : s = 0
      · refine gzU ?_
        exact k_ret [] rfl .refl (by exact zRes) ⟨by rw [if_pos hs]; rfl, rfl⟩
      · refine gzU ?_
        exact k_ret [] rfl .refl (by exact zRes) ⟨by rw [if_neg hs]; rfl, rfl⟩
    · by_cases hs : s = 0
      · refine gzU ?_
        exact k_ret [] rfl .refl (by exact zRes) ⟨by rw [if_pos hs]; rfl, rfl⟩
      · refine gzU ?_
        exact k_ret [] rfl .refl (by exact zRes) ⟨by rw [if_neg hs]; rfl, rfl⟩
  · have e : framesD k s = 0 := by unfold framesD; rw [if_neg h1, if_neg h2, if_neg hk]
    rw [e]
    refine gzU ?_
    exact k_ret [] rfl .refl (by exact zRes) ⟨rfl, rfl⟩
end Go.Proofs.YtcjknmpogkofpaaGreat.Ar
