/- Laws that the statement's proof leans on (joined out of several texts). -/
import Derived.Test.YtcjknmpogkofpaaGreatGm4
import Derived.Test.YtcjknmpogkofpaaGreatGm3
import Derived.Lib.Overlaps
import Derived.Laws.CopyRow
import Derived.Below
import Derived.Test.YtcjknmpogkofpaaGreatGm1
set_option linter.unusedVariables false
set_option linter.unusedSimpArgs false
namespace Go.Proofs.YtcjknmpogkofpaaGreat
open Go.RowKit
section
variable {P : Program} {ro : Option Nat} {N : Nat} {E : World} {ops : Array Oper} {Q : Exit → Act → World → Prop} {R : List Chunk} {tbl : List (List Nat)}
theorem off_mem {L : List (Nat × Nat)} {j : Nat} {p : Nat × Nat} : p ∈ offL L j ↔ p ∈ L ∧ p.1 ≠ j ∧ p.2 ≠ j := by
  unfold offL
  rw [List.mem_filter]
  simp [Bool.and_eq_true, bne_iff_ne]
theorem swOf_ok {L : List (Nat × Nat)} {x y : Nat} : swOk (swOf L) x y = true ↔ (x, y) ∈ L := by
  unfold swOf
  split
  · rename_i h
    rw [List.isEmpty_iff] at h
    subst h
    simp [swOk]
  · simp [swOk]
theorem pairOk_off {L : List (Nat × Nat)} {x y : PlanOp} {j : Nat} (h : pairOk ops tbl (swOf L) x y = true) (hx : x.1 ≠ j) (hy : y.1 ≠ j) : pairOk ops tbl (swOf (offL L j)) x y = true := by
  unfold pairOk at h ⊢
  simp only [Bool.and_eq_true, Bool.or_eq_true] at h ⊢
  obtain ⟨⟨h1, h2⟩, h3⟩ := h
  refine ⟨⟨?_, h2⟩, h3⟩
  rcases h1 with h1 | h1
  · exact .inl h1
  · exact .inr (swOf_ok.2 (off_mem.2 ⟨swOf_ok.1 h1, hx, hy⟩))
theorem pairOk_ne {sw : Sw} {x y : PlanOp} (h : pairOk ops tbl sw x y = true) : x.1 ≠ y.1 := by
  unfold pairOk at h
  simp only [Bool.and_eq_true, bne_iff_ne] at h
  exact h.2
theorem pairsOk_mid {L : List (Nat × Nat)} {y : PlanOp} : ∀ {A B : List PlanOp}, pairsOk ops tbl (swOf L) (A ++ y :: B) = true → pairsOk ops tbl (swOf (offL L y.1)) (A ++ B) = true ∧ ∀ x, x ∈ A ++ B → x.1 ≠ y.1
  | [], B, h => by
    simp only [List.nil_append, pairsOk, Bool.and_eq_true, List.all_eq_true] at h ⊢
    have hne : ∀ x, x ∈ B → x.1 ≠ y.1 := fun x hx => (pairOk_ne (h.1.2 x hx)).symm
    refine ⟨?_, hne⟩
    have h2 := h.2
    clear h
    induction B with
    | nil => rfl
    | cons z r ih =>
      simp only [pairsOk, Bool.and_eq_true, List.all_eq_true] at h2 ⊢
      exact ⟨⟨h2.1.1, fun w hw => pairOk_off (h2.1.2 w hw) (hne z List.mem_cons_self) (hne w (List.mem_cons_of_mem _ hw))⟩, ih (fun x hx => hne x (List.mem_cons_of_mem _ hx)) h2.2⟩
  | a :: A, B, h => by
    simp only [List.cons_append, pairsOk, Bool.and_eq_true, List.all_eq_true] at h ⊢
    obtain ⟨i1, i2⟩ := pairsOk_mid (A := A) (B := B) h.2
    have hay := pairOk_ne (h.1.2 y (by simp))
    refine ⟨⟨⟨h.1.1, fun w hw => pairOk_off (h.1.2 w (by rcases List.mem_append.1 hw with q | q <;> simp [q])) hay (i2 w hw)⟩, i1⟩, fun x hx => ?_⟩
    rcases List.mem_cons.1 hx with rfl | hx
    · exact hay
    · exact i2 x hx
def numsIn (L : List (Nat × Nat)) (xs : List PlanOp) : Bool := L.all fun p => (xs.any fun y => y.1 == p.1) && xs.any fun y => y.1 == p.2
theorem pl_any2A {sp : Spec} {ds : List Deferred} {rest : List PlanOp} {fr0 : Fr} {l0 : List Chunk} (hR : ∀ c, c ∈ R → c ∈ l0) (hS : ∀ x, x ∈ sp → ∀ c, c ∈ x.2 → c ∈ l0) : ∀ (n : Nat) (L : List (Nat × Nat)) (xs : List AdS) {fr : Fr} {l : List Chunk}, xs.length ≤ n → FLe fr0 fr → (∀ c, c ∈ l0 → c ∈ l) → (∀ x, x ∈ xs → IsAd P ro N fr0 l0 x) → (xs.map fun x => x.2.1.dst).Nodup → pairsOk ops tbl (swOf L) (xs.map plA ++ rest) = true → numsIn L (xs.map plA) = true →
    AddK xs fr l (fun fr' l' => PlanS P ro N E ops Q R tbl none sp rest fr' ds l') → PlanS P ro N E ops Q R tbl (swOf L) sp (xs.map plA ++ rest) fr ds l := by
  have hInv : Inv (fun fr' l' => PlanS P ro N E ops Q R tbl none sp rest fr' ds l') := fun fr fr' l l' h1 h2 h => pl_perm h2 (.weak h1 h)
  intro n
  induction n with
  | zero =>
    intro L xs fr l hn0 h1 h2 hx hn hok hin hk
    obtain rfl := List.eq_nil_of_length_eq_zero (by omega : xs.length = 0)
    have hL : L = [] := by
      cases L with
      | nil => rfl
      | cons p r => simp [numsIn] at hin
    subst hL
    exact hk
  | succ n ih =>
    intro L xs fr l hn0 h1 h2 hx hn hok hin hk
    have hfn : ∀ x, x ∈ xs → ∀ d, x.2.1.dst = some d → flook fr0 d = none := fun x hxm d hd => by
      obtain ⟨d', hd', _, h⟩ := (hx x hxm).dst; rw [hd] at hd'; cases hd'; exact h
    by_cases hL : L.isEmpty = true
    · unfold swOf
      rw [if_pos hL]
      exact pl_seqA xs h1 h2 hx hn hfn hR hS hk
    · have hsw : swOf L = some L := by unfold swOf; rw [if_neg hL]
      cases xs with
      | nil =>
        exfalso
        cases L with
        | nil => exact hL rfl
        | cons p r => simp [numsIn] at hin
      | cons x r =>
        have key : ∀ j, Cand tbl (some L) x.1 (r.map plA ++ rest) j → ∃ y A B, y.1 = j ∧ x :: r = A ++ y :: B ∧ (x :: r).find? (fun z => z.1 == j) = some y ∧ (x :: r).eraseP (fun z => z.1 == j) = A ++ B ∧ pairsOk ops tbl (swOf (offL L j)) ((A ++ B).map plA ++ rest) = true ∧ numsIn (offL L j) ((A ++ B).map plA) = true := fun j hj => by
          have hm : ∃ y, y ∈ x :: r ∧ y.1 = j := by
            rcases hj with h | ⟨h, _⟩
            · exact ⟨x, List.mem_cons_self, h.symm⟩
            · simp only [swOk, List.contains_iff_mem] at h
              have h3 := List.all_eq_true.1 hin _ h
              rw [Bool.and_eq_true] at h3
              obtain ⟨z, hz, e⟩ := List.any_eq_true.1 h3.2
              obtain ⟨y, hy, rfl⟩ := List.mem_map.1 hz
              exact ⟨y, hy, by simpa using e⟩
          obtain ⟨y0, hy0, e0⟩ := hm
          obtain ⟨y, A, B, hA, hy, hxs, he⟩ := List.exists_of_eraseP (p := fun z : AdS => z.1 == j) hy0 (by simpa using e0)
          have hyj : y.1 = j := by simpa using hy
          have hok2 : pairsOk ops tbl (swOf L) (A.map plA ++ plA y :: (B.map plA ++ rest)) = true := by
            have := hok
            rw [hxs] at this
            simpa using this
          obtain ⟨p1, p2⟩ := pairsOk_mid hok2
          have e5 : (plA y).1 = j := hyj
          rw [e5] at p1 p2
          have hne : ∀ z, z ∈ A ++ B → z.1 ≠ j := fun z hz => p2 (plA z) (by
            rcases List.mem_append.1 hz with h | h
            · exact List.mem_append_left _ (List.mem_map_of_mem h)
            · exact List.mem_append_right _ (List.mem_append_left _ (List.mem_map_of_mem h)))
          refine ⟨y, A, B, hyj, hxs, List.find?_eq_some_iff_append.2 ⟨hy, A, B, hxs, fun a ha => by have := hA a ha; simpa using this⟩, he, by simpa using p1, ?_⟩
          unfold numsIn
          rw [List.all_eq_true]
          intro p hp
          obtain ⟨q1, q2, q3⟩ := off_mem.1 hp
          have h3 := List.all_eq_true.1 hin _ q1
          rw [Bool.and_eq_true] at h3 ⊢
          have back : ∀ k, k ≠ j → (((x :: r).map plA).any fun y => y.1 == k) = true → (((A ++ B).map plA).any fun y => y.1 == k) = true := fun k hk h => by
            obtain ⟨z, hz, e⟩ := List.any_eq_true.1 h
            obtain ⟨w, hw, rfl⟩ := List.mem_map.1 hz
            have ew : w.1 = k := by simpa using e
            rw [hxs] at hw
            rw [List.any_eq_true]
            refine ⟨plA w, List.mem_map_of_mem ?_, e⟩
            rcases List.mem_append.1 hw with h | h
            · exact List.mem_append_left _ h
            · rcases List.mem_cons.1 h with rfl | h
              · exact absurd (hyj.symm.trans ew).symm hk
              · exact List.mem_append_right _ h
          exact ⟨back _ q2 h3.1, back _ q3 h3.2⟩
        have swin : ∀ (L' : List (Nat × Nat)) (ys : List AdS), numsIn L' (ys.map plA) = true → swIn (swOf L') (ys.map plA ++ rest) = true := fun L' ys h => by
          unfold swOf
          split
          · rfl
          · show L'.all _ = true
            rw [List.all_eq_true]
            intro p hp
            have h3 := List.all_eq_true.1 h _ hp
            rw [Bool.and_eq_true] at h3
            obtain ⟨z, hz, e⟩ := List.any_eq_true.1 h3.1
            obtain ⟨w, hw, rfl⟩ := List.mem_map.1 hz
            rw [List.any_eq_true]
            exact ⟨plA w, List.mem_append_left _ (List.mem_map_of_mem hw), by rw [Bool.and_eq_true]; exact ⟨e, rfl⟩⟩
        rw [hsw]
        refine .alt (fun j => (((x :: r).find? fun z => z.1 == j).getD x).2.1) (fun j v l2 => ∃ cs, (((x :: r).find? fun z => z.1 == j).getD x).2.2 v cs ∧ l2 = cs ++ l) (fun j => ((x :: r).eraseP fun z => z.1 == j).map plA ++ rest) (fun j => swOf (offL L j)) (fun j hj => ?_) (fun j hj => ?_) (fun j hj => ?_) fun j hj => ?_
        all_goals obtain ⟨y, A, B, hyj, hxs, hf, he, q1, q2⟩ := key j hj
        all_goals simp only [hf, he, Option.getD_some]
        · refine ⟨?_, q1, swin _ _ q2⟩
          have : ((x :: r).map plA).Perm (plA y :: (A ++ B).map plA) := by rw [hxs]; simp
          rw [← hyj]
          exact (this.symm.append_right rest : (plA y :: (A ++ B).map plA ++ rest).Perm ((x :: r).map plA ++ rest))
        all_goals have hym : y ∈ x :: r := by rw [hxs]; simp
        all_goals have hI := hx y hym
        all_goals obtain ⟨d, hd, hb, hfd⟩ := hI.dst
        · exact ⟨hI.law fr l h1 h2, by rw [hI.guard]; rfl, by rw [hd]; exact hb⟩
        · rintro v l' ⟨cs, _, rfl⟩
          exact ⟨fun c hc => List.mem_append_right _ (h2 _ (hR c hc)), fun z hz _ c hc => List.mem_append_right _ (h2 _ (hS z hz c hc))⟩
        · rintro v l' ⟨cs, hv, rfl⟩
          rw [hxs] at hn hk
          have hlen : (x :: r).length = (A ++ B).length + 1 := by rw [hxs]; simp; omega
          have hsubm : ∀ z, z ∈ A ++ B → z ∈ x :: r := fun z hz => by rw [hxs]; rcases List.mem_append.1 hz with h | h <;> simp [h]
          have hn2 : ((A ++ B).map fun x => x.2.1.dst).Nodup := by
            have hp : ((A ++ y :: B).map fun x => x.2.1.dst).Perm (y.2.1.dst :: (A ++ B).map fun x => x.2.1.dst) := by simp
            exact (List.nodup_cons.1 (hp.nodup_iff.1 hn)).2
          refine ih (offL L j) (A ++ B) (by omega) (by rw [hd]; exact h1.low hfd) (fun c hc => List.mem_append_right _ (h2 c hc)) (fun z hz => hx z (hsubm z hz)) hn2 q1 q2 ?_
          refine addK_pick hInv hd (fun z hz => ?_) hk v cs hv
          obtain ⟨e, hde, _⟩ := (hx z (hsubm z (List.mem_append_left _ hz))).dst
          refine ⟨e, hde, fun e1 => ?_⟩
          rw [List.map_append, List.nodup_append] at hn
          exact hn.2.2 z.2.1.dst (List.mem_map.2 ⟨z, hz, rfl⟩) y.2.1.dst (List.mem_map.2 ⟨y, List.mem_cons_self, rfl⟩) (by rw [hde, hd, e1])
theorem pl_any2 {sp : Spec} {ds : List Deferred} {rest pl : List PlanOp} {L : List (Nat × Nat)} {fr : Fr} {l : List Chunk} (xs : List AdS) (hpl : xs.map plA ++ rest = pl) (hL : L.isEmpty = false) (hR : ∀ c, c ∈ R → c ∈ l) (hS : ∀ x, x ∈ sp → ∀ c, c ∈ x.2 → c ∈ l) (hx : AllAd P ro N fr l xs) (hn : ndB (xs.map fun x => x.2.1.dst) = true) (hok : pairsOk ops tbl (swOf L) (xs.map plA ++ rest) = true) (hin : numsIn L (xs.map plA) = true)
    (hk : AddK xs fr l (fun fr' l' => PlanS P ro N E ops Q R tbl none sp rest fr' ds l')) : PlanS P ro N E ops Q R tbl (some L) sp pl fr ds l := by
  subst hpl
  have := pl_any2A (E := E) hR hS xs.length L xs (Nat.le_refl _) (fun _ _ h => h) (fun _ h => h) hx.mem (ndB_spec hn) hok hin hk
  unfold swOf at this
  rw [hL] at this
  exact this
variable {fr : Fr} {d : Option Nat} {ty : TypeId} {pos : String} {aft : Array Edge} {g : Option (Nat × Bool)}
theorem q_sliceW {T n e k b off : Nat} {x : Operand} (hx : ev fr x = some (.pointer (some ⟨b, off, none⟩))) [c : AT P T n e k] : OpQ P ro N fr R ⟨d, .slice T x none none none, ty, pos, aft, g⟩ (.slice (some ⟨b, off, none⟩) n n) := opQ_of_sl rfl fun ρ l hρ _ => by
  obtain ⟨inf, u1, u2, u3⟩ := atV_spec c.out
  simp only [execOp, hρ x _ hx]
  rw [sl_bind]
  unfold Instr.sliceAt
  rw [sl_under u1]
  simp only [Instr.sureAddr, sl_bind, sl_pure, Option.map_none, Instr.sliceBounds]
  rw [sl_sizeOf' u2]
  simp only [sl_pure, u3]
  refine ⟨?_, trivial⟩
  split <;> simp [addr_add]
theorem ad_box {d i : Nat} {l : List Chunk} {x : Operand} {e : Nat} {ws : List Value} (hx : ev fr x = some (.agg (List.toArray ws))) (hb : Nat.blt d N = true) (hf : flook fr d = none) : IsAd P ro N fr l (i, ⟨some d, .box e x, ty, pos, aft, none⟩, fun v cs => ∃ b, v = .pointer (some ⟨b, 0, none⟩) ∧ cs = [(b, .cells (List.toArray ws) e (0, 0))]) :=
  ⟨fun l' h2 => (e_boxA hx).mono (by rintro v l2 ⟨b, _, h3, h4⟩; exact ⟨_, ⟨b, h3, rfl⟩, h4⟩), rfl, d, rfl, hb, hf⟩
end
set_option maxRecDepth 20000
def WSl (l : List Chunk) (v : Value) (xs : List Nat) : Prop :=
  ∃ a cap, v = .slice a xs.length cap ∧ (0 < xs.length → ∃ b off cs t fz, a = some ⟨b, off, none⟩ ∧ (b, Obj.cells cs t fz) ∈ l ∧ ∀ i x, xs[i]? = some x → cs[off + i * 1]? = some (.int .u64 (x : Nat)))
def wV (x : Nat) : Value := .int .u64 (x : Nat)
theorem OwnSl.words {e : Nat} {v : Value} {xs : List Nat} {cs l : List Chunk} (h : OwnSl e 1 v xs.length (xs.map wV) cs) (hs : ∀ c, c ∈ cs → c ∈ l) : WSl l v xs := by
  rcases h.2 with ⟨rfl, h0, rfl⟩ | ⟨b, cap, sp, rfl, rfl, _⟩
  · exact ⟨none, 0, by rw [h0], fun h => by omega⟩
  · refine ⟨_, cap, rfl, fun h0 => ⟨b, 0, _, e, (0, 0), rfl, hs _ List.mem_cons_self, fun i x hx => ?_⟩⟩
    have hlt := (List.getElem?_eq_some_iff.1 hx).1
    rw [Nat.zero_add, Nat.mul_one, List.getElem?_toArray, List.getElem?_append_left (by simpa using hlt), List.getElem?_map, hx]; rfl
set_option maxHeartbeats 400000 in
theorem sameWords_any (v u : Value) (xs ys : List Nat) (l : List Chunk) (h1 : WSl l v xs) (h2 : WSl l u ys) (hx : xs.length ≤ 1000000) :
    Fn Tryz.prog 60 [v, u] l fun r l' => r = .bool (decide (xs = ys)) ∧ l' = l := by
  obtain ⟨a, ca, rfl, h1⟩ := h1
  obtain ⟨a', ca', rfl, h2⟩ := h2
  refine fn_of_body Tryz.func60 rfl rfl fun E => ?_
  simp only [argF, Tryz.ntmps60]
  by_cases hl : xs.length = ys.length
  · refine gz ?_
    refine k_loop (α := Nat) (fun k => [(0, .slice a xs.length ca), (1, .slice a' ys.length ca'), (5, .int .i64 k)]) (fun k => l) (fun k => k ≤ xs.length ∧ ∀ j, j < k → xs[j]? = ys[j]?) (fun k => xs.length - k) 0 ⟨Nat.zero_le _, fun j h => by omega⟩ ⟨rfl, rfl, rfl, trivial⟩ .refl ?_
    rintro k ⟨hk, hj⟩
    by_cases hlt : k < xs.length
    · obtain ⟨b, off, cs, t, fz, rfl, hm, hc⟩ := h1 (by omega)
      obtain ⟨b', off', cs', t', fz', rfl, hm', hc'⟩ := h2 (by omega)
      have g1 := hc k _ (List.getElem?_eq_getElem hlt)
      have g2 := hc' k _ (List.getElem?_eq_getElem (show k < ys.length by omega))
      obtain ⟨x, hx0⟩ : ∃ x, xs[k] = x := ⟨_, rfl⟩
      obtain ⟨y, hy0⟩ : ∃ y, ys[k]'(by omega) = y := ⟨_, rfl⟩
      rw [hx0] at g1
      rw [hy0] at g2
      have e1 : xs[k]? = some x := by rw [List.getElem?_eq_getElem hlt, hx0]
      have e2 : ys[k]? = some y := by rw [List.getElem?_eq_getElem (show k < ys.length by omega), hy0]
      refine gz ?_
      refine c_draw [(0, true), (1, true), (2, true), (3, true), (4, true), (5, true), (6, true), (7, true), (8, true)] [[], [], [0, 1], [0, 1, 2], [], [], [4, 5], [4, 5, 6], [0, 1, 2, 3, 4, 5, 6, 7]] _ (by kernel_rfl) (by kernel_rfl) zAtt (fun _ h => h) ?_
      refine pz ?_
      by_cases hxy : x = y
      · refine gz ?_
        exact k_next (k + 1) ⟨by omega, fun j hjk => by
          by_cases e : j = k
          · subst e; rw [e1, e2, hxy]
          · exact hj j (by omega)⟩ (by omega) ⟨rfl, rfl, rfl, trivial⟩ .refl
      · refine gz ?_
        refine k_ret [] rfl .refl (by exact zRes) ⟨?_, rfl⟩
        rw [show decide (xs = ys) = false from decide_eq_false fun e => by subst e; rw [e1] at e2; exact hxy (by cases e2; rfl)]; rfl
    · obtain rfl : k = xs.length := by omega
      refine gz ?_
      refine k_ret [] rfl .refl (by exact zRes) ⟨?_, rfl⟩
      rw [show decide (xs = ys) = true from decide_eq_true (List.ext_getElem? fun j => by
        by_cases h : j < xs.length
        · exact hj j h
        · rw [List.getElem?_eq_none (by omega), List.getElem?_eq_none (by omega)])]; rfl
  · refine gz ?_
    refine k_ret [] rfl .refl (by exact zRes) ⟨?_, rfl⟩
    rw [show decide (xs = ys) = false from decide_eq_false fun e => hl (by rw [e])]; rfl
abbrev m2C (b gb n : Nat) : Chunk := (b, .cells (List.toArray [.slice (some ⟨gb, 0, none⟩) (8 * n) (8 * n)]) 254 (0, 0))
abbrev w2C (gb n : Nat) : Chunk := (gb, .cells (List.toArray (mcs n)) 71 (0, 0))
def IsM2 (b n : Nat) (lq : List Chunk) : Prop := 1 ≤ n ∧ n ≤ 64 ∧ ∃ gb, lq = [m2C b gb n, w2C gb n]
theorem mcs_flat (n : Nat) : mcs n = (List.replicate (8 * n) [Value.int .u64 0]).flatten := by
  unfold mcs
  rw [show n * 8 = 8 * n by omega]
  generalize 8 * n = k
  induction k with
  | zero => rfl
  | succ k ih => rw [List.replicate_succ, List.replicate_succ, List.flatten_cons, ← ih]; rfl
theorem mcs_at {n j : Nat} (h : j < 8 * n) : (List.toArray (mcs n))[j]? = some (.int .u64 0) := by
  unfold mcs; rw [List.getElem?_toArray, List.getElem?_replicate, if_pos (by omega)]
theorem mcs_keep {n j : Nat} : (List.toArray (mcs n)).setIfInBounds j (.int .u64 0) = List.toArray (mcs n) := by
  apply Array.ext_getElem?
  intro k
  rw [Array.getElem?_setIfInBounds]
  split
  · rename_i e
    subst e
    split
    · rename_i h
      rw [mcs_at (by simp [mcs] at h; omega)]
    · rename_i h
      rw [Array.getElem?_eq_none (by omega)]
  · rfl
theorem mcs_ext {n i : Nat} (h : i < n) : i * 8 + 8 ≤ (List.toArray (mcs n)).size ∧ (List.toArray (mcs n)).extract (i * 8) (i * 8 + 8) = List.toArray z8 := by
  refine ⟨by simp [mcs]; omega, ?_⟩
  apply Array.ext_getElem?
  intro j
  rw [Array.getElem?_extract]
  by_cases hj : j < 8
  · rw [if_pos (by simp [mcs]; omega), mcs_at (by omega)]
    rcases j with _ | _ | _ | _ | _ | _ | _ | _ | j
    all_goals first | rfl | omega
  · rw [if_neg (by omega), List.getElem?_toArray, List.getElem?_eq_none (by simp; omega)]
theorem m2new_any (n : Nat) (h1 : 1 ≤ n) (h2 : n ≤ 64) (l : List Chunk) : Fn Tryz.prog 93 [.int .i64 (n : Nat)] l fun v l' => ∃ b, v = .tuple #[.pointer (some ⟨b, 0, none⟩), .int .i64 0] ∧ ∃ lq, IsM2 b n lq ∧ l' = lq ++ l := by
  refine fn_of_body Tryz.func93 rfl rfl fun E => ?_
  simp only [argF, Tryz.ntmps93]
  refine gzU ?_
  refine t_e (e_makeSlice (n := 8 * n) (kk := 1) (xs := mcs n) (by rw [Int.natCast_mul]; rfl) rfl (by omega) (by omega) (by decide) (mcs_flat n)) rfl rfl rfl ?_
  rintro _ _ ⟨gb, hgb, rfl, rfl⟩
  refine gzU ?_
  (first | refine t_e (e_box1 rfl rfl) rfl rfl rfl ?_ | refine t_e (e_boxA rfl) rfl rfl rfl ?_); rintro _ _ ⟨b, _, rfl, rfl⟩
  refine gzU ?_
  exact k_ret [] rfl .refl (by exact zRes) ⟨_, rfl, _, ⟨h1, h2, gb, rfl⟩, rfl⟩
theorem m2fr_any (b n : Nat) (lq : List Chunk) (hq : IsM2 b n lq) (l : List Chunk) (hl : ∀ c, c ∈ lq → c ∈ l) : Fn Tryz.prog 57 [.pointer (some ⟨b, 0, none⟩)] l fun v l' => v = .int .i64 (n : Nat) ∧ l' = l := by
  obtain ⟨h1, h2, gb, rfl⟩ := hq
  have hm := hl _ (.head _)
  refine fn_of_body Tryz.func57 rfl rfl fun E => ?_
  simp only [argF, Tryz.ntmps57]
  refine gzU ?_
  exact k_ret [] rfl .refl (by exact zRes) ⟨by simp only [tup]; congr 1; omega, rfl⟩
theorem m2zero_any (b n f k : Nat) (lq : List Chunk) (hq : IsM2 b n lq) (hf : f < n) (hk : k ≤ n - f) (G : List Chunk) : Fn Tryz.prog 98 [.pointer (some ⟨b, 0, none⟩), .int .i64 (f : Nat), .int .i64 (k : Nat)] (lq ++ G) fun v l' => v = .int .i64 0 ∧ l' = lq ++ G := by
  have hq0 := hq
  obtain ⟨h1, h2, gb, rfl⟩ := hq
  simp only [List.cons_append, List.nil_append]
  have hsub : ∀ c, c ∈ [m2C b gb n, w2C gb n] → c ∈ m2C b gb n :: w2C gb n :: G := fun c hc => by
    rcases List.mem_cons.1 hc with rfl | hc
    · exact .head _
    · rw [List.mem_singleton.1 hc]; exact .tail _ (.head _)
  refine fn_of_body Tryz.func98 rfl rfl fun E => ?_
  simp only [argF, Tryz.ntmps98]
  refine gzU ?_
  refine t_h (q_call rfl rfl (fun l2 hl => m2fr_any b n _ hq0 l2 fun c hc => hl _ (hsub c hc))) rfl rfl rfl ?_
  refine gzU ?_
  refine t_h (q_call rfl rfl (fun l2 hl => m2fr_any b n _ hq0 l2 fun c hc => hl _ (hsub c hc))) rfl rfl rfl ?_
  refine gzU ?_
  refine k_loop (α := Nat) (fun j => [(0, .pointer (some ⟨b, 0, none⟩)), (1, .int .i64 (f : Nat)), (2, .int .i64 (k : Nat)), (7, .int .i64 j)]) (fun _ => m2C b gb n :: w2C gb n :: G) (fun j => 8 * f ≤ j ∧ j ≤ 8 * (f + k)) (fun j => 8 * (f + k) - j) (8 * f) ⟨Nat.le_refl _, by omega⟩ ⟨rfl, rfl, rfl, by show some (Value.int _ _) = some (Value.int _ _); congr 2, trivial⟩ .refl ?_
  rintro j ⟨hj1, hj2⟩
  by_cases hlt : j < 8 * (f + k)
  · refine gzU ?_
    refine t_n (e_store (cs := List.toArray (mcs n)) rfl rfl rfl (.there .here) (by simp [mcs]; omega)) rfl rfl ?_
    rintro _ _ ⟨rfl, rfl⟩
    rw [mcs_keep]
    refine gzU ?_
    exact k_next (j + 1) ⟨by omega, by omega⟩ (by omega) ⟨rfl, rfl, rfl, rfl, trivial⟩ .refl
  refine gzU ?_
  exact k_ret [] rfl .refl (by exact zRes) ⟨rfl, rfl⟩
abbrev w8 : List Nat := [0, 0, 0, 0, 0, 0, 0, 0]
theorem m2words_any (b n i : Nat) (lq : List Chunk) (hq : IsM2 b n lq) (hi : i < n) (l : List Chunk) (hl : ∀ c, c ∈ lq → c ∈ l) : Fn Tryz.prog 59 [.pointer (some ⟨b, 0, none⟩), .int .i64 (i : Nat)] l fun v l' => ∃ u cs, v = .tuple #[u, .int .i64 0] ∧ OwnSl 71 1 u 8 (w8.map wV) cs ∧ l' = cs ++ l := by
  have hq0 := hq
  obtain ⟨h1, h2, gb, rfl⟩ := hq
  have hm := hl _ (.head _)
  have hw := hl _ (.tail _ (.head _))
  refine fn_of_body Tryz.func59 rfl rfl fun E => ?_
  simp only [argF, Tryz.ntmps59]
  refine gzU ?_
  refine t_h (q_call rfl rfl (fun l2 hl2 => m2fr_any b n _ hq0 l2 fun c hc => hl2 _ (hl _ hc))) rfl rfl rfl ?_
  refine gzU ?_
  refine t_q (q_slice (l0 := 8 * i) (h0 := 8 * i + 8) (m0 := 8 * n) (off' := if 8 * n = 8 * i then 0 else 8 * i) (n' := 8) (c' := 8 * n - 8 * i) rfl (.some rfl (by omega) (by omega)) (.some rfl (by omega) (by omega)) .none (by simp) (by omega) (by omega) (by omega) (by split <;> omega) (by omega) (by omega)) rfl rfl rfl ?_
  rw [if_neg (by omega)]
  refine gzU ?_
  refine t_e (ce_append (k := 1) (yb := 8) (n := 0) (xs := []) (cs := []) (F := l) (news := w8.map wV) (zs := [.int .u64 0]) (m := 8) rfl rfl rfl (OwnSl.nil _ _) hw (fun j u hj => by
    have hj8 : j < 8 := by have := (List.getElem?_eq_some_iff.1 hj).1; simpa using this
    rw [mcs_at (by omega)]
    rw [List.getElem?_map] at hj
    rcases j with _ | _ | _ | _ | _ | _ | _ | _ | j
    all_goals first | (cases hj; rfl) | omega) rfl (by simp [Value.oneCell', wV]) (by unfold maxLen; omega) (by omega)) rfl rfl rfl ?_
  rintro u _ ⟨cs, ho, rfl⟩
  have hu := ho.one
  refine gzU ?_
  refine k_ret [] rfl (l' := cs ++ l) .refl (by exact zRes) ?_
  exact ⟨u, cs, rfl, ho, rfl⟩
theorem pfr_any (b n : Nat) (lq : List Chunk) (hq : IsM b n lq) (l : List Chunk) (hl : ∀ c, c ∈ lq → c ∈ l) : Fn Tryz.prog 56 [.pointer (some ⟨b, 0, none⟩)] l fun v l' => v = .int .i64 (n : Nat) ∧ l' = l := by
  obtain ⟨h1, h2, gb, rfl⟩ := hq
  have hm := hl _ (.head _)
  refine fn_of_body Tryz.func56 rfl rfl fun E => ?_
  simp only [argF, Tryz.ntmps56]
  refine gzU ?_
  exact k_ret [] rfl .refl (by exact zRes) ⟨rfl, rfl⟩
theorem pwords_any (b n i : Nat) (lq : List Chunk) (hq : IsM b n lq) (hi : i < n) (l : List Chunk) (hl : ∀ c, c ∈ lq → c ∈ l) : Fn Tryz.prog 58 [.pointer (some ⟨b, 0, none⟩), .int .i64 (i : Nat)] l fun v l' => ∃ B, v = .tuple #[.slice (some ⟨B, 0, none⟩) 8 8, .int .i64 0] ∧ l' = (B, .cells (List.toArray z8) 255 (0, 0)) :: l := by
  obtain ⟨h1, h2, gb, rfl⟩ := hq
  have hm := hl _ (.head _)
  have hw := hl _ (.tail _ (.head _))
  refine fn_of_body Tryz.func58 rfl rfl fun E => ?_
  simp only [argF, Tryz.ntmps58]
  refine gzU ?_
  obtain ⟨x1, x2⟩ := mcs_ext hi
  refine t_q (q_loadA rfl hw x1 x2) rfl rfl rfl ?_
  refine gzU ?_
  refine t_e e_alloc rfl rfl rfl ?_; rintro _ _ ⟨B, _, rfl, rfl⟩
  refine gzU ?_
  refine t_q (q_sliceW (n := 8) rfl) rfl rfl rfl ?_
  refine gzU ?_
  exact k_ret [] rfl .refl (by exact zRes) ⟨B, rfl, rfl⟩
set_option maxHeartbeats 1000000 in
theorem alike_any (b1 b2 n : Nat) (q1 q2 : List Chunk) (h1 : IsM b1 n q1) (h2 : IsM2 b2 n q2) (l : List Chunk) (hl1 : ∀ c, c ∈ q1 → c ∈ l) (hl2 : ∀ c, c ∈ q2 → c ∈ l) : Fn Tryz.prog 17 [.pointer (some ⟨b1, 0, none⟩), .pointer (some ⟨b2, 0, none⟩)] l fun v l' => v = .bool true ∧ l' = l := by
  have hn := h1.2.1
  refine fn_of_body Tryz.func17 rfl rfl fun E => ?_
  simp only [argF, Tryz.ntmps17]
  refine gzU ?_
  refine t_q (q_call rfl rfl (fun l2 hl => pfr_any b1 n _ h1 l2 fun c hc => hl _ (hl1 _ hc))) rfl rfl rfl ?_
  refine gzU ?_
  refine t_q (q_call rfl rfl (fun l2 hl => m2fr_any b2 n _ h2 l2 fun c hc => hl _ (hl2 _ hc))) rfl rfl rfl ?_
  refine gzU ?_
  refine k_loop (α := Nat) (fun i => [(0, .pointer (some ⟨b1, 0, none⟩)), (1, .pointer (some ⟨b2, 0, none⟩)), (5, .int .i64 i)]) (fun _ => l) (fun i => i ≤ n) (fun i => n - i) 0 (Nat.zero_le _) ⟨rfl, rfl, rfl, trivial⟩ .refl ?_
  rintro i hi
  refine gzU ?_
  refine t_q (q_call rfl rfl (fun l2 hl => m2fr_any b2 n _ h2 l2 fun c hc => hl _ (hl2 _ hc))) rfl rfl rfl ?_
  by_cases hlt : i < n
  · refine gzU ?_
    refine t_e (e_call0 rfl rfl (pwords_any b1 n i _ h1 hlt _ hl1)) rfl rfl rfl ?_
    rintro _ _ ⟨B, rfl, rfl⟩
    refine gzU ?_
    refine t_e (e_call0 rfl rfl (m2words_any b2 n i _ h2 hlt _ fun c hc => .tail _ (hl2 _ hc))) rfl rfl rfl ?_
    rintro _ _ ⟨u, cs, rfl, ho, rfl⟩
    have hu := ho.one
    refine gzU ?_
    refine t_q (q_call rfl rfl (fun l2 hl => sameWords_any _ _ w8 w8 l2 ⟨some ⟨B, 0, none⟩, 8, rfl, fun _ => ⟨B, 0, _, _, _, rfl, hl _ (List.mem_append_right _ (.head _)), fun j x hx => ?_⟩⟩ (OwnSl.words ho fun c hc => hl _ (List.mem_append_left _ hc)) (by decide))) rfl rfl rfl ?_
    · rcases j with _ | _ | _ | _ | _ | _ | _ | _ | j
      all_goals first | (cases hx; rfl) | (simp at hx)
    rw [decide_eq_true rfl]
    refine gzU ?_
    exact k_next (i + 1) (by omega) (by omega) ⟨rfl, rfl, rfl, trivial⟩ (.dropL _ (.drop .refl))
  refine gzU ?_
  exact k_ret [] rfl .refl (by exact zRes) ⟨rfl, rfl⟩
theorem perm_ac {A B : List Chunk} (h : ∀ (f : List Chunk → Nat) (g : Chunk → Nat), f [] = 0 → (∀ x l, f (x :: l) = g x + f l) → (∀ x y, f (x ++ y) = f x + f y) → f A = f B := by intro f g h0 h1 h2; simp only [List.map_nil, List.map_cons, h0, h1, h2]; try omega) : A.Perm B := by
  classical
  refine List.perm_iff_count.2 fun a => h (fun l => List.count a l) (fun x => List.count a [x]) rfl (fun x l => ?_) (fun x y => List.count_append)
  rw [show x :: l = [x] ++ l from rfl, List.count_append]
theorem keep_ac {A B : List Chunk} (X : List Chunk) (h : ∀ (f : List Chunk → Nat) (g : Chunk → Nat), f [] = 0 → (∀ x l, f (x :: l) = g x + f l) → (∀ x y, f (x ++ y) = f x + f y) → f A = f (X ++ B) := by intro f g h0 h1 h2; simp only [List.map_nil, List.map_cons, h0, h1, h2]; try omega) : Keep A B := ⟨X, perm_ac h⟩
theorem Fn.mvP {P : Program} {f : FuncId} {args : List Value} {A F : List Chunk} {Kv : Value → Prop} {I : List Chunk → Prop} (Γ : List Chunk → List Chunk) (h : Fn P f args (A ++ F) fun v l' => Kv v ∧ ∃ A', I A' ∧ l' = A' ++ F)
    (hΓ : ∀ A, (Γ A).Perm (A ++ F) := by intro A; exact perm_ac) : Fn P f args (Γ A) fun v l' => Kv v ∧ ∃ A', I A' ∧ l' = Γ A' :=
  Fn.re (.of_perm (hΓ A)) h fun v l' ⟨h1, A', h2, h3⟩ => ⟨_, by rw [h3]; exact .of_perm (hΓ A').symm, h1, A', h2, rfl⟩
abbrev c7C (b : Nat) (v : Value) : Chunk := (b, .cells (List.toArray [v]) 294 (0, 0))
def IsC7 (b n : Nat) (lq : List Chunk) : Prop := ∃ v xs cs, OwnSl 303 3 v n xs cs ∧ lq = c7C b v :: cs
theorem OwnSl.put {e k n : Nat} {v : Value} {xs : List Value} {cs : List Chunk} (h : OwnSl e k v n xs cs) {j : Nat} (hj : j < n * k) (u : Value) : ∃ gb cap sp, v = .slice (some ⟨gb, 0, none⟩) n cap ∧ cs = [(gb, .cells (List.toArray (xs ++ sp)) e (0, 0))] ∧ j < (List.toArray (xs ++ sp)).size ∧ OwnSl e k v n (xs.set j u) [(gb, .cells ((List.toArray (xs ++ sp)).setIfInBounds j u) e (0, 0))] := by
  obtain ⟨hl, h⟩ := h
  rcases h with ⟨_, h0, _⟩ | ⟨gb, cap, sp, rfl, rfl, h1, h2, h3⟩
  · rw [h0] at hj; omega
  · refine ⟨gb, cap, sp, rfl, rfl, by simp; omega, by simpa using hl, .inr ⟨gb, cap, sp, rfl, ?_, h1, h2, by simpa using h3⟩⟩
    rw [List.setIfInBounds_toArray, List.set_append_left _ _ (by omega)]
set_option maxHeartbeats 1000000 in
theorem c7new_any (n : Nat) (h1 : 1 ≤ n) (h2 : n ≤ 3) (l : List Chunk) : Fn Tryz.prog 94 [.int .i64 (n : Nat)] l fun v l' => ∃ b, v = .tuple #[.pointer (some ⟨b, 0, none⟩), .int .i64 0] ∧ ∃ lq X, IsC7 b n lq ∧ l' = lq ++ (X ++ l) := by
  refine fn_of_body Tryz.func94 rfl rfl fun E => ?_
  simp only [argF, Tryz.ntmps94]
  refine gzU ?_
  (first | refine t_e (e_box1 rfl rfl) rfl rfl rfl ?_ | refine t_e (e_boxA rfl) rfl rfl rfl ?_); rintro _ _ ⟨b, _, rfl, rfl⟩
  refine gzU ?_
  refine k_loop (α := Nat × Value × List Value × List Chunk × List Chunk) (fun x => [(0, .int .i64 n), (4, .pointer (some ⟨b, 0, none⟩)), (5, .int .i64 x.1)]) (fun x => c7C b x.2.1 :: (x.2.2.2.1 ++ (x.2.2.2.2 ++ l)))
    (fun x => x.1 ≤ n ∧ OwnSl 303 3 x.2.1 x.1 x.2.2.1 x.2.2.2.1) (fun x => n - x.1) (0, .slice none 0 0, [], [], []) ⟨Nat.zero_le _, OwnSl.nil _ _⟩ ⟨rfl, rfl, rfl, trivial⟩ .refl ?_
  rintro ⟨i, v, xs, cs, X⟩ ⟨hi, ho⟩
  simp only at hi ho ⊢
  have hv1 : v.oneCell' = true := ho.one
  by_cases hlt : i < n
  · refine gzU ?_
    refine t_e (e_boxA rfl) rfl rfl rfl ?_
    rintro _ l2 ⟨bt, _, rfl, hl2⟩
    obtain ⟨tc, rfl⟩ : ∃ tc : Chunk, l2 = tc :: c7C b v :: (cs ++ (X ++ l)) := ⟨_, hl2⟩
    clear hl2
    refine gzU ?_
    refine t_e (e_litA (k := 3) (ws := [.int .i64 (-1), .int .i64 0, .pointer (some ⟨bt, 0, none⟩)]) (zs := [.int .i64 0, .int .i64 0, .pointer none]) rfl rfl rfl (by decide) (by decide)) rfl rfl rfl ?_
    rintro _ _ ⟨bl, _, rfl, rfl⟩
    refine t_e (e_appX (k := 3) (X := [_, _]) (zs := [.int .i64 0, .int .i64 0, .pointer none]) (cs := cs) (F := X ++ l) rfl rfl rfl ho rfl (by simp [Value.oneCell']) (by omega) (by decide)) rfl rfl rfl ?_
    rintro v' _ ⟨c2, ho2, rfl⟩
    have hv2 := ho2.one
    simp only [List.cons_append, List.nil_append]
    refine gzU ?_
    exact k_next (i + 1, v', _, c2, tc :: X) ⟨by simp only; omega, ho2⟩ (by simp only; omega) ⟨rfl, rfl, rfl, trivial⟩ (by dsimp only [c7C]; exact keep_ac [])
  obtain rfl : i = n := by omega
  refine gzU ?_
  refine k_ret [] rfl (l' := (c7C b v :: cs) ++ (X ++ l)) .refl (by exact zRes) ?_
  exact ⟨b, rfl, _, X, ⟨v, xs, cs, ho, rfl⟩, rfl⟩
theorem c7has_any (b n i : Nat) (lq : List Chunk) (hq : IsC7 b n lq) (hi : i < n) (l : List Chunk) (hl : ∀ c, c ∈ lq → c ∈ l) : Fn Tryz.prog 172 [.pointer (some ⟨b, 0, none⟩), .int .i64 (i : Nat)] l fun v l' => v = .bool true ∧ l' = l := by
  obtain ⟨v, xs, cs, ho, rfl⟩ := hq
  obtain ⟨p, cap, rfl⟩ := ho.shape
  have hm := hl _ (.head _)
  refine fn_of_body Tryz.func172 rfl rfl fun E => ?_
  simp only [argF, Tryz.ntmps172]
  refine gzU ?_
  exact k_ret [] rfl .refl (by exact zRes) ⟨by simp [tup]; omega, rfl⟩
theorem c7set_any (b n i : Nat) (lq : List Chunk) (hq : IsC7 b n lq) (hi : i < n) (G : List Chunk) : Fn Tryz.prog 123 [.pointer (some ⟨b, 0, none⟩), .int .i64 (i : Nat), .int .i64 (-1), .int .i64 0] (lq ++ G) fun v l' => v = .int .i64 0 ∧ ∃ lq', IsC7 b n lq' ∧ l' = lq' ++ G := by
  have hq0 := hq
  obtain ⟨v, xs, cs, ho, rfl⟩ := hq
  obtain ⟨gb, cap, sp, rfl, rfl, hs1, ho1⟩ := ho.put (j := i * 3) (by omega) (.int .i64 (-1))
  simp only [List.cons_append, List.nil_append]
  refine fn_of_body Tryz.func123 rfl rfl fun E => ?_
  simp only [argF, Tryz.ntmps123]
  refine gzU ?_
  refine t_q (q_call rfl rfl (fun l2 hl => c7has_any b n i _ hq0 hi l2 fun c hc => hl _ (by simp only [List.mem_cons, List.not_mem_nil, or_false] at hc ⊢; rcases hc with h | h <;> simp [h]))) rfl rfl rfl ?_
  refine gzU ?_
  refine t_n (e_store (cs := List.toArray (xs ++ sp)) (ptr_off rfl (by omega)) rfl rfl (.there .here) hs1) rfl rfl ?_
  rintro _ _ ⟨rfl, rfl⟩
  obtain ⟨gb', cap', sp', hv, hcs, hs2, ho2⟩ := ho1.put (j := i * 3 + 1) (by omega) (.int .i64 0)
  cases hv
  have hb := (List.cons.inj hcs).1
  rw [hb]
  refine gzU ?_
  refine t_n (e_store (cs := List.toArray (xs.set (i * 3) (.int .i64 (-1)) ++ sp')) (ptr_off rfl (by omega)) rfl rfl (.there .here) hs2) rfl rfl ?_
  rintro _ _ ⟨rfl, rfl⟩
  refine gzU ?_
  refine k_ret [] rfl .refl (by exact zRes) ?_
  exact ⟨rfl, _, ⟨_, _, _, ho2, rfl⟩, rfl⟩
end Go.Proofs.YtcjknmpogkofpaaGreat
namespace Go.Proofs.YtcjknmpogkofpaaGreat.Ar
open Go.RowKit
set_option maxRecDepth 20000
theorem run_copy_k {P : Program} (w : World) (dT sT ty elem : TypeId) (i : TypeInfo) (g o dLen dCap : Nat) (a : Addr) (sLen sCap : Nat) (cur : Array Value) (t : TypeId) (cs : List Value)
    (hu : P.underlying dT = some (.slice elem)) (hi : P.info? elem = some i)
    (hg : w.heap[g]? = some (.cells cur t (0, 0))) (hn : cs.length = Nat.min sLen dLen * i.size)
    (hsrc : ∀ j v, cs[j]? = some v → w.cell? (a.add j) = some v) (hfit : o + cs.length ≤ cur.size) (h1 : ∀ v ∈ cs, v.oneCell' = true) :
    (Builtin.copy_ #[dT, sT] ty #[.slice (some ⟨g, o, none⟩) dLen dCap, .slice (some a) sLen sCap]).run P w =
      .ok (goInt (Nat.min sLen dLen)) (w.setRow g (cur.toList.take o ++ cs ++ cur.toList.drop (o + cs.length)).toArray) := by
  have hl := run_firstCells_some (P := P) (w := w) i.size (Nat.min sLen dLen) a sLen sCap cs hn hsrc
  have hst := run_storeCells_at P g o t cs 0 cur w hg (by simpa using hfit) h1
  simp only [Nat.add_zero] at hst
  have e1 : (Builtin.lenOf (.slice (some a) sLen sCap)).run P w = .ok sLen w := rfl
  have e2 : (sizeOf elem).run P w = .ok i.size w := by simp [sizeOf, typeInfo, hi]
  unfold Builtin.copy_
  simp only [List.getElem?_toArray, List.getElem?_cons_zero, List.getElem?_cons_succ, Sem.run_bind, run_underlying hu, Result.andThen_ok, e1, e2, hl, hst]
  rfl
theorem run_append_zeros {P : Program} (w : World) (t tn ty e : TypeId) (i : TypeInfo) (z : Value) (k kn : IntKind) (ht : P.underlying t = some (.slice e)) (htn : P.underlying tn = some (.int kn)) (hi : P.info? e = some i) (hz : i.zero = some z)
    (b : Addr) (sLen sCap : Nat) (olds : List Value) (hlo : olds.length = sLen * i.size) (holds : ∀ j v, olds[j]? = some v → w.cell? (b.add j) = some v)
    (n : Nat) (h0 : 0 < n) (hs : 0 < i.size) (hg : sCap < sLen + n) (h63 : sLen + n ≤ 1000000) (hby : i.bytes ≤ 1000) (hfit : Builtin.nextslicecap (sLen + n) sCap * i.bytes ≤ 281474976710656) :
    (Builtin.append_ #[t, tn] ty #[.slice (some b) sLen sCap, .int k n]).run P w =
      .ok (.slice (some ⟨w.heap.size, 0, none⟩) (sLen + n) (grownCap w (sLen + n) sCap e)) (w.drew.alloc (.cells (olds.toArray ++ Builtin.zeroCells z.cells n ++ Builtin.zeroCells z.cells (grownCap w (sLen + n) sCap e - (sLen + n))) e)) := by
  have hw : IntKind.i64.wrap (n : Int) = n := by rw [IntKind.wrap_i64]; omega
  have h48 : (n : Int) * (i.bytes : Int) ≤ 1000000000 := by
    have : n * i.bytes ≤ 1000000 * 1000 := Nat.mul_le_mul (by omega) hby
    rw [← Int.natCast_mul]; omega
  have h48i : ¬ (281474976710656 < (n : Int) * (i.bytes : Int)) := by omega
  have hneg : ¬ ((n : Int) < 0) := by omega
  have hns : ¬ (n * i.size = 0) := Nat.mul_ne_zero (by omega) (by omega)
  have hn : ¬ (sLen + n ≤ sCap) := by omega
  have h63' : ¬ (9223372036854775807 < ((sLen : Int) + (n : Int))) := by omega
  have h48' : ¬ (281474976710656 < Builtin.nextslicecap (sLen + n) sCap * i.bytes) := by omega
  have hfo := run_firstCells_some (P := P) (w := w.drew) i.size sLen b sLen sCap olds hlo (by simpa using holds)
  simp [Builtin.append_, run_underlying ht, run_underlying htn, sizeOf, typeInfo, zeroValue, hi, hz, asInt, asIntOf, hw, hn, hneg, hns, h63', h48', h48i, Question.forced, hfo, newRow, grownCap]
section
variable {P : Program} {ro : Option Nat} {N : Nat} {fr : Fr} {R l : List Chunk} {d : Option Nat} {ty t : TypeId} {pos : String} {aft : Array Edge} {g : Option (Nat × Bool)} {x y s : Operand} {off b : Nat}
theorem q_cap {p : Option Addr} {n cap e kk yb : Nat} (hx : ev fr x = some (.slice p n cap)) [c : ST P t e kk yb] : OpQ P ro N fr R ⟨d, .call { callee := .builtin .cap, args := #[x], argTypes := #[t] }, ty, pos, aft, g⟩ (.int .i64 (cap : Nat)) := opQ_of_sl rfl fun ρ l hρ _ => by
  obtain ⟨inf, h1, _⟩ := stV_spec c.out
  simp only [execOp, resolve, sl_bind, sl_pure, invoke, builtin, List.map_toArray, List.map_cons, List.map_nil, hρ x _ hx, Builtin.cap_]
  show sl P (underlying t >>= _) l _
  rw [sl_under h1]
  exact ⟨rfl, rfl⟩
theorem e_copyK {T T2 e k yb gb o sb so dLen dCap sLen sCap m : Nat} {cur cs : List Value} {cl : Array Value} {ct : TypeId} {fz : Nat × Nat} {F : List Chunk} (hx : ev fr x = some (.slice (some ⟨gb, o, none⟩) dLen dCap)) (hy : ev fr y = some (.slice (some ⟨sb, so, none⟩) sLen sCap)) [c : ST P T e k yb]
    (hm : Nat.min sLen dLen = m) (hl : cs.length = m * k) (hs : (sb, Obj.cells cl ct fz) ∈ (gb, .cells (List.toArray cur) e (0, 0)) :: F) (hsrc : ∀ j u, cs[j]? = some u → cl[so + j]? = some u) (hfit : o + cs.length ≤ cur.length) (h1 : ∀ u ∈ cs, u.oneCell' = true) :
    OpE P ro N fr ((gb, .cells (List.toArray cur) e (0, 0)) :: F) ⟨d, .call { callee := .builtin .copy, args := #[x, y], argTypes := #[T, T2] }, ty, pos, aft, g⟩ (fun v' l' => v' = .int .i64 (m : Nat) ∧ l' = (gb, .cells (List.toArray (cur.take o ++ cs ++ cur.drop (o + cs.length))) e (0, 0)) :: F) := by
  subst hm
  refine ⟨rfl, fun E a W hf hs' => ?_⟩
  have hρ := hf.agrees
  obtain ⟨inf, u1, u2, u3, u4⟩ := stV_spec c.out
  have hex : execOp a.eval ⟨d, .call { callee := .builtin .copy, args := #[x, y], argTypes := #[T, T2] }, ty, pos, aft, g⟩ = (do pure (.value (← Builtin.copy_ #[T, T2] ty #[.slice (some ⟨gb, o, none⟩) dLen dCap, .slice (some ⟨sb, so, none⟩) sLen sCap])) : Sem Next) := by
    simp [execOp, resolve, hρ x _ hx, hρ y _ hy, invoke, builtin]
  unfold OpVal
  rw [hex, Sem.run_bind]
  have hr := run_copy_k (P := P) W T T2 ty e inf gb o dLen dCap ⟨sb, so, none⟩ sLen sCap (List.toArray cur) e cs u1 u2 (hs'.has (gb, _) List.mem_cons_self) (by rw [u3]; exact hl) (fun j u hj => by rw [addr_add, hs'.cell hs]; exact hsrc j u hj) (by simpa using hfit) h1
  rw [hr]
  exact ⟨_, ⟨rfl, rfl⟩, hs'.row⟩
theorem e_appendZ {T tn e k yb n m gb cap : Nat} {xs sp zs : List Value} {F : List Chunk} (hx : ev fr s = some (.slice (some ⟨gb, 0, none⟩) n cap)) (hy : ev fr x = some (.int .i64 (m : Nat))) [c : ST P T e k yb] [cz : ZV P e zs] [ci : IT P tn .i64] (hzs : zs.length = k) (hk : 0 < k)
    (hxs : xs.length = n * k) (hm0 : 0 < m) (hroom : cap < n + m) (hn : n + m ≤ 1000000) (hby : yb ≤ 1000) :
    OpE P ro N fr ((gb, .cells (List.toArray (xs ++ sp)) e (0, 0)) :: F) ⟨d, .call { callee := .builtin .append, args := #[s, x], argTypes := #[T, tn] }, ty, pos, aft, g⟩ (fun v' l' => ∃ nb cap' sp', (∀ c, c ∈ (gb, Obj.cells (List.toArray (xs ++ sp)) e (0, 0)) :: F → c.1 ≠ nb) ∧ v' = .slice (some ⟨nb, 0, none⟩) (n + m) cap' ∧ l' = (nb, .cells (List.toArray (xs ++ (List.replicate m zs).flatten ++ sp')) e (0, 0)) :: (gb, .cells (List.toArray (xs ++ sp)) e (0, 0)) :: F ∧ n + m ≤ cap' ∧ cap' ≤ maxLen ∧ (xs ++ (List.replicate m zs).flatten ++ sp').length = cap' * k) := by
  refine ⟨rfl, fun E a W hf hs => ?_⟩
  have hρ := hf.agrees
  obtain ⟨inf, u1, u2, u3, u4⟩ := stV_spec c.out
  obtain ⟨inf', zv, z1, z2, z3⟩ := zvV_spec cz.out
  rw [u2] at z1; cases z1
  have hu := itV_spec ci.out
  have hex : execOp a.eval ⟨d, .call { callee := .builtin .append, args := #[s, x], argTypes := #[T, tn] }, ty, pos, aft, g⟩ = (do pure (.value (← Builtin.append_ #[T, tn] ty #[.slice (some ⟨gb, 0, none⟩) n cap, .int .i64 (m : Nat)])) : Sem Next) := by
    simp [execOp, resolve, hρ s _ hx, hρ x _ hy, invoke, builtin]
  unfold OpVal
  rw [hex, Sem.run_bind]
  have hzc : zv.cells = List.toArray zs := by rw [← z3]
  have hold : ∀ j u, xs[j]? = some u → W.cell? ((⟨gb, 0, none⟩ : Addr).add j) = some u := fun j u hj => by
    rw [addr_add, hs.cell List.mem_cons_self, Nat.zero_add]
    have hlt := (List.getElem?_eq_some_iff.1 hj).1
    simp only [List.getElem?_toArray]
    rw [List.getElem?_append_left hlt]
    exact hj
  have hb2 : (n + m) * yb ≤ 140737488355328 := by
    have := Nat.mul_le_mul hn hby; omega
  have hr := run_append_zeros (P := P) W T tn ty e inf zv .i64 .i64 u1 hu u2 z2 ⟨gb, 0, none⟩ n cap xs (by rw [u3]; exact hxs) hold m hm0 (by rw [u3]; exact hk) hroom hn (by rw [u4]; exact hby) (growslice_fits (by omega) (by rw [u4]; exact hb2))
  rw [hr]
  have hsz := size_zeroCells zv.cells (grownCap W (n + m) cap e - (n + m))
  have hzm : Builtin.zeroCells zv.cells m = List.toArray (List.replicate m zs).flatten := by
    unfold Builtin.zeroCells
    have hk2 : 0 < m * k := Nat.mul_pos hm0 hk
    have := row_zeros hzc hzs hk2
    rw [show zv.cells.size = k by rw [hzc]; simpa using hzs]
    rw [← this, show zv.cells.size = k by rw [hzc]; simpa using hzs]
  refine ⟨_, ⟨W.heap.size, grownCap W (n + m) cap e, (Builtin.zeroCells zv.cells (grownCap W (n + m) cap e - (n + m))).toList, fun c hc => ?_, rfl, rfl, grownCap_ge _ _ _ _, grownCap_le_maxLen _ _ _ _ (by unfold maxLen; omega), ?_⟩, ?_⟩
  · intro e1
    have := hs.has c hc
    rw [e1] at this
    simp at this
  · have hge := grownCap_ge W (n + m) cap e
    have h1 : (Builtin.zeroCells zv.cells (grownCap W (n + m) cap e - (n + m))).toList.length = (grownCap W (n + m) cap e - (n + m)) * k := by
      rw [Array.length_toList, hsz, show zv.cells.size = k by rw [hzc]; simpa using hzs]
    have : (List.replicate m zs).flatten.length = m * k := by simp [hzs]
    rw [List.length_append, List.length_append, hxs, h1, this, ← Nat.add_mul, ← Nat.add_mul]
    congr 1; omega
  · have h2 := hs.drew.alloc (.cells (xs.toArray ++ Builtin.zeroCells zv.cells m ++ Builtin.zeroCells zv.cells (grownCap W (n + m) cap e - (n + m))) e)
    have e1 : W.drew.heap.size = W.heap.size := rfl
    rw [e1] at h2
    have e2 : List.toArray (xs ++ (List.replicate m zs).flatten ++ (Builtin.zeroCells zv.cells (grownCap W (n + m) cap e - (n + m))).toList) = xs.toArray ++ Builtin.zeroCells zv.cells m ++ Builtin.zeroCells zv.cells (grownCap W (n + m) cap e - (n + m)) := by
      rw [hzm]; apply Array.toList_inj.1; simp
    rw [e2]
    exact h2
theorem q_overlaps {f T e k yb : Nat} {fn : Func} {at_ : Array TypeId} {a1 o1 a2 o2 n1 c1 n2 c2 : Nat} {cl1 cl2 : Array Value} {t1 t2 : TypeId} (hfx : ev fr s = some (.func (.func f) #[] #[])) (hx : ev fr x = some (.slice (some ⟨a1, o1, none⟩) n1 c1)) (hy : ev fr y = some (.slice (some ⟨a2, o2, none⟩) n2 c2)) [c : ST P T e k yb]
    (hf : P.funcs[f]? = some fn) (hfn : (fn.name == "runtime.NumGoroutine") = false) (hb : fn.body.isNone = true) (hnx : Extern.findNext fn = none) (tR : TypeId) (hext : Extern.find fn = some (Extern.SlicesOverlaps.overlaps #[T, T] #[tR]))
    (h1 : (a1, Obj.cells cl1 t1 (0, 0)) ∈ R) (h2 : (a2, Obj.cells cl2 t2 (0, 0)) ∈ R) (hne : a1 ≠ a2) (h0 : 0 < cl2.size) :
    OpQ P ro N fr R ⟨d, .call { callee := .value s, args := #[x, y], argTypes := at_ }, ty, pos, aft, g⟩ (.bool false) := by
  refine ⟨fun l hl => ⟨rfl, fun E a W hfs hs => ?_⟩⟩
  have hρ := hfs.agrees
  obtain ⟨inf, u1, u2, u3, u4⟩ := stV_spec c.out
  have k1 := hs.has _ (hl _ h1)
  have k2 := hs.has _ (hl _ h2)
  simp only at k1 k2
  have hr := Lib.run_overlaps_apart (P := P) W T tR e u1 inf.size (fun w => by simp [sizeOf, typeInfo, u2]) ⟨a1, o1, none⟩ ⟨a2, o2, none⟩ n1 c1 n2 c2 hne t1 t2 cl1.size cl2.size (by simp [World.shape?, k1]) (by simp [World.shape?, k2]) (by omega) (by simp [World.frozen?, k1]) (by simp [World.frozen?, k1])
  have hc := run_callFunc_extern (P := P) hf hfn hb hnx hext #[.slice (some ⟨a1, o1, none⟩) n1 c1, .slice (some ⟨a2, o2, none⟩) n2 c2] W
  unfold OpVal
  have hex : (execOp a.eval ⟨d, .call { callee := .value s, args := #[x, y], argTypes := at_ }, ty, pos, aft, g⟩).run P W = .ok (.value (.bool false)) W := by
    simp only [execOp, resolve, List.map_toArray, List.map_cons, List.map_nil, hρ s _ hfx, hρ x _ hx, hρ y _ hy, Deferred.ofValue, Sem.run_bind]
    simp only [Sem.run_pure, Result.andThen, invoke]
    simp only [Array.append_empty, Array.empty_append]
    rw [hc, hr]
    rfl
  rw [hex]
  exact ⟨_, ⟨rfl, rfl⟩, hs⟩
end
section
variable {P : Program} {ro : Option Nat} {N : Nat} {fr : Fr} {R l : List Chunk} {d : Option Nat} {ty : TypeId} {pos : String} {aft : Array Edge} {g : Option (Nat × Bool)} {x : Operand}
theorem q_sliceP {T e k yb : Nat} {lo hi mx : Option Operand} {p : Option Addr} {n cap l0 h0 m0 n' c' : Nat} (hx : ev fr x = some (.slice p n cap)) [c : ST P T e k yb] (hl : Bnd fr lo 0 l0) (hh : Bnd fr hi n h0) (hm : Bnd fr mx cap m0) (hno : mx.isSome = true → hi.isSome = true) (h1 : l0 ≤ h0) (h2 : h0 ≤ m0) (h3 : m0 ≤ cap)
    (hn : h0 - l0 = n') (hc : m0 - l0 = c') : OpQ P ro N fr R ⟨d, .slice T x lo hi mx, ty, pos, aft, g⟩ (.slice (if m0 = l0 then p else p.map (·.add (l0 * k))) n' c') := opQ_of_sl rfl fun ρ l hρ _ => by
  obtain ⟨inf, u1, u2, u3, _⟩ := stV_spec c.out
  subst hn hc
  simp only [execOp, hρ x _ hx]
  rw [sl_bind]
  unfold Instr.sliceAt
  rw [sl_under u1]
  show sl P (Instr.slice T _ _ _ _) l _
  unfold Instr.slice
  rw [sl_under u1]
  simp only [sl_bind]
  rw [sl_sliceBounds hρ hl hh hm hno h1 h2 h3]
  simp only
  rw [sl_sizeOf' u2]
  simp only [sl_pure, u3]
  simp
end
theorem ov_f : Tryz.prog.funcs[185]? = some Tryz.f185 := Tryz.func185
theorem ov_n : (Tryz.f185.name == "runtime.NumGoroutine") = false := by kernel_rfl
theorem ov_b : Tryz.f185.body.isNone = true := by kernel_rfl
theorem ov_x : Extern.findNext Tryz.f185 = none := by kernel_rfl
theorem ov_e : Extern.find Tryz.f185 = some (Extern.SlicesOverlaps.overlaps #[40, 40] #[4]) := by kernel_rfl
theorem lay3 (A X Y cs : List Value) (h : cs.length = X.length) : (A ++ X ++ Y).take A.length ++ cs ++ (A ++ X ++ Y).drop (A.length + cs.length) = A ++ cs ++ Y := by
  rw [h]
  have e1 : (A ++ X ++ Y).take A.length = A := by rw [List.append_assoc, List.take_left' rfl]
  have e2 : (A ++ X ++ Y).drop (A.length + X.length) = Y := by rw [← List.length_append, List.drop_left' rfl]
  rw [e1, e2]
abbrev obZ : List Value := [.int .i64 0, .int .i64 0, .int .i64 0, .int .i64 0, .int .i64 0, .int .i64 0, .int .i64 0, .int .i64 0, .int .i64 0]
set_option maxHeartbeats 400000
theorem insert_any (v : Value) (n i bl : Nat) (xs ws : List Value) (cs F : List Chunk) (ho : OwnSl 68 9 v n xs cs) (hi : i ≤ n) (hw : ws.length = 9) (h1 : ∀ u ∈ ws, u.oneCell' = true) (hx1 : ∀ u ∈ xs, u.oneCell' = true) (hne : ∀ c, c ∈ cs → c.1 ≠ bl) (hn : n ≤ 90000) :
    Fn Tryz.prog 141 [v, .int .i64 (i : Nat), .slice (some ⟨bl, 0, none⟩) 1 1] ((bl, .cells (List.toArray ws) 68 (0, 0)) :: (cs ++ F)) fun v' l' => ∃ c2, OwnSl 68 9 v' (n + 1) (xs.take (i * 9) ++ ws ++ xs.drop (i * 9)) c2 ∧ l' = c2 ++ F := by
  obtain ⟨p, cap, hv, hnc⟩ : ∃ p cap, v = .slice p n cap ∧ n ≤ cap := by
    rcases ho.2 with ⟨h, h0, _⟩ | ⟨b, cap, sp, h, _, h2, _⟩
    · exact ⟨none, 0, by rw [h, h0], by omega⟩
    · exact ⟨_, cap, h, h2⟩
  subst hv
  refine fn_of_body Tryz.func141 rfl rfl fun E => ?_
  simp only [argF, Tryz.ntmps141]
  refine gz ?_
  refine t_q (q_sliceP (l0 := i) (h0 := n) (m0 := cap) rfl (.some rfl (by omega) rfl) .none .none (by simp) hi hnc (by omega) rfl rfl) rfl rfl rfl ?_
  refine gz ?_
  by_cases hin : i = n
  · subst hin
    refine gz ?_
    refine t_e (e_appX (k := 9) (X := []) (cs := cs) (F := F) (xs := xs) (n := i) (ws := ws) (zs := obZ) rfl rfl rfl ho hw h1 (by omega) (by decide)) rfl rfl rfl ?_
    rintro v' _ ⟨c2, ho2, rfl⟩
    have hv1 : v'.oneCell' = true := ho2.one
    refine gz ?_
    refine k_ret [] rfl (l' := c2 ++ F) .refl (by exact zRes) ⟨c2, ?_, rfl⟩
    rw [List.take_of_length_le (by rw [ho.1]; omega), List.drop_of_length_le (by rw [ho.1]; omega), List.append_nil]; exact ho2
  refine gz ?_
  rcases ho.2 with ⟨h, h0, _⟩ | ⟨gb, cap', sp, h, rfl, h2, hcm, hcl⟩
  · omega
  cases h
  have hxl : xs.length = n * 9 := ho.1
  obtain ⟨A, hA⟩ : ∃ A, xs.take (i * 9) = A := ⟨_, rfl⟩
  obtain ⟨B, hB⟩ : ∃ B, xs.drop (i * 9) = B := ⟨_, rfl⟩
  have hAB : xs = A ++ B := by rw [← hA, ← hB, List.take_append_drop]
  have hAl : A.length = i * 9 := by rw [← hA, List.length_take]; omega
  have hBl : B.length = (n - i) * 9 := by rw [← hB, List.length_drop]; omega
  have hB1 : ∀ u ∈ B, u.oneCell' = true := fun u hu => hx1 u (by rw [hAB]; exact List.mem_append_right _ hu)
  rw [hA, hB]
  have hgb : gb ≠ bl := hne _ (.head _)
  rw [show xs ++ sp = A ++ (B ++ sp) by rw [hAB, List.append_assoc]] at hcl ⊢
  rw [List.length_append, List.length_append] at hcl
  simp only [List.cons_append, List.nil_append]
  refine t_q (q_cap rfl) rfl rfl rfl ?_
  refine gz ?_
  by_cases hroom : cap < n + 1
  · refine gz ?_
    refine t_q (q_slice (l0 := 0) (h0 := i) (m0 := cap) (off' := 0) (n' := i) (c' := cap) rfl .none (.some rfl (by omega) rfl) .none (by simp) (by omega) (by omega) (by omega) (by simp) (by omega) (by omega)) rfl rfl rfl ?_
    refine gz ?_
    refine s_keep (Keep.of_perm (l' := (gb, .cells (List.toArray (A ++ (B ++ sp))) 68 (0, 0)) :: ((bl, .cells (List.toArray ws) 68 (0, 0)) :: F)) (List.Perm.swap ..)) ?_
    refine t_e (e_appendZ (k := 9) (n := i) (m := n + 1 - i) (gb := gb) (cap := cap) (xs := A) (sp := B ++ sp) (zs := obZ) (F := (bl, .cells (List.toArray ws) 68 (0, 0)) :: F) rfl ?_ rfl (by omega) hAl (by omega) (by omega) (by omega) (by decide)) rfl rfl rfl ?_
    · show some (Value.int .i64 _) = _
      congr 2; omega
    rintro _ _ ⟨nb, cap2, sp2, hnb, rfl, rfl, hc1, hc2, hc3⟩
    rw [show i + (n + 1 - i) = n + 1 by omega] at hc1 ⊢
    obtain ⟨Z, hZ⟩ : ∃ Z, (List.replicate (n + 1 - i) obZ).flatten = Z := ⟨_, rfl⟩
    have hZl : Z.length = 9 + B.length := by rw [← hZ, hBl]; simp; omega
    rw [hZ] at hc3 ⊢
    have e0 : A ++ Z ++ sp2 = A ++ Z.take 9 ++ (Z.drop 9 ++ sp2) := by
      rw [List.append_assoc, List.append_assoc, ← List.append_assoc (Z.take 9), List.take_append_drop]
    have hZ9 : (Z.take 9).length = 9 := by rw [List.length_take]; omega
    have hZd : (Z.drop 9).length = B.length := by rw [List.length_drop]; omega
    rw [List.length_append, List.length_append] at hc3
    refine gz ?_
    refine t_q (q_slice (l0 := i) (h0 := n + 1) (m0 := cap2) (off' := A.length) (n' := n + 1 - i) (c' := cap2 - i) rfl (.some rfl (by omega) rfl) .none .none (by simp) (by omega) (by omega) (by omega) (by rw [if_neg (by omega)]; omega) rfl rfl) rfl rfl rfl ?_
    refine gz ?_
    have hl1 : (bl, Obj.cells (List.toArray ws) 68 (0, 0)) ∈ (nb, Obj.cells (List.toArray (A ++ Z ++ sp2)) 68 (0, 0)) :: (gb, .cells (List.toArray (A ++ (B ++ sp))) 68 (0, 0)) :: (bl, .cells (List.toArray ws) 68 (0, 0)) :: F := .tail _ (.tail _ (.head _))
    refine t_e (e_copyK (k := 9) (m := 1) (cs := ws) rfl rfl (by show min 1 (n + 1 - i) = 1; omega) hw hl1 (fun j u hj => by simpa using hj) (by simp only [List.length_append]; omega) h1) rfl rfl rfl ?_
    rintro _ _ ⟨rfl, rfl⟩
    rw [e0, lay3 A _ _ ws (by rw [hw, hZ9])]
    refine gz ?_
    have hAw : (A ++ ws).length = i * 9 + 9 := by rw [List.length_append]; omega
    have hl2 : (gb, Obj.cells (List.toArray (A ++ (B ++ sp))) 68 (0, 0)) ∈ (nb, Obj.cells (List.toArray (A ++ ws ++ (Z.drop 9 ++ sp2))) 68 (0, 0)) :: (gb, .cells (List.toArray (A ++ (B ++ sp))) 68 (0, 0)) :: (bl, .cells (List.toArray ws) 68 (0, 0)) :: F := .tail _ (.head _)
    refine c_draw [(0, true), (1, true), (2, true), (3, true), (4, true), (5, true), (6, true), (7, true), (8, false)] [[], [], [], [1, 2], [0, 1, 2, 3], [], [], [5, 6], [0, 1, 2, 3, 4, 5, 6, 7]] ([]) (by kernel_rfl) (by kernel_rfl) zAtt zHR ?_
    refine pz ?_
    apply pl_q
    · exact q_slice (l0 := i + 1) (h0 := n + 1) (m0 := cap2) (off' := i * 9 + 9) (n' := n - i) (c' := cap2 - (i + 1)) rfl (.some rfl (by omega) rfl) .none .none (by simp) (by omega) (by omega) (by omega) (by rw [if_neg (by omega)]; omega) (by omega) rfl
    · rfl
    · rfl
    · rfl
    refine pz ?_
    apply pl_q
    · exact q_slice (l0 := i) (h0 := n) (m0 := cap) (off' := i * 9) (n' := n - i) (c' := cap - i) rfl (.some rfl (by omega) rfl) .none .none (by simp) (by omega) (by omega) (by omega) (by rw [if_neg (by omega)]; omega) rfl rfl
    · rfl
    · rfl
    · rfl
    refine pz ?_
    apply pl_e
    · apply e_copyK (k := 9) (m := n - i) (cs := B) (cur := A ++ ws ++ (Z.drop 9 ++ sp2))
      · rfl
      · rfl
      · exact Nat.min_self _
      · omega
      · exact hl2
      · intro j u hj
        have hjl := (List.getElem?_eq_some_iff.1 hj).1
        rw [List.getElem?_toArray, List.getElem?_append_right (by omega), hAl, show i * 9 + j - i * 9 = j by omega, List.getElem?_append_left hjl]; exact hj
      · rw [List.length_append, List.length_append, List.length_append, hw, hAl, hZd]; omega
      · exact hB1
    · rfl
    · rfl
    · rfl
    · intro _ _ _ c hc; cases hc
    rintro _ _ ⟨rfl, rfl⟩
    have e3 : List.take (i * 9 + 9) (A ++ ws ++ (List.drop 9 Z ++ sp2)) ++ B ++ List.drop (i * 9 + 9 + B.length) (A ++ ws ++ (List.drop 9 Z ++ sp2)) = A ++ ws ++ B ++ sp2 := by
      have := lay3 (A ++ ws) (Z.drop 9) sp2 B hZd.symm
      rw [hAw, List.append_assoc (A ++ ws) (Z.drop 9) sp2] at this
      exact this
    rw [e3]
    refine pz ?_
    refine gz ?_
    refine k_ret [] rfl (l' := (nb, .cells (List.toArray (A ++ ws ++ B ++ sp2)) 68 (0, 0)) :: F) (by exact zKeep) (by exact zRes) ⟨[(nb, _)], ⟨?_, .inr ⟨nb, cap2, sp2, rfl, rfl, hc1, hc2, ?_⟩⟩, rfl⟩
    · rw [List.length_append, hAw]; omega
    · rw [List.length_append, List.length_append, hAw]; omega
  · obtain ⟨s1, s2, hs12, hs1⟩ : ∃ s1 s2, sp = s1 ++ s2 ∧ s1.length = 9 := ⟨sp.take 9, sp.drop 9, (List.take_append_drop ..).symm, by rw [List.length_take]; omega⟩
    refine gz ?_
    refine t_q (q_slice (l0 := 0) (h0 := n + 1) (m0 := cap) (off' := 0) (n' := n + 1) (c' := cap) rfl .none (.some rfl (by omega) (by omega)) .none (by simp) (by omega) (by omega) (by omega) (by simp) (by omega) (by omega)) rfl rfl rfl ?_
    refine gz ?_
    refine t_q (q_slice (l0 := i + 1) (h0 := n + 1) (m0 := cap) (off' := i * 9 + 9) (n' := n - i) (c' := cap - (i + 1)) rfl (.some rfl (by omega) rfl) .none .none (by simp) (by omega) (by omega) (by omega) (by rw [if_neg (by omega)]; omega) (by omega) rfl) rfl rfl rfl ?_
    refine gz ?_
    have hl2 : (gb, Obj.cells (List.toArray (A ++ (B ++ sp))) 68 (0, 0)) ∈ (bl, .cells (List.toArray ws) 68 (0, 0)) :: (gb, Obj.cells (List.toArray (A ++ (B ++ sp))) 68 (0, 0)) :: F := .tail _ (.head _)
    refine t_q (q_overlaps (cl1 := List.toArray ws) (cl2 := List.toArray (A ++ (B ++ sp))) rfl rfl rfl ov_f ov_n ov_b ov_x 4 ov_e (.head _) hl2 (fun h => hgb h.symm) (by simp; omega)) rfl rfl rfl ?_
    refine s_keep (Keep.of_perm (l' := (gb, .cells (List.toArray (A ++ (B ++ sp))) 68 (0, 0)) :: ((bl, .cells (List.toArray ws) 68 (0, 0)) :: F)) (List.Perm.swap ..)) ?_
    refine gz ?_
    refine c_draw [(0, true), (1, true), (2, true), (3, true), (4, true), (5, true), (6, true), (7, true), (8, false)] [[], [], [], [1, 2], [0, 1, 2, 3], [], [], [5, 6], [0, 1, 2, 3, 4, 5, 6, 7]] ([]) (by kernel_rfl) (by kernel_rfl) zAtt zHR ?_
    refine pz ?_
    apply pl_q
    · exact q_slice (l0 := i + 1) (h0 := n + 1) (m0 := cap) (off' := i * 9 + 9) (n' := n - i) (c' := cap - (i + 1)) rfl (.some rfl (by omega) rfl) .none .none (by simp) (by omega) (by omega) (by omega) (by rw [if_neg (by omega)]; omega) (by omega) rfl
    · rfl
    · rfl
    · rfl
    refine pz ?_
    apply pl_q
    · exact q_slice (l0 := i) (h0 := n + 1) (m0 := cap) (off' := i * 9) (n' := n + 1 - i) (c' := cap - i) rfl (.some rfl (by omega) rfl) .none .none (by simp) (by omega) (by omega) (by omega) (by rw [if_neg (by omega)]; omega) rfl rfl
    · rfl
    · rfl
    · rfl
    refine pz ?_
    apply pl_e
    · apply e_copyK (k := 9) (m := n - i) (cs := B) (cur := A ++ (B ++ sp))
      · rfl
      · rfl
      · show min (n + 1 - i) (n - i) = n - i; omega
      · omega
      · exact .head _
      · intro j u hj
        have hjl := (List.getElem?_eq_some_iff.1 hj).1
        rw [List.getElem?_toArray, List.getElem?_append_right (by omega), hAl, show i * 9 + j - i * 9 = j by omega, List.getElem?_append_left hjl]; exact hj
      · rw [List.length_append, List.length_append, hAl]; omega
      · exact hB1
    · rfl
    · rfl
    · rfl
    · intro _ _ _ c hc; cases hc
    rintro _ _ ⟨rfl, rfl⟩
    obtain ⟨Y, hY⟩ : ∃ Y, (B ++ sp).take 9 = Y := ⟨_, rfl⟩
    have hYl : Y.length = 9 := by rw [← hY, List.length_take, List.length_append]; omega
    have hD : (B ++ sp).drop (9 + B.length) = s2 := by
      rw [Nat.add_comm, ← List.drop_drop, List.drop_left' rfl, hs12, List.drop_left' hs1]
    have e3 : List.take (i * 9 + 9) (A ++ (B ++ sp)) ++ B ++ List.drop (i * 9 + 9 + B.length) (A ++ (B ++ sp)) = A ++ Y ++ (B ++ s2) := by
      rw [← hAl, Nat.add_assoc, List.drop_append, List.take_append, List.drop_of_length_le (by omega), List.take_of_length_le (by omega), Nat.add_sub_cancel_left, Nat.add_sub_cancel_left, hD, hY]
      simp
    rw [e3]
    refine pz ?_
    refine gz ?_
    refine t_q (q_slice (l0 := i) (h0 := n + 1) (m0 := cap) (off' := A.length) (n' := n + 1 - i) (c' := cap - i) rfl (.some rfl (by omega) rfl) .none .none (by simp) (by omega) (by omega) (by omega) (by rw [if_neg (by omega)]; omega) rfl rfl) rfl rfl rfl ?_
    refine gz ?_
    have hl3 : (bl, Obj.cells (List.toArray ws) 68 (0, 0)) ∈ (gb, Obj.cells (List.toArray (A ++ Y ++ (B ++ s2))) 68 (0, 0)) :: (bl, .cells (List.toArray ws) 68 (0, 0)) :: F := .tail _ (.head _)
    refine t_e (e_copyK (k := 9) (m := 1) (cs := ws) rfl rfl (by show min 1 (n + 1 - i) = 1; omega) hw hl3 (fun j u hj => by simpa using hj) (by simp only [List.length_append]; omega) h1) rfl rfl rfl ?_
    rintro _ _ ⟨rfl, rfl⟩
    rw [lay3 A _ _ ws (by rw [hw, hYl])]
    refine gz ?_
    rw [hs12, List.length_append] at hcl
    refine k_ret [] rfl (l' := (gb, .cells (List.toArray (A ++ ws ++ (B ++ s2))) 68 (0, 0)) :: F) (by exact zKeep) (by exact zRes) ⟨[(gb, _)], ⟨?_, .inr ⟨gb, cap, s2, rfl, ?_, by omega, hcm, ?_⟩⟩, rfl⟩
    · rw [List.length_append, List.length_append]; omega
    · rw [List.append_assoc (A ++ ws)]
    · rw [List.length_append, List.length_append, List.length_append]; omega
end Go.Proofs.YtcjknmpogkofpaaGreat.Ar
namespace Go.Proofs.YtcjknmpogkofpaaGreat
open Go.RowKit
def upd {α : Type} (f : Nat → α) (k : Nat) (v : α) : Nat → α := fun i => if i = k then v else f i
theorem upd_same {α : Type} (f : Nat → α) (k : Nat) (v : α) : upd f k v k = v := if_pos rfl
theorem upd_other {α : Type} (f : Nat → α) (k i : Nat) (v : α) (h : i ≠ k) : upd f k v i = f i := if_neg h
def seqI (f : Nat → Int) (a n : Nat) : List Int := (List.range n).map fun j => f (a + j)
theorem seqI_len (f : Nat → Int) (a n : Nat) : (seqI f a n).length = n := by simp [seqI]
set_option maxRecDepth 20000
def allOf (W : World) : List Chunk := W.heap.toList.zipIdx.map fun x => (x.2, x.1)
theorem allOf_mem (W : World) (k : Nat) (o : Obj) : (k, o) ∈ allOf W ↔ W.heap[k]? = some o := by
  unfold allOf
  rw [List.mem_map]
  constructor
  · rintro ⟨⟨o', k'⟩, h, e⟩
    cases e
    have := List.mem_zipIdx_iff_getElem?.1 h
    simpa using this
  · intro h
    exact ⟨(o, k), List.mem_zipIdx_iff_getElem?.2 (by simpa using h), rfl⟩
theorem sat_all (W : World) : Sat W (allOf W) W := by
  refine ⟨rfl, rfl, rfl, ?_, fun c hc => (allOf_mem W c.1 c.2).1 hc⟩
  unfold allOf
  rw [List.map_map]
  have : (Prod.fst ∘ fun x : Obj × Nat => (x.2, x.1)) = Prod.snd := rfl
  rw [this, List.zipIdx_map_snd]
  exact List.nodup_range'
theorem law_walk {P : Program} {f : FuncId} {args : List Value} {W : World} (h : Fn P f args (allOf W) fun v l' => v = .bool true ∧ ∃ X, l' = X ++ allOf W) :
    Calls P f args.toArray W fun e W' => e = .returned (.bool true) ∧ Below W.heap.size W W' := by
  refine (h.run W W (sat_all W)).mono ?_
  rintro e W' ⟨v, l', rfl, ⟨rfl, X, rfl⟩, hs⟩
  have hb : ∀ k, k < W.heap.size → W'.heap[k]? = W.heap[k]? := fun k hk => by
    rw [Array.getElem?_eq_getElem hk]
    exact hs.has (k, W.heap[k]) (List.mem_append_right _ ((allOf_mem W k _).2 (Array.getElem?_eq_getElem hk)))
  refine ⟨rfl, ⟨hs.os, hs.tape, hs.output, ?_, hb⟩⟩
  by_cases h0 : W.heap.size = 0
  · omega
  · have h1 := hb (W.heap.size - 1) (by omega)
    rw [Array.getElem?_eq_getElem (xs := W.heap) (by omega)] at h1
    have := (Array.getElem?_eq_some_iff.1 h1).1
    omega
end Go.Proofs.YtcjknmpogkofpaaGreat
namespace Go.Proofs.YtcjknmpogkofpaaGreat.Ar
open Go.RowKit
set_option maxRecDepth 20000
abbrev intV (x : Int) : Value := .int .i64 x
structure ObT where
  id : Int
  kd : Int
  sz : Int
  fi : Int
  fr : Int
  ma : Int
  se : Int
  pg : Int
  lv : Int
deriving DecidableEq
abbrev obC (o : ObT) : List Value := [.int .i64 o.id, .int .i64 o.kd, .int .i64 o.sz, .int .i64 o.fi, .int .i64 o.fr, .int .i64 o.ma, .int .i64 o.se, .int .i64 o.pg, .int .i64 o.lv]
abbrev obO : ObT := ⟨0, 0, 0, 0, 0, 0, 0, 0, 0⟩
abbrev OL := List ObT
def ocs (os : OL) : List Value := os.flatMap obC
theorem ocs_l (os : OL) : (ocs os).length = os.length * 9 := by
  induction os with
  | nil => rfl
  | cons x r ih =>
    rw [show ocs (x :: r) = obC x ++ ocs r from rfl, List.length_append, ih]
    show 9 + r.length * 9 = (r.length + 1) * 9
    omega
theorem ocs_app (a b : OL) : ocs (a ++ b) = ocs a ++ ocs b := List.flatMap_append ..
theorem ocs_one (os : OL) : ∀ u ∈ ocs os, u.oneCell' = true := by
  intro u hu
  obtain ⟨o, _, h⟩ := List.mem_flatMap.1 hu
  simp only [obC, List.mem_cons, List.not_mem_nil, or_false] at h
  rcases h with rfl | rfl | rfl | rfl | rfl | rfl | rfl | rfl | rfl <;> rfl
theorem ocs_at {os : OL} {i : Nat} {o : ObT} (h : os[i]? = some o) (sp : List Value) (j : Nat) (hj : j < 9) : (List.toArray (ocs os ++ sp))[i * 9 + j]? = (obC o)[j]? := by
  obtain ⟨h1, h2⟩ := flat_row (enc := obC) (k := 9) (fun _ => rfl) sp os i o h
  rw [← h1, List.getElem?_take, if_pos hj, List.getElem?_drop, List.getElem?_toArray]; rfl
theorem ocs_ext {os : OL} {i : Nat} {o : ObT} (h : os[i]? = some o) (sp : List Value) : i * 9 + 9 ≤ (List.toArray (ocs os ++ sp)).size ∧ (List.toArray (ocs os ++ sp)).extract (i * 9) (i * 9 + 9) = List.toArray (obC o) := by
  obtain ⟨h1, h2⟩ := flat_row (enc := obC) (k := 9) (fun _ => rfl) sp os i o h
  refine ⟨by rw [List.size_toArray]; exact h2, ?_⟩
  rw [List.extract_toArray, List.extract_eq_take_drop, Nat.add_sub_cancel_left]
  exact congrArg List.toArray h1
def arL (n : Int) (g : Nat → Int) (v : Value) : List Value := .int .i64 n :: ((seqI g 0 64).map intV ++ [v])
theorem arL_len (n : Int) (g : Nat → Int) (v : Value) : (arL n g v).length = 66 := by unfold arL; simp [seqI_len]
theorem arL_n (n : Int) (g : Nat → Int) (v : Value) : (List.toArray (arL n g v))[0]? = some (.int .i64 n) := rfl
theorem arL_l (n : Int) (g : Nat → Int) (v : Value) : (List.toArray (arL n g v))[65]? = some v := by
  rw [List.getElem?_toArray]; unfold arL
  rw [List.getElem?_cons_succ, List.getElem?_append_right (by simp [seqI_len])]; simp [seqI_len]
theorem arL_g (n : Int) (g : Nat → Int) (v : Value) {j : Nat} (hj : j < 64) : (List.toArray (arL n g v))[1 + j * 1]? = some (.int .i64 (g j)) := by
  rw [List.getElem?_toArray, show 1 + j * 1 = j + 1 by omega]; unfold arL
  rw [List.getElem?_cons_succ, List.getElem?_append_left (by simp [seqI_len]; omega), List.getElem?_map]
  simp [seqI, hj]
theorem arL_setG (n : Int) (g : Nat → Int) (v : Value) {j : Nat} (hj : j < 64) (x : Int) : (List.toArray (arL n g v)).setIfInBounds (1 + j * 1) (.int .i64 x) = List.toArray (arL n (upd g j x) v) := by
  rw [List.setIfInBounds_toArray, show 1 + j * 1 = j + 1 by omega]; unfold arL
  rw [List.set_cons_succ, List.set_append_left _ _ (by simp [seqI_len]; omega)]
  congr 3
  apply List.ext_getElem?
  intro k
  rw [List.getElem?_set]
  by_cases hk : k < 64
  · by_cases e : j = k
    · subst e
      rw [if_pos rfl, if_pos (by simp [seqI_len]; omega)]
      simp [seqI, hk, upd_same]
    · rw [if_neg e]
      simp [seqI, hk, upd_other _ _ _ _ (fun h => e h.symm)]
  · rw [if_neg (by omega)]
    rw [List.getElem?_eq_none (by simp [seqI_len]; omega), List.getElem?_eq_none (by simp [seqI_len]; omega)]
theorem arL_setL (n : Int) (g : Nat → Int) (v u : Value) : (List.toArray (arL n g v)).setIfInBounds 65 u = List.toArray (arL n g u) := by
  rw [List.setIfInBounds_toArray]; unfold arL
  rw [List.set_cons_succ, List.set_append_right _ _ (by simp [seqI_len])]
  simp [seqI_len]
abbrev arC (b : Nat) (n : Int) (g : Nat → Int) (v : Value) : Chunk := (b, .cells (List.toArray (arL n g v)) 261 (0, 0))
structure ArT where
  n : Int
  g : Nat → Int
  os : OL
structure ArT.Ok (S : ArT) : Prop where
  n1 : 1 ≤ S.n
  n2 : S.n ≤ 64
  g1 : ∀ j, 0 ≤ S.g j ∧ S.g j ≤ 1024
  asc : S.os.Pairwise fun x y => x.id < y.id
  rng : ∀ x ∈ S.os, 1 ≤ x.id ∧ x.id ≤ 65535
  num : ∀ x ∈ S.os, 0 ≤ x.fi ∧ x.fi < S.n ∧ ∃ c : Int, 0 ≤ c ∧ c < S.g x.fi.toNat ∧ x.id = x.fi + 1 + 64 * c
theorem asc_len : ∀ (os : OL) (a : Int), 0 ≤ a → a ≤ 65535 → (os.Pairwise fun x y => x.id < y.id) → (∀ x ∈ os, a < x.id ∧ x.id ≤ 65535) → (os.length : Int) ≤ 65535 - a
  | [], a, h0, ha, _, _ => by simp; omega
  | x :: r, a, h0, ha, h, hr => by
    obtain ⟨h1, h2⟩ := List.pairwise_cons.1 h
    have hx := hr x (.head _)
    have := asc_len r x.id (by omega) (by omega) h2 fun y hy => ⟨h1 y hy, (hr y (.tail _ hy)).2⟩
    simp only [List.length_cons]; omega
theorem ArT.Ok.len {S : ArT} (h : S.Ok) : S.os.length ≤ 65535 := by
  have := asc_len S.os 0 (by omega) (by omega) h.asc fun x hx => by have := h.rng x hx; omega
  omega
structure IsA (b : Nat) (S : ArT) (lq : List Chunk) : Prop where
  ok : S.Ok
  ex : ∃ v cs, lq = arC b S.n S.g v :: cs ∧ OwnSl 68 9 v S.os.length (ocs S.os) cs
def framesD (k s : Int) : Int :=
  if k = 1 then (if 1 ≤ s ∧ s ≤ 64 then s else 0)
  else if k = 2 then (if s = 1 then 1 else if s = 2 then 1 else if s = 3 then 2 else if s = 4 then 4 else 0)
  else if k = 3 ∨ k = 4 ∨ k = 5 ∨ k = 6 ∨ k = 8 ∨ k = 9 then (if s = 0 then 1 else 0) else 0
def slotsD (k s : Int) : Int :=
  if k = 2 then (if s = 1 then 2 else if s = 2 then 4 else if s = 3 then 8 else if s = 4 then 16 else 0)
  else if k = 9 then (if s = 0 then 3 else 0) else 0
def smallI (x : Int) : Prop := 0 ≤ x ∧ x ≤ 1048576
instance (x : Int) : Decidable (smallI x) := by unfold smallI; exact inferInstance
def mayD (a n b k : Int) : Bool := decide (smallI a ∧ smallI n ∧ smallI b ∧ smallI k)
def meetD (a n b k : Int) : Bool := mayD a n b k && decide (n > 0) && decide (k > 0) && decide (a < b + k) && decide (b < a + n)
def withinD (a n b k : Int) : Bool := mayD a n b k && (decide (n = 0) || (decide (a ≥ b) && decide (a + n ≤ b + k)))
def apartD (kd fi n : Int) (o : ObT) : Bool := !meetD fi n o.fi o.fr || ((decide (o.kd = 1) && withinD fi n o.fi o.fr) || (decide (kd = 1) && withinD o.fi o.fr fi n))
def nextD (S : ArT) (f : Int) : Int := if f < 0 then 0 else if f ≥ S.n then 0 else if f + 1 + 64 * S.g f.toNat > 65535 then 0 else f + 1 + 64 * S.g f.toNat
set_option maxHeartbeats 400000
theorem new_any (n : Int) (l : List Chunk) : Fn Tryz.prog 66 [.int .i64 n] l fun v l' =>
    (¬ (1 ≤ n ∧ n ≤ 64) ∧ v = .tuple #[.pointer none, .int .i64 3] ∧ l' = l) ∨ ((1 ≤ n ∧ n ≤ 64) ∧ ∃ b lq, v = .tuple #[.pointer (some ⟨b, 0, none⟩), .int .i64 0] ∧ IsA b ⟨n, fun _ => 0, []⟩ lq ∧ l' = lq ++ l) := by
  refine fn_of_body Tryz.func66 rfl rfl fun E => ?_
  simp only [argF, Tryz.ntmps66]
  by_cases h1 : n < 1
  · refine gzU ?_
    exact k_ret [] rfl .refl (by exact zRes) (.inl ⟨by omega, rfl, rfl⟩)
  by_cases h2 : n > 64
  · refine gzU ?_
    exact k_ret [] rfl .refl (by exact zRes) (.inl ⟨by omega, rfl, rfl⟩)
  refine gzU ?_
  refine t_e (e_boxA rfl) rfl rfl rfl ?_
  rintro _ _ ⟨b, hb, rfl, rfl⟩
  refine gzU ?_
  refine k_ret [] rfl .refl (by exact zRes) (.inr ⟨by omega, b, [arC b n (fun _ => 0) (.slice none 0 0)], rfl, ⟨⟨by show 1 ≤ n; omega, by show n ≤ 64; omega, fun j => by simp, .nil, (fun x hx => by cases hx), fun x hx => by cases hx⟩, _, [], rfl, OwnSl.nil _ _⟩, rfl⟩)
theorem each_any (b : Value) (h1 : b.oneCell' = true) (l : List Chunk) : Fn Tryz.prog 124 [b] l fun v l' => ∃ B, v = .func (.func 173) #[] #[.pointer (some ⟨B, 0, none⟩)] ∧ l' = (B, .cells #[b] 122 (0, 0)) :: l := by
  refine fn_of_body Tryz.func124 rfl rfl fun E => ?_
  simp only [argF, Tryz.ntmps124]
  refine gzU ?_
  refine t_e (e_box1 rfl h1) rfl rfl rfl ?_
  rintro _ _ ⟨B, hB, rfl, rfl⟩
  refine gzU ?_
  exact k_ret [] rfl .refl (by exact zRes) ⟨B, rfl, rfl⟩
theorem slots_any (k s : Int) (l : List Chunk) : Fn Tryz.prog 78 [.int .i64 k, .int .i64 s] l fun v l' => v = .int .i64 (slotsD k s) ∧ l' = l := by
  refine fn_of_body Tryz.func78 rfl rfl fun E => ?_
  simp only [argF, Tryz.ntmps78]
  by_cases h2 : k = 2
  · subst h2
    by_cases h1 : 1 ≤ s ∧ s ≤ 4
    · have hs : s = 1 ∨ s = 2 ∨ s = 3 ∨ s = 4 := by omega
      rcases hs with rfl | rfl | rfl | rfl
      · refine gzU ?_
        refine t_q (q_shl (i := 1) (n := 1) rfl rfl (by decide)) rfl rfl rfl ?_
        refine gzU ?_
        exact k_ret [] rfl .refl (by exact zRes) ⟨rfl, rfl⟩
      · refine gzU ?_
        refine t_q (q_shl (i := 1) (n := 2) rfl rfl (by decide)) rfl rfl rfl ?_
        refine gzU ?_
        exact k_ret [] rfl .refl (by exact zRes) ⟨rfl, rfl⟩
      · refine gzU ?_
        refine t_q (q_shl (i := 1) (n := 3) rfl rfl (by decide)) rfl rfl rfl ?_
        refine gzU ?_
        exact k_ret [] rfl .refl (by exact zRes) ⟨rfl, rfl⟩
      · refine gzU ?_
        refine t_q (q_shl (i := 1) (n := 4) rfl rfl (by decide)) rfl rfl rfl ?_
        refine gzU ?_
        exact k_ret [] rfl .refl (by exact zRes) ⟨rfl, rfl⟩
    · by_cases h3 : 1 ≤ s
      · refine gzU ?_
        refine k_ret [] rfl .refl (by exact zRes) ⟨?_, rfl⟩
        unfold slotsD
        rw [if_pos rfl, if_neg (by omega), if_neg (by omega), if_neg (by omega), if_neg (by omega)]; rfl
      · refine gzU ?_
        refine k_ret [] rfl .refl (by exact zRes) ⟨?_, rfl⟩
        unfold slotsD
        rw [if_pos rfl, if_neg (by omega), if_neg (by omega), if_neg (by omega), if_neg (by omega)]; rfl
  · by_cases h9 : k = 9
    · subst h9
      by_cases h0 : s = 0
      · subst h0
        refine gzU ?_
        exact k_ret [] rfl .refl (by exact zRes) ⟨rfl, rfl⟩
      · refine gzU ?_
        refine k_ret [] rfl .refl (by exact zRes) ⟨?_, rfl⟩
        unfold slotsD
        rw [if_neg (by omega), if_pos rfl, if_neg h0]; rfl
    · refine gzU ?_
      refine k_ret [] rfl .refl (by exact zRes) ⟨?_, rfl⟩
      unfold slotsD
      rw [if_neg h2, if_neg h9]; rfl
theorem may_any (a n b k : Int) (B : Nat) (l : List Chunk) (hm : (B, Obj.cells (List.toArray [.int .i64 a, .int .i64 n, .int .i64 b, .int .i64 k]) 3 (0, 0)) ∈ l) : Fn Tryz.prog 212 [.slice (some ⟨B, 0, none⟩) 4 4] l fun v l' => v = .bool (mayD a n b k) ∧ l' = l := by
  refine fn_of_body Tryz.func212 rfl rfl fun E => ?_
  simp only [argF, Tryz.ntmps212]
  refine gzU ?_
  refine k_loop (α := Nat) (fun i => [(5, .slice (some ⟨B, 0, none⟩) 4 4), (6, .int .i64 4), (7, .int .i64 i)]) (fun i => l) (fun i => i ≤ 4 ∧ ∀ j x, j < i → [a, n, b, k][j]? = some x → smallI x) (fun i => 4 - i) 0 ⟨Nat.zero_le _, fun j x h => by omega⟩ ⟨rfl, rfl, rfl, trivial⟩ .refl ?_
  rintro i ⟨hi, hj⟩
  by_cases hlt : i < 4
  · obtain ⟨x, hx⟩ : ∃ x, [a, n, b, k][i]? = some x := ⟨_, List.getElem?_eq_getElem (show i < [a, n, b, k].length from hlt)⟩
    have hc : (List.toArray [Value.int .i64 a, .int .i64 n, .int .i64 b, .int .i64 k])[i * 1]? = some (.int .i64 x) := by
      have : i = 0 ∨ i = 1 ∨ i = 2 ∨ i = 3 := by omega
      rcases this with rfl | rfl | rfl | rfl <;> (simp at hx; subst hx; rfl)
    have hF : ¬ smallI x → mayD a n b k = false := fun h => by
      refine decide_eq_false fun hh => h ?_
      have : i = 0 ∨ i = 1 ∨ i = 2 ∨ i = 3 := by omega
      rcases this with rfl | rfl | rfl | rfl <;> (simp at hx; subst hx; simp [hh])
    refine gzU ?_
    by_cases h1 : x < 0
    · refine gzU ?_
      exact k_ret [] rfl .refl (by exact zRes) ⟨by rw [hF (fun h => by unfold smallI at h; omega)]; rfl, rfl⟩
    by_cases h2 : x > 1048576
    · refine gzU ?_
      exact k_ret [] rfl .refl (by exact zRes) ⟨by rw [hF (fun h => by unfold smallI at h; omega)]; rfl, rfl⟩
    · refine gzU ?_
      refine k_next (i + 1) ⟨by omega, fun j y hji hy => ?_⟩ (by omega) ⟨rfl, rfl, rfl, trivial⟩ .refl
      by_cases e : j = i
      · subst e; rw [hx] at hy; cases hy; exact ⟨by omega, by omega⟩
      · exact hj j y (by omega) hy
  · obtain rfl : i = 4 := by omega
    have hT : mayD a n b k = true := decide_eq_true ⟨hj 0 a (by omega) rfl, hj 1 n (by omega) rfl, hj 2 b (by omega) rfl, hj 3 k (by omega) rfl⟩
    refine gzU ?_
    exact k_ret [] rfl .refl (by exact zRes) ⟨by rw [hT]; rfl, rfl⟩
theorem may_sm {a n b k : Int} (h : mayD a n b k = true) : smallI a ∧ smallI n ∧ smallI b ∧ smallI k := of_decide_eq_true h
theorem meet_any (a n b k : Int) (l : List Chunk) : Fn Tryz.prog 183 [.int .i64 a, .int .i64 n, .int .i64 b, .int .i64 k] l fun v l' => v = .bool (meetD a n b k) ∧ l' = l := by
  refine fn_of_body Tryz.func183 rfl rfl fun E => ?_
  simp only [argF, Tryz.ntmps183]
  refine gzU ?_
  refine t_e (e_litN rfl (by decide) (by decide) rfl) rfl rfl rfl ?_
  rintro _ _ ⟨B, hB, rfl, rfl⟩
  refine gzU ?_
  refine t_q (q_call rfl rfl fun l2 hl => may_any a n b k B l2 (hl _ (.head _))) rfl rfl rfl ?_
  cases hm : mayD a n b k with
  | false =>
    refine gzU ?_
    exact k_ret [] rfl (.drop .refl) (by exact zRes) ⟨by unfold meetD; rw [hm]; rfl, rfl⟩
  | true =>
    obtain ⟨⟨a1, a2⟩, ⟨n1, n2⟩, ⟨b1, b2⟩, k1, k2⟩ := may_sm hm
    by_cases h1 : n > 0
    · by_cases h2 : k > 0
      · by_cases h3 : a < b + k
        · by_cases h4 : b < a + n
          · refine gzU ?_
            exact k_ret [] rfl (.drop .refl) (by exact zRes) ⟨by unfold meetD; rw [hm, decide_eq_true h1, decide_eq_true h2, decide_eq_true h3, decide_eq_true h4]; rfl, rfl⟩
          · refine gzU ?_
            exact k_ret [] rfl (.drop .refl) (by exact zRes) ⟨by unfold meetD; rw [hm, decide_eq_true h1, decide_eq_true h2, decide_eq_true h3, decide_eq_false h4]; rfl, rfl⟩
        · refine gzU ?_
          exact k_ret [] rfl (.drop .refl) (by exact zRes) ⟨by unfold meetD; rw [hm, decide_eq_true h1, decide_eq_true h2, decide_eq_false h3]; rfl, rfl⟩
      · refine gzU ?_
        exact k_ret [] rfl (.drop .refl) (by exact zRes) ⟨by unfold meetD; rw [hm, decide_eq_true h1, decide_eq_false h2]; rfl, rfl⟩
    · refine gzU ?_
      exact k_ret [] rfl (.drop .refl) (by exact zRes) ⟨by unfold meetD; rw [hm, decide_eq_false h1]; rfl, rfl⟩
theorem within_any (a n b k : Int) (l : List Chunk) : Fn Tryz.prog 184 [.int .i64 a, .int .i64 n, .int .i64 b, .int .i64 k] l fun v l' => v = .bool (withinD a n b k) ∧ l' = l := by
  refine fn_of_body Tryz.func184 rfl rfl fun E => ?_
  simp only [argF, Tryz.ntmps184]
  refine gzU ?_
  refine t_e (e_litN rfl (by decide) (by decide) rfl) rfl rfl rfl ?_
  rintro _ _ ⟨B, hB, rfl, rfl⟩
  refine gzU ?_
  refine t_q (q_call rfl rfl fun l2 hl => may_any a n b k B l2 (hl _ (.head _))) rfl rfl rfl ?_
  cases hm : mayD a n b k with
  | false =>
    refine gzU ?_
    exact k_ret [] rfl (.drop .refl) (by exact zRes) ⟨by unfold withinD; rw [hm]; rfl, rfl⟩
  | true =>
    obtain ⟨⟨a1, a2⟩, ⟨n1, n2⟩, ⟨b1, b2⟩, k1, k2⟩ := may_sm hm
    by_cases h1 : n = 0
    · refine gzU ?_
      exact k_ret [] rfl (.drop .refl) (by exact zRes) ⟨by unfold withinD; rw [hm, decide_eq_true h1]; rfl, rfl⟩
    · by_cases h3 : a ≥ b
      · by_cases h4 : a + n ≤ b + k
        · refine gzU ?_
          exact k_ret [] rfl (.drop .refl) (by exact zRes) ⟨by unfold withinD; rw [hm, decide_eq_false h1, decide_eq_true h3, decide_eq_true h4]; rfl, rfl⟩
        · refine gzU ?_
          exact k_ret [] rfl (.drop .refl) (by exact zRes) ⟨by unfold withinD; rw [hm, decide_eq_false h1, decide_eq_true h3, decide_eq_false h4]; rfl, rfl⟩
      · refine gzU ?_
        exact k_ret [] rfl (.drop .refl) (by exact zRes) ⟨by unfold withinD; rw [hm, decide_eq_false h1, decide_eq_false h3]; rfl, rfl⟩
theorem frames_any (k s : Int) (l : List Chunk) : Fn Tryz.prog 74 [.int .i64 k, .int .i64 s] l fun v l' => v = .int .i64 (framesD k s) ∧ l' = l := by
  refine fn_of_body Tryz.func74 rfl rfl fun E => ?_
  simp only [argF, Tryz.ntmps74]
  by_cases h1 : k = 1
  · subst h1
    by_cases hs : s ≥ 1
    · by_cases hs2 : s ≤ 64
      · refine gzU ?_
        exact k_ret [] rfl .refl (by exact zRes) ⟨by unfold framesD; rw [if_pos rfl, if_pos ⟨hs, hs2⟩]; rfl, rfl⟩
      · refine gzU ?_
        exact k_ret [] rfl .refl (by exact zRes) ⟨by unfold framesD; rw [if_pos rfl, if_neg (by omega)]; rfl, rfl⟩
    · refine gzU ?_
      exact k_ret [] rfl .refl (by exact zRes) ⟨by unfold framesD; rw [if_pos rfl, if_neg (by omega)]; rfl, rfl⟩
  by_cases h2 : k = 2
  · subst h2
    by_cases hs : s = 1 ∨ s = 2 ∨ s = 3 ∨ s = 4
    · rcases hs with rfl | rfl | rfl | rfl
      · refine gzU ?_
        refine t_q (q_call rfl rfl fun l2 _ => slots_any 2 _ l2) rfl rfl rfl ?_
        simp only [slotsD, if_true, if_false, Int.reduceEq]
        refine gzU ?_
        exact k_ret [] rfl .refl (by exact zRes) ⟨rfl, rfl⟩
      · refine gzU ?_
        refine t_q (q_call rfl rfl fun l2 _ => slots_any 2 _ l2) rfl rfl rfl ?_
        simp only [slotsD, if_true, if_false, Int.reduceEq]
        refine gzU ?_
        exact k_ret [] rfl .refl (by exact zRes) ⟨rfl, rfl⟩
      · refine gzU ?_
        refine t_q (q_call rfl rfl fun l2 _ => slots_any 2 _ l2) rfl rfl rfl ?_
        simp only [slotsD, if_true, if_false, Int.reduceEq]
        refine gzU ?_
        exact k_ret [] rfl .refl (by exact zRes) ⟨rfl, rfl⟩
      · refine gzU ?_
        refine t_q (q_call rfl rfl fun l2 _ => slots_any 2 _ l2) rfl rfl rfl ?_
        simp only [slotsD, if_true, if_false, Int.reduceEq]
        refine gzU ?_
        exact k_ret [] rfl .refl (by exact zRes) ⟨rfl, rfl⟩
    · refine gzU ?_
      refine t_q (q_call rfl rfl fun l2 _ => slots_any 2 _ l2) rfl rfl rfl ?_
      rw [show slotsD 2 s = 0 by unfold slotsD; rw [if_pos rfl, if_neg (by omega), if_neg (by omega), if_neg (by omega), if_neg (by omega)]]
      refine gzU ?_
      exact k_ret [] rfl .refl (by exact zRes) ⟨by unfold framesD; rw [if_neg (by omega), if_pos rfl, if_neg (by omega), if_neg (by omega), if_neg (by omega), if_neg (by omega)]; rfl, rfl⟩
  by_cases hk : k = 3 ∨ k = 4 ∨ k = 5 ∨ k = 6 ∨ k = 8 ∨ k = 9
  · have e : framesD k s = if s = 0 then 1 else 0 := by unfold framesD; rw [if_neg h1, if_neg h2, if_pos hk]
    rw [e]
    rcases hk with rfl | rfl | rfl | rfl | rfl | rfl
    · by_cases hs : s = 0
      · refine gzU ?_
        exact k_ret [] rfl .refl (by exact zRes) ⟨by rw [if_pos hs]; rfl, rfl⟩
      · refine gzU ?_
        exact k_ret [] rfl .refl (by exact zRes) ⟨by rw [if_neg hs]; rfl, rfl⟩
    · by_cases hs : s = 0
      · refine gzU ?_
        exact k_ret [] rfl .refl (by exact zRes) ⟨by rw [if_pos hs]; rfl, rfl⟩
      · refine gzU ?_
        exact k_ret [] rfl .refl (by exact zRes) ⟨by rw [if_neg hs]; rfl, rfl⟩
    · by_cases hs : s = 0
      · refine gzU ?_
        exact k_ret [] rfl .refl (by exact zRes) ⟨by rw [if_pos hs]; rfl, rfl⟩
      · refine gzU ?_
        exact k_ret [] rfl .refl (by exact zRes) ⟨by rw [if_neg hs]; rfl, rfl⟩
    · by_cases hs : s = 0
      · refine gzU ?_
        exact k_ret [] rfl .refl (by exact zRes) ⟨by rw [if_pos hs]; rfl, rfl⟩
      · refine gzU ?_
        exact k_ret [] rfl .refl (by exact zRes) ⟨by rw [if_neg hs]; rfl, rfl⟩
    · by_cases hs : s = 0
      · refine gzU ?_
        exact k_ret [] rfl .refl (by exact zRes) ⟨by rw [if_pos hs]; rfl, rfl⟩
      · refine gzU ?_
        exact k_ret [] rfl .refl (by exact zRes) ⟨by rw [if_neg hs]; rfl, rfl⟩
    · by_cases hs : s = 0
      · refine gzU ?_
        exact k_ret [] rfl .refl (by exact zRes) ⟨by rw [if_pos hs]; rfl, rfl⟩
      · refine gzU ?_
        exact k_ret [] rfl .refl (by exact zRes) ⟨by rw [if_neg hs]; rfl, rfl⟩
  · have e : framesD k s = 0 := by unfold framesD; rw [if_neg h1, if_neg h2, if_neg hk]
    rw [e]
    refine gzU ?_
    exact k_ret [] rfl .refl (by exact zRes) ⟨rfl, rfl⟩
theorem apart_any (kd fi n : Int) (o : ObT) (gb off : Nat) (cs : Array Value) (t : TypeId) (fz : Nat × Nat) (l : List Chunk) (hm : (gb, Obj.cells cs t fz) ∈ l) (hc : ∀ j, j < 9 → cs[off + j]? = (obC o)[j]?) :
    Fn Tryz.prog 139 [.int .i64 kd, .int .i64 fi, .int .i64 n, .pointer (some ⟨gb, off, none⟩)] l fun v l' => v = .bool (apartD kd fi n o) ∧ l' = l := by
  have c1 : cs[off + 1]? = some (.int .i64 o.kd) := hc 1 (by omega)
  have c3 : cs[off + 3]? = some (.int .i64 o.fi) := hc 3 (by omega)
  have c4 : cs[off + 4]? = some (.int .i64 o.fr) := hc 4 (by omega)
  refine fn_of_body Tryz.func139 rfl rfl fun E => ?_
  simp only [argF, Tryz.ntmps139]
  refine gzU ?_
  refine c_draw [(0, true), (1, true), (2, true), (3, true), (4, true), (5, true), (6, true), (7, true), (8, true), (9, true), (10, true), (11, true), (12, true)] [[], [], [], [2], [2, 3], [2, 3, 4], [], [6], [6, 7], [6, 7, 8], [0, 1, 2, 3, 4, 5, 6, 7, 8, 9], [0, 1, 2, 3, 4, 5, 6, 7, 8, 9, 10], [0, 1, 2, 3, 4, 5, 6, 7, 8, 9, 10, 11]] _ (by kernel_rfl) (by kernel_rfl) zAtt (fun _ h => h) ?_
  refine pzU ?_
  apply pl_q
  · exact q_call rfl rfl fun l2 hl => meet_any fi n o.fi o.fr l2
  · rfl
  · rfl
  · rfl
  cases hM : meetD fi n o.fi o.fr with
  | false =>
    refine pzU ?_
    refine gzU ?_
    exact k_ret [] rfl .refl (by exact zRes) ⟨by unfold apartD; rw [hM]; rfl, rfl⟩
  | true =>
    refine pzU ?_
    refine gzU ?_
    refine c_draw [(0, true), (1, true), (2, true), (3, true), (4, true), (5, true), (6, true), (7, true), (8, true), (9, true), (10, true), (11, true), (12, true), (13, true), (14, true), (15, true), (16, true), (17, true), (18, true)] [[], [0], [0, 1], [0, 1, 2], [0, 1, 2, 3], [0, 1, 2, 3, 4], [0, 1, 2, 3, 4, 5], [0, 1, 2, 3, 4, 5], [0, 1, 2, 3, 4, 5], [0, 1, 2, 3, 4, 5, 8], [0, 1, 2, 3, 4, 5, 8, 9], [0, 1, 2, 3, 4, 5, 8, 9, 10], [0, 1, 2, 3, 4, 5], [0, 1, 2, 3, 4, 5, 12], [0, 1, 2, 3, 4, 5, 12, 13], [0, 1, 2, 3, 4, 5, 12, 13, 14], [0, 1, 2, 3, 4, 5, 6, 7, 8, 9, 10, 11, 12, 13, 14, 15], [0, 1, 2, 3, 4, 5, 6, 7, 8, 9, 10, 11, 12, 13, 14, 15, 16], [0, 1, 2, 3, 4, 5, 6, 7, 8, 9, 10, 11, 12, 13, 14, 15, 16, 17]] _ (by kernel_rfl) (by kernel_rfl) zAtt (fun _ h => h) ?_
    refine pzU ?_
    by_cases h1 : o.kd = 1
    · refine pzU ?_
      apply pl_gq
      · exact q_call rfl rfl fun l2 hl => within_any fi n o.fi o.fr l2
      all_goals try rfl
      cases hW : withinD fi n o.fi o.fr with
      | true =>
        refine pzU ?_
        refine gzU ?_
        exact k_ret [] rfl .refl (by exact zRes) ⟨by unfold apartD; rw [hM, decide_eq_true h1, hW]; rfl, rfl⟩
      | false =>
        refine pzU ?_
        refine gzU ?_
        refine c_draw [(0, true), (1, true), (2, true), (3, true), (4, true), (5, true), (6, true), (7, true), (8, true), (9, true), (10, true), (11, true), (12, true), (13, true), (14, true), (15, true)] [[], [0], [0, 1], [0, 1, 2], [0, 1, 2, 3], [0, 1, 2, 3, 4], [0, 1, 2, 3, 4, 5], [0, 1, 2], [0, 1, 2, 7], [0, 1, 2, 7, 8], [0, 1, 2, 7, 8, 9], [0, 1, 2], [0, 1, 2], [0, 1, 2, 3, 4, 5, 6, 7, 8, 9, 10, 11, 12], [0, 1, 2, 3, 4, 5, 6, 7, 8, 9, 10, 11, 12, 13], [0, 1, 2, 3, 4, 5, 6, 7, 8, 9, 10, 11, 12, 13, 14]] _ (by kernel_rfl) (by kernel_rfl) zAtt (fun _ h => h) ?_
        by_cases h5 : kd = 1
        · refine pzU ?_
          apply pl_gq
          · exact q_call rfl rfl fun l2 hl => within_any o.fi o.fr fi n l2
          all_goals try rfl
          refine pzU ?_
          refine gzU ?_
          exact k_ret [] rfl .refl (by exact zRes) ⟨by unfold apartD; rw [hM, decide_eq_true h1, hW, decide_eq_true h5]; rfl, rfl⟩
        · refine pzU ?_
          refine gzU ?_
          exact k_ret [] rfl .refl (by exact zRes) ⟨by unfold apartD; rw [hM, decide_eq_true h1, hW, decide_eq_false h5]; rfl, rfl⟩
    · refine pzU ?_
      refine gzU ?_
      refine c_draw [(0, true), (1, true), (2, true), (3, true), (4, true), (5, true), (6, true), (7, true), (8, true), (9, true), (10, true), (11, true), (12, true), (13, true), (14, true), (15, true)] [[], [0], [0, 1], [0, 1, 2], [0, 1, 2, 3], [0, 1, 2, 3, 4], [0, 1, 2, 3, 4, 5], [0, 1, 2], [0, 1, 2, 7], [0, 1, 2, 7, 8], [0, 1, 2, 7, 8, 9], [0, 1, 2], [0, 1, 2], [0, 1, 2, 3, 4, 5, 6, 7, 8, 9, 10, 11, 12], [0, 1, 2, 3, 4, 5, 6, 7, 8, 9, 10, 11, 12, 13], [0, 1, 2, 3, 4, 5, 6, 7, 8, 9, 10, 11, 12, 13, 14]] _ (by kernel_rfl) (by kernel_rfl) zAtt (fun _ h => h) ?_
      by_cases h5 : kd = 1
      · refine pzU ?_
        apply pl_gq
        · exact q_call rfl rfl fun l2 hl => within_any o.fi o.fr fi n l2
        all_goals try rfl
        refine pzU ?_
        refine gzU ?_
        exact k_ret [] rfl .refl (by exact zRes) ⟨by unfold apartD; rw [hM, decide_eq_false h1, decide_eq_true h5]; rfl, rfl⟩
      · refine pzU ?_
        refine gzU ?_
        exact k_ret [] rfl .refl (by exact zRes) ⟨by unfold apartD; rw [hM, decide_eq_false h1, decide_eq_false h5]; rfl, rfl⟩
theorem next_any (b : Nat) (S : ArT) (lq : List Chunk) (hA : IsA b S lq) (f : Int) (l : List Chunk) (hsub : ∀ c, c ∈ lq → c ∈ l) :
    Fn Tryz.prog 140 [.pointer (some ⟨b, 0, none⟩), .int .i64 f] l fun v l' => v = .int .i64 (nextD S f) ∧ l' = l := by
  obtain ⟨hok, v, cs, rfl, ho⟩ := hA
  have hm := hsub _ (.head _)
  have c0 := arL_n S.n S.g v
  have hn1 := hok.n1
  have hn2 := hok.n2
  refine fn_of_body Tryz.func140 rfl rfl fun E => ?_
  simp only [argF, Tryz.ntmps140]
  refine gzU ?_
  by_cases h1 : f < 0
  · refine gzU ?_
    exact k_ret [] rfl .refl (by exact zRes) ⟨by unfold nextD; rw [if_pos h1]; rfl, rfl⟩
  by_cases h2 : f ≥ S.n
  · refine gzU ?_
    exact k_ret [] rfl .refl (by exact zRes) ⟨by unfold nextD; rw [if_neg h1, if_pos h2]; rfl, rfl⟩
  obtain ⟨j, rfl⟩ : ∃ j : Nat, f = j := ⟨f.toNat, by omega⟩
  have hj : j < 64 := by omega
  have cg := arL_g S.n S.g v hj
  have hg := hok.g1 j
  by_cases h3 : (j : Int) + 1 + 64 * S.g j > 65535
  · refine gzU ?_
    exact k_ret [] rfl .refl (by exact zRes) ⟨by unfold nextD; rw [if_neg h1, if_neg h2, Int.toNat_natCast, if_pos h3]; rfl, rfl⟩
  · refine gzU ?_
    exact k_ret [] rfl .refl (by exact zRes) ⟨by unfold nextD; rw [if_neg h1, if_neg h2, Int.toNat_natCast, if_neg h3]; rfl, rfl⟩
def itm (os : OL) : List (ObT × Nat) := os.zipIdx
theorem itm_get (os : OL) (k : Nat) : (itm os)[k]? = os[k]?.map fun o => (o, k) := by
  unfold itm; rw [List.getElem?_zipIdx]; simp
theorem itm_len (os : OL) : (itm os).length = os.length := List.length_zipIdx
theorem itm_take {os : OL} {k : Nat} {o : ObT} (h : os[k]? = some o) : (itm os).take (k + 1) = (itm os).take k ++ [(o, k)] := by
  rw [List.take_add_one, itm_get, h]; rfl
theorem itm_pre {os : OL} {pre : List (ObT × Nat)} {x : ObT × Nat} (h : pre ++ [x] <+: itm os) : os[x.2]? = some x.1 ∧ x.2 = pre.length ∧ pre = (itm os).take x.2 := by
  obtain ⟨r, hr⟩ := h
  have h1 : (itm os)[pre.length]? = some x := by rw [← hr]; simp
  rw [itm_get] at h1
  cases ho : os[pre.length]? with
  | none => rw [ho] at h1; simp at h1
  | some o =>
    rw [ho] at h1
    have : x = (o, pre.length) := by simpa using h1.symm
    subst this
    refine ⟨ho, rfl, ?_⟩
    show pre = (itm os).take pre.length
    rw [← hr, List.append_assoc, List.take_left' rfl]
abbrev xB (B : Nat) (b : Option Addr) : Chunk := (B, .cells #[.pointer b] 122 (0, 0))
abbrev rowV (gb : Nat) (v : Value) (os : OL) : Prop := v = .slice none 0 0 ∧ os.length = 0 ∨ ∃ cap, v = .slice (some ⟨gb, 0, none⟩) os.length cap
theorem each_iter (B b : Nat) (n : Int) (g : Nat → Int) (v : Value) (os : OL) (gb : Nat) (hv : rowV gb v os) (hn : os.length ≤ 900000) :
    IterS Tryz.prog 173 [.pointer (some ⟨B, 0, none⟩)] (fun x : ObT × Nat => [.int .i64 (x.2 : Nat), .pointer (some ⟨gb, x.2 * 9, none⟩)]) (fun xs => xs = itm os) (fun pre => pre <+: itm os)
      (fun _ l => xB B (some ⟨b, 0, none⟩) ∈ l ∧ arC b n g v ∈ l) := by
  refine ⟨fun r I Ix G0 hneed hY l G hG h0 => ?_⟩
  obtain ⟨p, cap, rfl, hp⟩ : ∃ p cap, v = .slice p os.length cap ∧ (0 < os.length → p = some ⟨gb, 0, none⟩) := by
    rcases hv with ⟨h, h0⟩ | ⟨cap, h⟩
    · exact ⟨none, 0, by rw [h, h0], fun h => by omega⟩
    · exact ⟨_, cap, h, fun _ => rfl⟩
  obtain ⟨n1, n2⟩ := hneed _ _ G hG h0
  have cl := arL_l n g (.slice p os.length cap)
  refine fn_of_body Tryz.func173 rfl rfl fun E => ?_
  simp only [argF, Tryz.ntmps173]
  refine gzU ?_
  refine k_loop (α := Nat × List Chunk) (fun x => [(0, .func (.yield r) #[] #[]), (1, .pointer (some ⟨B, 0, none⟩)), (10, .int .i64 os.length), (11, .int .i64 x.1)]) (fun x => x.2 ++ G) (fun x => x.1 ≤ os.length ∧ I ((itm os).take x.1) x.2) (fun x => os.length - x.1) (0, l) ⟨Nat.zero_le _, h0⟩ ⟨rfl, rfl, rfl, rfl, trivial⟩ .refl ?_
  clear n1 n2
  rintro ⟨k, l⟩ ⟨hk, hI⟩
  simp only at hk hI ⊢
  obtain ⟨n1, n2⟩ := hneed _ _ G hG hI
  by_cases hlt : k < os.length
  · obtain ⟨o, ho⟩ : ∃ o, os[k]? = some o := ⟨_, List.getElem?_eq_getElem hlt⟩
    have hpp := hp (by omega)
    subst hpp
    refine gzU ?_
    have hy := hY ((itm os).take k) (o, k) l G hG hI (by rw [← itm_take ho]; exact List.take_prefix _ _)
    refine t_e (e_yield rfl rfl hy) rfl rfl rfl ?_
    rintro v l' ⟨l1, rfl, ⟨rfl, hI'⟩ | ⟨rfl, hx⟩⟩
    · refine gzU ?_
      exact k_next (k + 1, l1) ⟨by simp only; omega, by simp only; rw [itm_take ho]; exact hI'⟩ (by simp only; omega) ⟨rfl, rfl, rfl, rfl, trivial⟩ .refl
    · refine gzU ?_
      exact k_ret [] rfl .refl (by exact zRes) ⟨l1, rfl, .inr ⟨_, by rw [← itm_take ho]; exact List.take_prefix _ _, hx⟩⟩
  · obtain rfl : k = os.length := by omega
    rw [← itm_len, List.take_length] at hI
    refine gzU ?_
    exact k_ret [] rfl .refl (by exact zRes) ⟨l, rfl, .inl ⟨_, rfl, hI⟩⟩
abbrev inC (B : Nat) (x : Int) : Chunk := (B, .cells #[.int .i64 x] 3 (0, 0))
abbrev obK (B : Nat) (o : ObT) : Chunk := (B, .cells (List.toArray (obC o)) 68 (0, 0))
def atO (os : OL) (id : Int) : Option Nat := os.findIdx? fun o => decide (o.id = id)
def atI (os : OL) (id : Int) : Int := match atO os id with | some k => (k : Int) | none => -1
theorem atO_some {os : OL} {id : Int} {k : Nat} (h : atO os id = some k) : ∃ o, os[k]? = some o ∧ o.id = id := by
  unfold atO at h
  rw [List.findIdx?_eq_some_iff_getElem] at h
  obtain ⟨h1, h2, _⟩ := h
  exact ⟨_, List.getElem?_eq_getElem h1, by simpa using h2⟩
theorem atI_none {os : OL} {id : Int} (h : atO os id = none) : atI os id = -1 := by unfold atI; rw [h]
theorem atI_some {os : OL} {id : Int} {k : Nat} (h : atO os id = some k) : atI os id = (k : Int) := by unfold atI; rw [h]
theorem rowV_of {e : Nat} {v : Value} {os : OL} {cs : List Chunk} (ho : OwnSl e 9 v os.length (ocs os) cs) : ∃ gb, rowV gb v os ∧ ∀ (k : Nat) (o : ObT), os[k]? = some o → ∃ sp, cs = [(gb, Obj.cells (List.toArray (ocs os ++ sp)) e (0, 0))] := by
  rcases ho.2 with ⟨rfl, h0, rfl⟩ | ⟨b, cap, sp, rfl, rfl, _⟩
  · exact ⟨0, .inl ⟨rfl, h0⟩, fun k o h => by have := (List.getElem?_eq_some_iff.1 h).1; omega⟩
  · exact ⟨b, .inr ⟨cap, rfl⟩, fun k o h => ⟨sp, rfl⟩⟩
def getD' (S : ArT) (id : Int) : ObT × Bool := match atO S.os id with
  | some k => (S.os.getD k obO, true)
  | none => (obO, false)
theorem ocs_snoc (pre : OL) (y : ObT) : ocs (pre ++ [y]) = ocs pre ++ obC y := by rw [ocs_app]; show _ ++ (obC y ++ []) = _; rw [List.append_nil]
def insD (os : OL) (o : ObT) : OL := os.takeWhile (fun x => decide (x.id ≤ o.id)) ++ o :: os.dropWhile (fun x => decide (x.id ≤ o.id))
def newO (S : ArT) (kd sz fi : Int) : ObT := ⟨nextD S fi, kd, sz, fi, framesD kd sz, 0, 0, 0, 0⟩
def addE (S : ArT) (kd sz fi : Int) : Int :=
  if framesD kd sz = 0 then 2 else if fi < 0 ∨ fi > S.n - framesD kd sz then 3
  else if (S.os.all fun o => apartD kd fi (framesD kd sz) o) = false then 16 else if nextD S fi = 0 then 11 else 0
def addD (S : ArT) (kd sz fi : Int) : (Int × Int) × ArT :=
  if addE S kd sz fi = 0 then ((nextD S fi, 0), { S with g := upd S.g fi.toNat (S.g fi.toNat + 1), os := insD S.os (newO S kd sz fi) }) else ((0, addE S kd sz fi), S)
theorem frames_rng (k s : Int) : 0 ≤ framesD k s ∧ framesD k s ≤ 64 := by
  unfold framesD
  repeat' split
  all_goals omega
theorem ins_at {os : OL} {o : ObT} {k : Nat} (hk : k ≤ os.length) (h1 : ∀ x ∈ os.take k, x.id ≤ o.id) (h2 : ∀ x ∈ os.drop k, ¬ x.id ≤ o.id) : insD os o = os.take k ++ o :: os.drop k := by
  have e : os = os.take k ++ os.drop k := (List.take_append_drop ..).symm
  have t1 : os.takeWhile (fun x => decide (x.id ≤ o.id)) = os.take k := by
    conv => lhs; rw [e]
    rw [List.takeWhile_append_of_pos fun x hx => by simpa using h1 x hx]
    cases hd : os.drop k with
    | nil => simp
    | cons y r =>
      rw [List.takeWhile_cons_of_neg, List.append_nil]
      simpa using h2 y (by rw [hd]; exact .head _)
  have t2 : os.dropWhile (fun x => decide (x.id ≤ o.id)) = os.drop k := by
    conv => lhs; rw [e]
    rw [List.dropWhile_append_of_pos fun x hx => by simpa using h1 x hx]
    cases hd : os.drop k with
    | nil => simp
    | cons y r =>
      rw [List.dropWhile_cons_of_neg]
      simpa using h2 y (by rw [hd]; exact .head _)
  unfold insD
  rw [t1, t2]
theorem asc_get {os : OL} (h : os.Pairwise fun x y => x.id < y.id) {i j : Nat} {x y : ObT} (hx : os[i]? = some x) (hy : os[j]? = some y) (hij : i < j) : x.id < y.id := by
  obtain ⟨h1, rfl⟩ := List.getElem?_eq_some_iff.1 hx
  obtain ⟨h2, rfl⟩ := List.getElem?_eq_some_iff.1 hy
  exact List.pairwise_iff_getElem.1 h i j h1 h2 hij
theorem ins_mem {os : OL} {o x : ObT} : x ∈ insD os o ↔ x = o ∨ x ∈ os := by
  unfold insD
  have e := List.takeWhile_append_dropWhile (p := fun x : ObT => decide (x.id ≤ o.id)) (l := os)
  conv => rhs; rw [← e]
  simp only [List.mem_append, List.mem_cons]
  constructor
  · rintro (h | h | h)
    · exact .inr (.inl h)
    · exact .inl h
    · exact .inr (.inr h)
  · rintro (h | h | h)
    · exact .inr (.inl h)
    · exact .inl h
    · exact .inr (.inr h)
theorem ins_len (os : OL) (o : ObT) : (insD os o).length = os.length + 1 := by
  unfold insD
  have e := congrArg List.length (List.takeWhile_append_dropWhile (p := fun x : ObT => decide (x.id ≤ o.id)) (l := os))
  rw [List.length_append] at e
  rw [List.length_append, List.length_cons]; omega
theorem dropW_gt {os : OL} (h : os.Pairwise fun x y => x.id < y.id) (a : Int) : ∀ x ∈ os.dropWhile (fun x => decide (x.id ≤ a)), a < x.id := by
  induction os with
  | nil => intro x hx; cases hx
  | cons y r ih =>
    obtain ⟨h1, h2⟩ := List.pairwise_cons.1 h
    intro x hx
    by_cases hy : y.id ≤ a
    · rw [List.dropWhile_cons_of_pos (by simpa using hy)] at hx
      exact ih h2 x hx
    · rw [List.dropWhile_cons_of_neg (by simpa using hy)] at hx
      rcases List.mem_cons.1 hx with rfl | hx
      · omega
      · have := h1 x hx; omega
theorem takeW_le {os : OL} (a : Int) : ∀ x ∈ os.takeWhile (fun x => decide (x.id ≤ a)), x.id ≤ a := by
  induction os with
  | nil => intro x hx; cases hx
  | cons y r ih =>
    intro x hx
    by_cases hy : y.id ≤ a
    · rw [List.takeWhile_cons_of_pos (by simpa using hy)] at hx
      rcases List.mem_cons.1 hx with rfl | hx
      · exact hy
      · exact ih x hx
    · rw [List.takeWhile_cons_of_neg (by simpa using hy)] at hx; cases hx
theorem ins_asc {os : OL} {o : ObT} (h : os.Pairwise fun x y => x.id < y.id) (hne : ∀ x ∈ os, x.id ≠ o.id) : (insD os o).Pairwise fun x y => x.id < y.id := by
  unfold insD
  have hT := (List.takeWhile_sublist (l := os) fun x : ObT => decide (x.id ≤ o.id))
  have hD := (List.dropWhile_sublist (l := os) fun x : ObT => decide (x.id ≤ o.id))
  refine List.pairwise_append.2 ⟨h.sublist hT, List.pairwise_cons.2 ⟨fun x hx => dropW_gt h o.id x hx, h.sublist hD⟩, fun x hx y hy => ?_⟩
  have h1 := takeW_le o.id x hx
  have h2 := hne x (hT.subset hx)
  rcases List.mem_cons.1 hy with rfl | hy
  · omega
  · have := dropW_gt h o.id y hy; omega
theorem next_pos {S : ArT} (hS : S.Ok) {f : Int} (h : nextD S f ≠ 0) : 0 ≤ f ∧ f < S.n ∧ nextD S f = f + 1 + 64 * S.g f.toNat ∧ nextD S f ≤ 65535 ∧ 1 ≤ nextD S f := by
  unfold nextD at *
  have := hS.g1 f.toNat
  split at h
  · exact absurd rfl h
  split at h
  · exact absurd rfl h
  split at h
  · exact absurd rfl h
  rename_i h1 h2 h3
  rw [if_neg h1, if_neg h2, if_neg h3]
  refine ⟨by omega, by omega, rfl, by omega, by omega⟩
theorem next_new {S : ArT} (hS : S.Ok) {f : Int} (h : nextD S f ≠ 0) : ∀ x ∈ S.os, x.id ≠ nextD S f := by
  intro x hx he
  obtain ⟨f0, f1, f2, _⟩ := next_pos hS h
  obtain ⟨a0, a1, c, c0, c1, c2⟩ := hS.num x hx
  have := hS.n2
  have e : x.fi = f := by omega
  subst e
  omega
theorem addE_zero {S : ArT} {kd sz fi : Int} (h : addE S kd sz fi = 0) : framesD kd sz ≠ 0 ∧ 0 ≤ fi ∧ fi ≤ S.n - framesD kd sz ∧ (S.os.all fun o => apartD kd fi (framesD kd sz) o) = true ∧ nextD S fi ≠ 0 := by
  unfold addE at h
  split at h
  · omega
  split at h
  · omega
  split at h
  · omega
  split at h
  · omega
  rename_i h1 h2 h3 h4
  exact ⟨h1, by omega, by omega, by simpa using h3, h4⟩
theorem add_ok {S : ArT} (hS : S.Ok) (kd sz fi : Int) : (addD S kd sz fi).2.Ok := by
  unfold addD
  split
  · rename_i h
    obtain ⟨h1, h2, h3, h4, h5⟩ := addE_zero h
    obtain ⟨f0, f1, f2, f3, f4⟩ := next_pos hS h5
    have hg := hS.g1 fi.toNat
    refine ⟨hS.n1, hS.n2, fun j => ?_, ins_asc hS.asc (next_new hS h5), fun x hx => ?_, fun x hx => ?_⟩
    · show 0 ≤ upd S.g fi.toNat (S.g fi.toNat + 1) j ∧ upd S.g fi.toNat (S.g fi.toNat + 1) j ≤ 1024
      by_cases e : j = fi.toNat
      · subst e; rw [upd_same]; omega
      · rw [upd_other _ _ _ _ e]; exact hS.g1 j
    · rcases ins_mem.1 hx with rfl | hx
      · exact ⟨f4, f3⟩
      · exact hS.rng x hx
    · show 0 ≤ x.fi ∧ x.fi < S.n ∧ ∃ c : Int, 0 ≤ c ∧ c < upd S.g fi.toNat (S.g fi.toNat + 1) x.fi.toNat ∧ _
      rcases ins_mem.1 hx with rfl | hx
      · exact ⟨f0, f1, S.g fi.toNat, hg.1, by rw [show (newO S kd sz fi).fi.toNat = fi.toNat from rfl, upd_same]; omega, f2⟩
      · obtain ⟨a0, a1, c, c0, c1, c2⟩ := hS.num x hx
        refine ⟨a0, a1, c, c0, ?_, c2⟩
        by_cases e : x.fi.toNat = fi.toNat
        · rw [e, upd_same]; rw [e] at c1; omega
        · rw [upd_other _ _ _ _ e]; exact c1
  · exact hS
end Go.Proofs.YtcjknmpogkofpaaGreat.Ar
