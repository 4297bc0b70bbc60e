/- Keeping a part of the blocks; ranges over functions, and the contracts of iterators. Laws of my own, no program's. -/
import Derived.Test.YtmmohklaiffkmaaS4
set_option linter.unusedVariables false
set_option linter.unusedSimpArgs false
namespace Go.Proofs.Ytmmohklaiffkmaa
open Go.RowKit

/-- one block taken out of a list -/
inductive Pick : List Chunk → Chunk → List Chunk → Prop
  | here {c : Chunk} {l : List Chunk} : Pick (c :: l) c l
  | there {c d : Chunk} {l l' : List Chunk} : Pick l c l' → Pick (d :: l) c (d :: l')
theorem Pick.perm {l l' : List Chunk} {c : Chunk} (h : Pick l c l') : l.Perm (c :: l') := by
  induction h with
  | here => exact List.Perm.refl _
  | there _ ih => exact (List.Perm.cons _ ih).trans (List.Perm.swap _ _ _)
/-- a part of the blocks, in whatever row -/
structure Keep (L l : List Chunk) : Prop where
  ex : ∃ g : List Chunk, L.Perm (g ++ l)
theorem Keep.refl {l : List Chunk} : Keep l l := ⟨[], List.Perm.refl _⟩
theorem Keep.pick {l l1 l' : List Chunk} {c : Chunk} (h : Pick l c l1) (k : Keep l1 l') : Keep l (c :: l') := by
  obtain ⟨g, hg⟩ := k.ex
  exact ⟨g, h.perm.trans ((List.Perm.cons _ hg).trans List.perm_middle.symm)⟩
theorem Keep.drop {l l' : List Chunk} {c : Chunk} (k : Keep l l') : Keep (c :: l) l' := by
  obtain ⟨g, hg⟩ := k.ex
  exact ⟨c :: g, List.Perm.cons c hg⟩
theorem Keep.of_perm {l l' : List Chunk} (p : l.Perm l') : Keep l l' := ⟨[], p⟩
theorem Keep.right {L l l' : List Chunk} (k : Keep L l) (p : l.Perm l') : Keep L l' := by
  obtain ⟨g, hg⟩ := k.ex
  exact ⟨g, hg.trans (List.Perm.append_left g p)⟩
theorem Keep.trans {L l l' : List Chunk} (k : Keep L l) (k' : Keep l l') : Keep L l' := by
  obtain ⟨g, hg⟩ := k.ex
  obtain ⟨g', hg'⟩ := k'.ex
  exact ⟨g ++ g', by rw [List.append_assoc]; exact hg.trans (List.Perm.append_left g hg')⟩
/-- a block is put behind a part -/
theorem Keep.mid {L M l : List Chunk} {c : Chunk} (k : Keep L (c :: (M ++ l))) : Keep L (M ++ c :: l) := k.right List.perm_middle.symm
theorem Keep.sat {E W : World} {l l' : List Chunk} (h : Keep l l') : Sat E l W → Sat E l' W := by
  obtain ⟨g, hg⟩ := h.ex
  intro hs
  exact (hs.perm hg).sub (List.sublist_append_right _ _)

section
variable {P : Program} {ro : Option Nat} {N : Nat} {E : World} {ops : Array Oper} {Q : Exit → Act → World → Prop} {rest : List Oper} {fr fr' : Fr} {ds : List Deferred} {l l' : List Chunk} {K : Value → List Chunk → Prop} {e : Exit}
theorem s_keep (p : Keep l l') (h : OpsS P ro N E ops Q rest fr ds l') : OpsS P ro N E ops Q rest fr ds l := ⟨fun a W hf hds hs => h.run a W hf hds (p.sat hs)⟩
theorem c_keep {c : Code} (p : Keep l l') (h : CodeS P ro N E c Q fr ds l') : CodeS P ro N E c Q fr ds l := ⟨fun a W hf hds hs => h.run a W hf hds (p.sat hs)⟩
theorem p_keep (p : Keep l l') (h : PostS N E Q e fr ds l') : PostS N E Q e fr ds l := ⟨fun a W hf hds hs => h.run a W hf hds (p.sat hs)⟩
theorem Fn.keep {f : FuncId} {args : List Value} (p : Keep l l') (h : Fn P f args l' K) : Fn P f args l K := ⟨fun E W hs => h.run E W (p.sat hs)⟩
theorem k_loop {α : Type} {c : Code} (fx : α → Fr) (lx : α → List Chunk) (pre : α → Prop) (μ : α → Nat) (x₀ : α) (h0 : pre x₀) (hf0 : FSub (fx x₀) fr) (hl0 : Keep l (lx x₀))
    (round : ∀ x, pre x → CodeS P ro N E c (Exit.then (LoopK N E fx ds lx pre μ x) Q) (fx x) ds (lx x)) : CodeS P ro N E (.loop c) Q fr ds l := c_keep hl0 (c_loop fx lx pre μ x₀ h0 hf0 (List.Perm.refl _) round)
theorem k_next {α : Type} {fx : α → Fr} {lx : α → List Chunk} {pre : α → Prop} {μ : α → Nat} {x : α} (y : α) (h1 : pre y) (h2 : μ y < μ x) (h3 : FSub (fx y) fr) (h4 : Keep l (lx y)) : PostS N E (Exit.then (LoopK N E fx ds lx pre μ x) Q) .normal fr ds l :=
  p_keep h4 (p_loop y h1 h2 h3 (List.Perm.refl _))
theorem k_ret {fn : Func} {rs : List ResultVar} {vs : List Value} (Ds : List Nat) (hr : fn.results = rs.toArray) (hp : Keep l (Ds.map markC ++ l')) (h : ResS P fr l' rs vs) (hk : K (tup vs) l') :
    PostS N E (bodyPostM Fence.wide 0 P fn (RK E K)) .ret fr (Ds.map markD) l := p_keep hp (p_ret Ds hr (List.Perm.refl _) h hk)
theorem RK.keep {E : World} {K : Value → List Chunk → Prop} {l2 l' : List Chunk} {v : Value} {W : World} (p : Keep l2 l') (hk : K v l') (hs : Sat E l2 W) : RK E K (.returned v) W := ⟨v, l', rfl, hk, p.sat hs⟩
/-- the results are read where more is held than is handed on -/
theorem k_ret2 {fn : Func} {rs : List ResultVar} {vs : List Value} (Ds : List Nat) (l2 : List Chunk) (hr : fn.results = rs.toArray) (hp : Keep l (Ds.map markC ++ l2)) (h : ResS P fr l2 rs vs) (p2 : Keep l2 l') (hk : K (tup vs) l') :
    PostS N E (bodyPostM Fence.wide 0 P fn (RK E K)) .ret fr (Ds.map markD) l := by
  refine p_keep hp ⟨fun a W hf hds hs => ?_⟩
  show LeavesInM Fence.wide 0 P fn a.tmps (RK E K) a.defers .returning W
  rw [hds]
  exact leaves_sl (v := tup vs) Ds W hs fun W' hs' => ⟨results_run hr hf hs' h, RK.keep p2 hk hs'⟩
end

/-- a loop whose rounds leave marks -/
def LoopD (N : Nat) (E : World) {α : Type} (fx : α → Fr) (dx : α → List Deferred) (lx : α → List Chunk) (pre : α → Prop) (μ : α → Nat) (x : α) (a : Act) (W : World) : Prop :=
  ∃ y, pre y ∧ μ y < μ x ∧ FSat N (fx y) a ∧ a.defers = dx y ∧ Sat E (lx y) W
section
variable {P : Program} {ro : Option Nat} {N : Nat} {E : World} {Q : Exit → Act → World → Prop} {fr : Fr} {ds : List Deferred} {l : List Chunk}
theorem d_loop {α : Type} {c : Code} (fx : α → Fr) (dx : α → List Deferred) (lx : α → List Chunk) (pre : α → Prop) (μ : α → Nat) (x₀ : α) (h0 : pre x₀) (hf0 : FSub (fx x₀) fr) (hd0 : ds = dx x₀) (hl0 : Keep l (lx x₀))
    (round : ∀ x, pre x → CodeS P ro N E c (Exit.then (LoopD N E fx dx lx pre μ x) Q) (fx x) (dx x) (lx x)) : CodeS P ro N E (.loop c) Q fr ds l := by
  refine ⟨fun a W hf hds hs => ?_⟩
  refine wpIn_loop (fun a W => ∃ x, pre x ∧ FSat N (fx x) a ∧ a.defers = dx x ∧ Sat E (lx x) W) (fun a W => leastN fun n => ∃ x, pre x ∧ FSat N (fx x) a ∧ a.defers = dx x ∧ Sat E (lx x) W ∧ μ x = n) ⟨x₀, h0, hf.sub hf0.spec, hds.trans hd0, hl0.sat hs⟩ ?_
  intro a W hI
  have hex : ∃ n, ∃ x, pre x ∧ FSat N (fx x) a ∧ a.defers = dx x ∧ Sat E (lx x) W ∧ μ x = n := by
    obtain ⟨x, h1, h2, h3, h4⟩ := hI
    exact ⟨_, x, h1, h2, h3, h4, rfl⟩
  obtain ⟨⟨x, h1, h2, h3, h4, h5⟩, _⟩ := leastN_spec hex
  refine wpIn_mono ((round x h1).run a W h2 h3 h4) ?_
  intro e a' W' hq
  cases e with
  | normal =>
    obtain ⟨y, k1, k2, k3, k4, k5⟩ := hq
    refine ⟨⟨y, k1, k3, k4, k5⟩, ?_⟩
    exact Nat.lt_of_le_of_lt ((leastN_spec (p := fun n => ∃ x, pre x ∧ FSat N (fx x) a' ∧ a'.defers = dx x ∧ Sat E (lx x) W' ∧ μ x = n) ⟨_, y, k1, k3, k4, k5, rfl⟩).2 (μ y) ⟨y, k1, k3, k4, k5, rfl⟩) (by rw [← h5]; exact k2)
  | _ => exact hq
theorem d_next {α : Type} {fx : α → Fr} {dx : α → List Deferred} {lx : α → List Chunk} {pre : α → Prop} {μ : α → Nat} {x : α} (y : α) (h1 : pre y) (h2 : μ y < μ x) (h3 : FSub (fx y) fr) (hd : ds = dx y) (h4 : Keep l (lx y)) : PostS N E (Exit.then (LoopD N E fx dx lx pre μ x) Q) .normal fr ds l :=
  ⟨fun a W hf hds hs => ⟨y, h1, h2, hf.sub h3.spec, hds.trans hd, h4.sat hs⟩⟩
end

/-- an iterator: what it hands to yield, one by one; S: all that came when it ended of itself; Sp: what came so far -/
structure IterS (P : Program) (gf : Nat) (lb : List Value) {α : Type} (enc : α → List Value) (S Sp : List α → Prop) (Need : List α → List Chunk → Prop) : Prop where
  run : ∀ (r : Nat) (I Ix : List α → List Chunk → Prop) (G0 : List Chunk), (∀ pre l G, (∀ c, c ∈ G0 → c ∈ G) → I pre l → Need pre (l ++ G)) →
    (∀ pre x l G, (∀ c, c ∈ G0 → c ∈ G) → I pre l → Sp (pre ++ [x]) → YieldS P r (enc x) (l ++ G) (fun v l' => ∃ l1, l' = l1 ++ G ∧ ((v = .bool true ∧ I (pre ++ [x]) l1) ∨ (v = .bool false ∧ Ix (pre ++ [x]) l1)))) →
    ∀ l G, (∀ c, c ∈ G0 → c ∈ G) → I [] l → Fn P gf (.func (.yield r) #[] #[] :: lb) (l ++ G) (fun v l' => ∃ l1, l' = l1 ++ G ∧ ((∃ xs, S xs ∧ I xs l1) ∨ (∃ pre, Sp pre ∧ Ix pre l1)))

/-- what a round leaves -/
def RoundK {α : Type} (I : List α → List Chunk → Prop) (Ix : Code → List α → List Chunk → Prop) (xs : List α) (r : Nat) (rec : LoopState → Option Code → Loop) (T : List Chunk) : Value → List Chunk → Prop := fun v l' =>
  (v = .bool true ∧ ∃ l1, I xs l1 ∧ l' = l1 ++ (r, .loop (rec .ready none)) :: T) ∨ (v = .bool false ∧ ∃ c l1, Ix c xs l1 ∧ l' = l1 ++ (r, .loop (rec .done (some c))) :: T)
def recOf (fn : FuncId) (tmps : Array Value) (ps : Array Tmp) (assign body : Code) (D : Nat) (st : LoopState) (pe : Option Code) : Loop := { state := st, pending := pe, fn, tmps, params := ps, assign, body, defers := D }
def BeginK (P : Program) (r : Nat) (body : Code) (Q : Exit → Act → World → Prop) : Act → World → Prop := fun a w => ∃ w2, (Instr.beginRound r).run P w = .ok () w2 ∧ body.wpIn (Fw (some r)) 0 P Q a w2
def putPs : List Nat → List Value → Fr → Fr
  | p :: ps, v :: vs, fr => putPs ps vs ((p, v) :: fr)
  | _, _, fr => fr
theorem fsat_puts {N : Nat} : ∀ (ps : List Nat) (vs : List Value) (fr : Fr) (a : Act) (ds : List Deferred), FSat N fr a → ps.all (fun p => Nat.blt p N) = true →
    FSat N (putPs ps vs fr) { tmps := (ps.zip vs).foldl (fun t (p, v) => t.setIfInBounds p v) a.tmps, defers := ds }
  | [], vs, fr, a, ds, hf, _ => ⟨hf.size, hf.at_⟩
  | p :: ps, [], fr, a, ds, hf, _ => ⟨hf.size, hf.at_⟩
  | p :: ps, v :: vs, fr, a, ds, hf, hb => by
    simp only [List.all_cons, Bool.and_eq_true] at hb
    have h1 : FSat N ((p, v) :: fr) (a.put (some p) v) := FSat.put (d := some p) hf v hb.1
    exact fsat_puts ps vs _ _ ds h1 hb.2

section
variable {P : Program} {N : Nat} {E : World} {Q : Exit → Act → World → Prop} {fr : Fr} {ds : List Deferred} {L : List Chunk} {α : Type} {r : Nat} {fn : FuncId} {tmps : Array Value} {ps : Array Tmp} {assign body : Code} {D : Nat} {T : List Chunk} {I : List α → List Chunk → Prop} {Ix : Code → List α → List Chunk → Prop} {xs : List α}

theorem p_begin {L' : List Chunk} {Qx : Exit → Act → World → Prop} (hu : Upd L r (.loop (recOf fn tmps ps assign body D .ready none)) (.loop (recOf fn tmps ps assign body D .busy none)) L') (h : CodeS P (some r) N E body Q fr ds L') : PostS N E (Exit.then (BeginK P r body Q) Qx) .normal fr ds L :=
  ⟨fun a W hf hds hs => ⟨_, run_beginRound (hs.has _ hu.mem) rfl, h.run a _ hf hds (hs.upd hu)⟩⟩
theorem upd_mid (l : List Chunk) (b : Nat) (o o' : Obj) (T : List Chunk) : Upd (l ++ (b, o) :: T) b o o' (l ++ (b, o') :: T) := by
  induction l with
  | nil => exact .here
  | cons c l ih => exact .there ih
theorem p_round (l1 : List Chunk) (hk : Keep L (l1 ++ (r, .loop (recOf fn tmps ps assign body D .busy none)) :: T)) (hI : I xs l1) : PostS N E (roundPost P r (RK E (RoundK I Ix xs r (recOf fn tmps ps assign body D) T))) .normal fr ds L :=
  ⟨fun a W hf hds hs => by
    have hs := hk.sat hs
    have hm : W.heap[r]? = some (.loop (recOf fn tmps ps assign body D .busy none)) := hs.has (r, _) (by simp)
    refine ⟨_, _, run_endRound none hm, _, _, rfl, .inl ⟨rfl, l1, hI, rfl⟩, hs.upd (upd_mid _ _ _ _ _)⟩⟩
theorem p_round_ret (l1 : List Chunk) (hk : Keep L (l1 ++ (r, .loop (recOf fn tmps ps assign body D .busy none)) :: T)) (hI : Ix .ret xs l1) : PostS N E (roundPost P r (RK E (RoundK I Ix xs r (recOf fn tmps ps assign body D) T))) .ret fr ds L :=
  ⟨fun a W hf hds hs => by
    have hs := hk.sat hs
    have hm : W.heap[r]? = some (.loop (recOf fn tmps ps assign body D .busy none)) := hs.has (r, _) (by simp)
    refine ⟨_, _, run_endRound (some .ret) hm, _, _, rfl, .inr ⟨rfl, .ret, l1, hI, rfl⟩, hs.upd (upd_mid _ _ _ _ _)⟩⟩
theorem p_round_exit {k : Nat} (l1 : List Chunk) (hk : Keep L (l1 ++ (r, .loop (recOf fn tmps ps assign body D .busy none)) :: T)) (hI : Ix (.exit k) xs l1) : PostS N E (roundPost P r (RK E (RoundK I Ix xs r (recOf fn tmps ps assign body D) T))) (.exit k) fr ds L :=
  ⟨fun a W hf hds hs => by
    have hs := hk.sat hs
    have hm : W.heap[r]? = some (.loop (recOf fn tmps ps assign body D .busy none)) := hs.has (r, _) (by simp)
    refine ⟨_, _, run_endRound (some (.exit k)) hm, _, _, rfl, .inr ⟨rfl, .exit k, l1, hI, rfl⟩, hs.upd (upd_mid _ _ _ _ _)⟩⟩
end

section
variable {P : Program} {N : Nat} {E : World} {Q : Exit → Act → World → Prop} {fr : Fr} {ds : List Deferred} {L : List Chunk} {α : Type} {g : Operand} {ps : List Tmp} {assign body : Code} {gf : Nat} {lb : List Value} {enc : α → List Value} {S Sp : List α → Prop} {Need : List α → List Chunk → Prop}

/-- one round, seen from the iterator -/
theorem yield_of {r : Nat} {fn : FuncId} {tmps : Array Value} {D : Nat} {T : List Chunk} {I : List α → List Chunk → Prop} {Ix : Code → List α → List Chunk → Prop} {pre : List α} {x : α} {l : List Chunk} (hps : (enc x).length = ps.length) (hpb : ps.all (fun p => Nat.blt p N) = true) (hf : ∀ a : Act, a.tmps = tmps → FSat N fr a)
    (h : ∀ E, CodeS P (some r) N E assign (Exit.then (BeginK P r body (roundPost P r (RK E (RoundK I Ix (pre ++ [x]) r (recOf fn tmps ps.toArray assign body D) T)))) (fun _ _ _ => False)) (putPs ps (enc x) fr) [] (l ++ (r, .loop (recOf fn tmps ps.toArray assign body D .ready none)) :: T)) :
    YieldS P r (enc x) (l ++ (r, .loop (recOf fn tmps ps.toArray assign body D .ready none)) :: T) (RoundK I Ix (pre ++ [x]) r (recOf fn tmps ps.toArray assign body D) T) := by
  refine ⟨fun E W hs => ?_⟩
  have hm : W.heap[r]? = some (.loop (recOf fn tmps ps.toArray assign body D .ready none)) := hs.has (r, _) (by simp)
  refine ⟨fn, _, assign, body, run_yield hm (by simp [recOf, hps]), roundIn_of_wpIn trivial ?_⟩
  refine (h E).run _ W ?_ rfl hs
  have := fsat_puts ps (enc x) fr { tmps := tmps, defers := [] } [] (hf _ rfl) hpb
  have e : (Array.zip ps.toArray (enc x).toArray) = (ps.zip (enc x)).toArray := by simp
  show FSat N _ { tmps := (Array.zip ps.toArray (enc x).toArray).foldl (fun t (p, v) => t.setIfInBounds p v) tmps, defers := [] }
  rw [e, List.foldl_toArray]
  exact this

/-- a range over a function -/
theorem c_range (hg : ev fr g = some (.func (.func gf) #[] lb.toArray)) [en : EN P gf] (hit : IterS P gf lb enc S Sp Need) (hps : ∀ x, (enc x).length = ps.length) (hpb : ps.all (fun p => Nat.blt p N) = true)
    (I : List α → List Chunk → Prop) (Ix : Code → List α → List Chunk → Prop) (l0 G : List Chunk) (hneed : ∀ pre l X, (∀ c, c ∈ G → c ∈ X) → I pre l → Need pre (l ++ X)) (hL : Keep L (l0 ++ G)) (h0 : I [] l0)
    (hround : ∀ (E : World) (r : Nat) (rec : LoopState → Option Code → Loop) (pre : List α) (x : α) (l T : List Chunk), (∃ fn tmps D, rec = recOf fn tmps ps.toArray assign body D) → (∀ c, c ∈ G → c ∈ T) → I pre l → Sp (pre ++ [x]) →
      CodeS P (some r) N E assign (Exit.then (BeginK P r body (roundPost P r (RK E (RoundK I Ix (pre ++ [x]) r rec T)))) (fun _ _ _ => False)) (putPs ps (enc x) fr) [] (l ++ (r, .loop (rec .ready none)) :: T))
    (hdone : ∀ (D : Nat) (xs : List α) (l : List Chunk), S xs → I xs l → PostS N E Q .normal fr (markD D :: ds) (markC D :: (l ++ G)))
    (hstop : ∀ (D : Nat) (c : Code) (pre : List α) (l : List Chunk), Sp pre → Ix c pre l → CodeS P none N E c Q fr (markD D :: ds) (markC D :: (l ++ G))) :
    CodeS P none N E (.rangeFunc g ps.toArray assign body) Q fr ds L := by
  refine ⟨fun a W hf hds hs => wpIn_rangeFunc ?_⟩
  intro fn hfn
  have hs := hL.sat hs
  obtain ⟨rec, hrec⟩ : ∃ rec, rec = recOf fn a.tmps ps.toArray assign body W.heap.size := ⟨_, rfl⟩
  obtain ⟨W1, hW1⟩ : ∃ W1, (W.alloc (.deferred (some []))).alloc (.loop (rec .ready none)) = W1 := ⟨_, rfl⟩
  have hs1 : Sat E ((W.heap.size + 1, .loop (rec .ready none)) :: (W.heap.size, .deferred (some [])) :: (l0 ++ G)) W1 := by
    have := (hs.alloc (.deferred (some []))).alloc (.loop (rec .ready none))
    rw [World.size_alloc, hW1] at this
    exact this
  have hev := hf.agrees g _ hg
  refine ⟨W.heap.size + 1, [markD W.heap.size], W1, { target := .fn (.func gf) lb.toArray, args := #[.func (.yield (W.heap.size + 1)) #[] #[]] }, W1, gf, #[.func (.yield (W.heap.size + 1)) #[] #[]] ++ lb.toArray, W1, ?_, ?_, fun _ _ => trivial, ?_, fun h => (by cases h), ?_⟩
  · rw [← hW1, hrec]; exact run_enterLoop_outer _ _ _ _ _
  · simp only [resolve, hev]
    simp [Deferred.ofValue, Act.eval]
  · simp [invoke, en.out]
  · have hR := hit.run (W.heap.size + 1)
      (fun pre l => ∃ l1, I pre l1 ∧ l = l1 ++ [(W.heap.size + 1, .loop (rec .ready none)), markC W.heap.size])
      (fun pre l => ∃ c l1, Ix c pre l1 ∧ l = l1 ++ [(W.heap.size + 1, .loop (rec .done (some c))), markC W.heap.size])
      G
      (fun pre l G' hG ⟨l1, h1, h2⟩ => by rw [h2, List.append_assoc]; exact hneed _ _ _ (fun c hc => List.mem_append_right _ (hG c hc)) h1)
      (fun pre x l G' hG ⟨l1, h1, h2⟩ hsp => by
        subst h2
        have hy := yield_of (P := P) (N := N) (fr := fr) (assign := assign) (body := body) (ps := ps) (enc := enc) (r := W.heap.size + 1) (fn := fn) (tmps := a.tmps) (D := W.heap.size) (T := markC W.heap.size :: G') (I := I) (Ix := Ix) (pre := pre) (x := x) (l := l1) (hps x) hpb
          (fun a' ha' => ⟨by rw [ha']; exact hf.size, fun d v hd => by rw [ha']; exact hf.at_ d v hd⟩) (fun E' => by
            have := hround E' (W.heap.size + 1) rec pre x l1 (markC W.heap.size :: G') ⟨fn, a.tmps, W.heap.size, hrec⟩ (fun c hc => List.mem_cons_of_mem _ (hG c hc)) h1 hsp
            rw [hrec] at this
            exact this)
        rw [← hrec] at hy
        refine ⟨fun E' W' hs' => ?_⟩
        have e : l1 ++ [(W.heap.size + 1, Obj.loop (rec .ready none)), markC W.heap.size] ++ G' = l1 ++ (W.heap.size + 1, Obj.loop (rec .ready none)) :: markC W.heap.size :: G' := by simp
        rw [e] at hs'
        obtain ⟨fn', tm, asg, bo, k1, k2⟩ := hy.run E' W' hs'
        refine ⟨fn', tm, asg, bo, k1, k2.mono ?_⟩
        rintro e' W'' ⟨v, l', rfl, hk, hs''⟩
        refine ⟨v, l', rfl, ?_, hs''⟩
        rcases hk with ⟨hv, l2, hI, rfl⟩ | ⟨hv, c, l2, hI, rfl⟩
        · exact ⟨l2 ++ [(W.heap.size + 1, .loop (rec .ready none)), markC W.heap.size], by simp, .inl ⟨hv, l2, hI, rfl⟩⟩
        · exact ⟨l2 ++ [(W.heap.size + 1, .loop (rec .done (some c))), markC W.heap.size], by simp, .inr ⟨hv, c, l2, hI, rfl⟩⟩)
      (l0 ++ [(W.heap.size + 1, .loop (rec .ready none)), markC W.heap.size]) G (fun _ h => h) ⟨l0, h0, rfl⟩
    have hs2 : Sat E (l0 ++ [(W.heap.size + 1, Obj.loop (rec .ready none)), markC W.heap.size] ++ G) W1 := hs1.perm (by
      refine List.Perm.trans ?_ (List.Perm.append_right G (List.perm_append_comm (l₁ := [(W.heap.size + 1, Obj.loop (rec .ready none)), markC W.heap.size]) (l₂ := l0)))
      simp [markC])
    have hc := hR.run E W1 hs2
    have eargs : (Value.func (.yield (W.heap.size + 1)) #[] #[] :: lb).toArray = #[.func (.yield (W.heap.size + 1)) #[] #[]] ++ lb.toArray := by simp
    rw [eargs] at hc
    refine callsIn_fw (hc.mono ?_)
    rintro e W2 ⟨v, l', rfl, ⟨l1, rfl, ⟨xs, hS, l2, hI, rfl⟩ | ⟨pre, hSp, c, l2, hI, rfl⟩⟩, hs3⟩
    · have hm : W2.heap[W.heap.size + 1]? = some (.loop (rec .ready none)) := hs3.has (W.heap.size + 1, _) (by simp)
      subst hrec
      refine ⟨none, _, run_endLoop (P := P) hm (by simp [recOf]), ?_⟩
      refine (hdone W.heap.size xs l2 hS hI).run { a with defers := [markD W.heap.size] ++ a.defers } _ ⟨hf.size, hf.at_⟩ (by rw [← hds]; rfl) ?_
      have h4 : Sat E (l2 ++ (W.heap.size + 1, Obj.loop (recOf fn a.tmps ps.toArray assign body W.heap.size .ready none)) :: markC W.heap.size :: G) W2 := by simpa using hs3
      have h5 := h4.upd (upd_mid l2 _ _ (.loop { recOf fn a.tmps ps.toArray assign body W.heap.size .ready none with state := .exhausted }) _)
      refine (h5.perm List.perm_middle).tail.perm List.perm_middle
    · have hm : W2.heap[W.heap.size + 1]? = some (.loop (rec .done (some c))) := hs3.has (W.heap.size + 1, _) (by simp)
      subst hrec
      refine ⟨some c, _, run_endLoop (P := P) hm (by simp [recOf]), ?_⟩
      refine (hstop W.heap.size c pre l2 hSp hI).run { a with defers := [markD W.heap.size] ++ a.defers } _ ⟨hf.size, hf.at_⟩ (by rw [← hds]; rfl) ?_
      have h4 : Sat E (l2 ++ (W.heap.size + 1, Obj.loop (recOf fn a.tmps ps.toArray assign body W.heap.size .done (some c))) :: markC W.heap.size :: G) W2 := by simpa using hs3
      have h5 := h4.upd (upd_mid l2 _ _ (.loop { recOf fn a.tmps ps.toArray assign body W.heap.size .done (some c) with state := .exhausted }) _)
      refine (h5.perm List.perm_middle).tail.perm List.perm_middle
end
end Go.Proofs.Ytmmohklaiffkmaa
