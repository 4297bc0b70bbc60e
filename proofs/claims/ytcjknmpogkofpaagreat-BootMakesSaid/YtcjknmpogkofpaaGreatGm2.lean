/- Laws that the statement's proof leans on (joined out of several texts). -/
import Derived.Test.YtcjknmpogkofpaaGreatGm1
import Derived.OrdersIn
set_option linter.unusedVariables false
set_option linter.unusedSimpArgs false
namespace Go.Proofs.YtcjknmpogkofpaaGreat
open Go.RowKit
inductive Pick : List Chunk → Chunk → List Chunk → Prop
  | here {c : Chunk} {l : List Chunk} : Pick (c :: l) c l
  | there {c d : Chunk} {l l' : List Chunk} : Pick l c l' → Pick (d :: l) c (d :: l')
theorem Pick.perm {l l' : List Chunk} {c : Chunk} (h : Pick l c l') : l.Perm (c :: l') := by
  induction h with
  | here => exact List.Perm.refl _
  | there _ ih => exact (List.Perm.cons _ ih).trans (List.Perm.swap _ _ _)
structure Keep (L l : List Chunk) : Prop where
  ex : ∃ g : List Chunk, L.Perm (g ++ l)
theorem Keep.refl {l : List Chunk} : Keep l l := ⟨[], List.Perm.refl _⟩
theorem Keep.pick {l l1 l' : List Chunk} {c : Chunk} (h : Pick l c l1) (k : Keep l1 l') : Keep l (c :: l') := by
  obtain ⟨g, hg⟩ := k.ex
  exact ⟨g, h.perm.trans ((List.Perm.cons _ hg).trans List.perm_middle.symm)⟩
theorem Keep.drop {l l' : List Chunk} {c : Chunk} (k : Keep l l') : Keep (c :: l) l' := by
  obtain ⟨g, hg⟩ := k.ex
  exact ⟨c :: g, List.Perm.cons c hg⟩
theorem Keep.of_perm {l l' : List Chunk} (p : l.Perm l') : Keep l l' := ⟨[], p⟩
theorem Keep.right {L l l' : List Chunk} (k : Keep L l) (p : l.Perm l') : Keep L l' := by
  obtain ⟨g, hg⟩ := k.ex
  exact ⟨g, hg.trans (List.Perm.append_left g p)⟩
theorem Keep.trans {L l l' : List Chunk} (k : Keep L l) (k' : Keep l l') : Keep L l' := by
  obtain ⟨g, hg⟩ := k.ex
  obtain ⟨g', hg'⟩ := k'.ex
  exact ⟨g ++ g', by rw [List.append_assoc]; exact hg.trans (List.Perm.append_left g hg')⟩
theorem Keep.mid {L M l : List Chunk} {c : Chunk} (k : Keep L (c :: (M ++ l))) : Keep L (M ++ c :: l) := k.right List.perm_middle.symm
theorem Keep.sat {E W : World} {l l' : List Chunk} (h : Keep l l') : Sat E l W → Sat E l' W := by
  obtain ⟨g, hg⟩ := h.ex
  intro hs
  exact (hs.perm hg).sub (List.sublist_append_right _ _)
section
variable {P : Program} {ro : Option Nat} {N : Nat} {E : World} {ops : Array Oper} {Q : Exit → Act → World → Prop} {rest : List Oper} {fr fr' : Fr} {ds : List Deferred} {l l' : List Chunk} {K : Value → List Chunk → Prop} {e : Exit}
theorem s_keep (p : Keep l l') (h : OpsS P ro N E ops Q rest fr ds l') : OpsS P ro N E ops Q rest fr ds l := ⟨fun a W hf hds hs => h.run a W hf hds (p.sat hs)⟩
theorem c_keep {c : Code} (p : Keep l l') (h : CodeS P ro N E c Q fr ds l') : CodeS P ro N E c Q fr ds l := ⟨fun a W hf hds hs => h.run a W hf hds (p.sat hs)⟩
theorem p_keep (p : Keep l l') (h : PostS N E Q e fr ds l') : PostS N E Q e fr ds l := ⟨fun a W hf hds hs => h.run a W hf hds (p.sat hs)⟩
theorem k_loop {α : Type} {c : Code} (fx : α → Fr) (lx : α → List Chunk) (pre : α → Prop) (μ : α → Nat) (x₀ : α) (h0 : pre x₀) (hf0 : FSub (fx x₀) fr) (hl0 : Keep l (lx x₀))
    (round : ∀ x, pre x → CodeS P ro N E c (Exit.then (LoopK N E fx ds lx pre μ x) Q) (fx x) ds (lx x)) : CodeS P ro N E (.loop c) Q fr ds l := c_keep hl0 (c_loop fx lx pre μ x₀ h0 hf0 (List.Perm.refl _) round)
theorem k_next {α : Type} {fx : α → Fr} {lx : α → List Chunk} {pre : α → Prop} {μ : α → Nat} {x : α} (y : α) (h1 : pre y) (h2 : μ y < μ x) (h3 : FSub (fx y) fr) (h4 : Keep l (lx y)) : PostS N E (Exit.then (LoopK N E fx ds lx pre μ x) Q) .normal fr ds l :=
  p_keep h4 (p_loop y h1 h2 h3 (List.Perm.refl _))
theorem k_ret {fn : Func} {rs : List ResultVar} {vs : List Value} (Ds : List Nat) (hr : fn.results = rs.toArray) (hp : Keep l (Ds.map markC ++ l')) (h : ResS P fr l' rs vs) (hk : K (tup vs) l') :
    PostS N E (bodyPostM Fence.wide 0 P fn (RK E K)) .ret fr (Ds.map markD) l := p_keep hp (p_ret Ds hr (List.Perm.refl _) h hk)
theorem RK.keep {E : World} {K : Value → List Chunk → Prop} {l2 l' : List Chunk} {v : Value} {W : World} (p : Keep l2 l') (hk : K v l') (hs : Sat E l2 W) : RK E K (.returned v) W := ⟨v, l', rfl, hk, p.sat hs⟩
theorem k_ret2 {fn : Func} {rs : List ResultVar} {vs : List Value} (Ds : List Nat) (l2 : List Chunk) (hr : fn.results = rs.toArray) (hp : Keep l (Ds.map markC ++ l2)) (h : ResS P fr l2 rs vs) (p2 : Keep l2 l') (hk : K (tup vs) l') :
    PostS N E (bodyPostM Fence.wide 0 P fn (RK E K)) .ret fr (Ds.map markD) l := by
  refine p_keep hp ⟨fun a W hf hds hs => ?_⟩
  show LeavesInM Fence.wide 0 P fn a.tmps (RK E K) a.defers .returning W
  rw [hds]
  exact leaves_sl (v := tup vs) Ds W hs fun W' hs' => ⟨results_run hr hf hs' h, RK.keep p2 hk hs'⟩
end
def LoopD (N : Nat) (E : World) {α : Type} (fx : α → Fr) (dx : α → List Deferred) (lx : α → List Chunk) (pre : α → Prop) (μ : α → Nat) (x : α) (a : Act) (W : World) : Prop :=
  ∃ y, pre y ∧ μ y < μ x ∧ FSat N (fx y) a ∧ a.defers = dx y ∧ Sat E (lx y) W
section
variable {P : Program} {ro : Option Nat} {N : Nat} {E : World} {Q : Exit → Act → World → Prop} {fr : Fr} {ds : List Deferred} {l : List Chunk}
theorem d_loop {α : Type} {c : Code} (fx : α → Fr) (dx : α → List Deferred) (lx : α → List Chunk) (pre : α → Prop) (μ : α → Nat) (x₀ : α) (h0 : pre x₀) (hf0 : FSub (fx x₀) fr) (hd0 : ds = dx x₀) (hl0 : Keep l (lx x₀))
    (round : ∀ x, pre x → CodeS P ro N E c (Exit.then (LoopD N E fx dx lx pre μ x) Q) (fx x) (dx x) (lx x)) : CodeS P ro N E (.loop c) Q fr ds l := by
  refine ⟨fun a W hf hds hs => ?_⟩
  refine wpIn_loop (fun a W => ∃ x, pre x ∧ FSat N (fx x) a ∧ a.defers = dx x ∧ Sat E (lx x) W) (fun a W => leastN fun n => ∃ x, pre x ∧ FSat N (fx x) a ∧ a.defers = dx x ∧ Sat E (lx x) W ∧ μ x = n) ⟨x₀, h0, hf.sub hf0.spec, hds.trans hd0, hl0.sat hs⟩ ?_
  intro a W hI
  have hex : ∃ n, ∃ x, pre x ∧ FSat N (fx x) a ∧ a.defers = dx x ∧ Sat E (lx x) W ∧ μ x = n := by
    obtain ⟨x, h1, h2, h3, h4⟩ := hI
    exact ⟨_, x, h1, h2, h3, h4, rfl⟩
  obtain ⟨⟨x, h1, h2, h3, h4, h5⟩, _⟩ := leastN_spec hex
  refine wpIn_mono ((round x h1).run a W h2 h3 h4) ?_
  intro e a' W' hq
  cases e with
  | normal =>
    obtain ⟨y, k1, k2, k3, k4, k5⟩ := hq
    refine ⟨⟨y, k1, k3, k4, k5⟩, ?_⟩
    exact Nat.lt_of_le_of_lt ((leastN_spec (p := fun n => ∃ x, pre x ∧ FSat N (fx x) a' ∧ a'.defers = dx x ∧ Sat E (lx x) W' ∧ μ x = n) ⟨_, y, k1, k3, k4, k5, rfl⟩).2 (μ y) ⟨y, k1, k3, k4, k5, rfl⟩) (by rw [← h5]; exact k2)
  | _ => exact hq
theorem d_next {α : Type} {fx : α → Fr} {dx : α → List Deferred} {lx : α → List Chunk} {pre : α → Prop} {μ : α → Nat} {x : α} (y : α) (h1 : pre y) (h2 : μ y < μ x) (h3 : FSub (fx y) fr) (hd : ds = dx y) (h4 : Keep l (lx y)) : PostS N E (Exit.then (LoopD N E fx dx lx pre μ x) Q) .normal fr ds l :=
  ⟨fun a W hf hds hs => ⟨y, h1, h2, hf.sub h3.spec, hds.trans hd, h4.sat hs⟩⟩
end
structure IterS (P : Program) (gf : Nat) (lb : List Value) {α : Type} (enc : α → List Value) (S Sp : List α → Prop) (Need : List α → List Chunk → Prop) : Prop where
  run : ∀ (r : Nat) (I Ix : List α → List Chunk → Prop) (G0 : List Chunk), (∀ pre l G, (∀ c, c ∈ G0 → c ∈ G) → I pre l → Need pre (l ++ G)) →
    (∀ pre x l G, (∀ c, c ∈ G0 → c ∈ G) → I pre l → Sp (pre ++ [x]) → YieldS P r (enc x) (l ++ G) (fun v l' => ∃ l1, l' = l1 ++ G ∧ ((v = .bool true ∧ I (pre ++ [x]) l1) ∨ (v = .bool false ∧ Ix (pre ++ [x]) l1)))) →
    ∀ l G, (∀ c, c ∈ G0 → c ∈ G) → I [] l → Fn P gf (.func (.yield r) #[] #[] :: lb) (l ++ G) (fun v l' => ∃ l1, l' = l1 ++ G ∧ ((∃ xs, S xs ∧ I xs l1) ∨ (∃ pre, Sp pre ∧ Ix pre l1)))
def RoundK {α : Type} (I : List α → List Chunk → Prop) (Ix : Code → List α → List Chunk → Prop) (xs : List α) (r : Nat) (rec : LoopState → Option Code → Loop) (T : List Chunk) : Value → List Chunk → Prop := fun v l' =>
  (v = .bool true ∧ ∃ l1, I xs l1 ∧ l' = l1 ++ (r, .loop (rec .ready none)) :: T) ∨ (v = .bool false ∧ ∃ c l1, Ix c xs l1 ∧ l' = l1 ++ (r, .loop (rec .done (some c))) :: T)
def recOf (fn : FuncId) (tmps : Array Value) (ps : Array Tmp) (assign body : Code) (D : Nat) (st : LoopState) (pe : Option Code) : Loop := { state := st, pending := pe, fn, tmps, params := ps, assign, body, defers := D }
def BeginK (P : Program) (r : Nat) (body : Code) (Q : Exit → Act → World → Prop) : Act → World → Prop := fun a w => ∃ w2, (Instr.beginRound r).run P w = .ok () w2 ∧ body.wpIn (Fw (some r)) 0 P Q a w2
def putPs : List Nat → List Value → Fr → Fr
  | p :: ps, v :: vs, fr => putPs ps vs ((p, v) :: fr)
  | _, _, fr => fr
theorem fsat_puts {N : Nat} : ∀ (ps : List Nat) (vs : List Value) (fr : Fr) (a : Act) (ds : List Deferred), FSat N fr a → ps.all (fun p => Nat.blt p N) = true →
    FSat N (putPs ps vs fr) { tmps := (ps.zip vs).foldl (fun t (p, v) => t.setIfInBounds p v) a.tmps, defers := ds }
  | [], vs, fr, a, ds, hf, _ => ⟨hf.size, hf.at_⟩
  | p :: ps, [], fr, a, ds, hf, _ => ⟨hf.size, hf.at_⟩
  | p :: ps, v :: vs, fr, a, ds, hf, hb => by
    simp only [List.all_cons, Bool.and_eq_true] at hb
    have h1 : FSat N ((p, v) :: fr) (a.put (some p) v) := FSat.put (d := some p) hf v hb.1
    exact fsat_puts ps vs _ _ ds h1 hb.2
section
variable {P : Program} {N : Nat} {E : World} {Q : Exit → Act → World → Prop} {fr : Fr} {ds : List Deferred} {L : List Chunk} {α : Type} {r : Nat} {fn : FuncId} {tmps : Array Value} {ps : Array Tmp} {assign body : Code} {D : Nat} {T : List Chunk} {I : List α → List Chunk → Prop} {Ix : Code → List α → List Chunk → Prop} {xs : List α}
theorem p_begin {L' : List Chunk} {Qx : Exit → Act → World → Prop} (hu : Upd L r (.loop (recOf fn tmps ps assign body D .ready none)) (.loop (recOf fn tmps ps assign body D .busy none)) L') (h : CodeS P (some r) N E body Q fr ds L') : PostS N E (Exit.then (BeginK P r body Q) Qx) .normal fr ds L :=
  ⟨fun a W hf hds hs => ⟨_, run_beginRound (hs.has _ hu.mem) rfl, h.run a _ hf hds (hs.upd hu)⟩⟩
theorem upd_mid (l : List Chunk) (b : Nat) (o o' : Obj) (T : List Chunk) : Upd (l ++ (b, o) :: T) b o o' (l ++ (b, o') :: T) := by
  induction l with
  | nil => exact .here
  | cons c l ih => exact .there ih
theorem p_round (l1 : List Chunk) (hk : Keep L (l1 ++ (r, .loop (recOf fn tmps ps assign body D .busy none)) :: T)) (hI : I xs l1) : PostS N E (roundPost P r (RK E (RoundK I Ix xs r (recOf fn tmps ps assign body D) T))) .normal fr ds L :=
  ⟨fun a W hf hds hs => by
    have hs := hk.sat hs
    have hm : W.heap[r]? = some (.loop (recOf fn tmps ps assign body D .busy none)) := hs.has (r, _) (by simp)
    refine ⟨_, _, run_endRound none hm, _, _, rfl, .inl ⟨rfl, l1, hI, rfl⟩, hs.upd (upd_mid _ _ _ _ _)⟩⟩
theorem p_round_ret (l1 : List Chunk) (hk : Keep L (l1 ++ (r, .loop (recOf fn tmps ps assign body D .busy none)) :: T)) (hI : Ix .ret xs l1) : PostS N E (roundPost P r (RK E (RoundK I Ix xs r (recOf fn tmps ps assign body D) T))) .ret fr ds L :=
  ⟨fun a W hf hds hs => by
    have hs := hk.sat hs
    have hm : W.heap[r]? = some (.loop (recOf fn tmps ps assign body D .busy none)) := hs.has (r, _) (by simp)
    refine ⟨_, _, run_endRound (some .ret) hm, _, _, rfl, .inr ⟨rfl, .ret, l1, hI, rfl⟩, hs.upd (upd_mid _ _ _ _ _)⟩⟩
theorem p_round_exit {k : Nat} (l1 : List Chunk) (hk : Keep L (l1 ++ (r, .loop (recOf fn tmps ps assign body D .busy none)) :: T)) (hI : Ix (.exit k) xs l1) : PostS N E (roundPost P r (RK E (RoundK I Ix xs r (recOf fn tmps ps assign body D) T))) (.exit k) fr ds L :=
  ⟨fun a W hf hds hs => by
    have hs := hk.sat hs
    have hm : W.heap[r]? = some (.loop (recOf fn tmps ps assign body D .busy none)) := hs.has (r, _) (by simp)
    refine ⟨_, _, run_endRound (some (.exit k)) hm, _, _, rfl, .inr ⟨rfl, .exit k, l1, hI, rfl⟩, hs.upd (upd_mid _ _ _ _ _)⟩⟩
end
section
variable {P : Program} {N : Nat} {E : World} {Q : Exit → Act → World → Prop} {fr : Fr} {ds : List Deferred} {L : List Chunk} {α : Type} {g : Operand} {ps : List Tmp} {assign body : Code} {gf : Nat} {lb : List Value} {enc : α → List Value} {S Sp : List α → Prop} {Need : List α → List Chunk → Prop}
theorem yield_of {r : Nat} {fn : FuncId} {tmps : Array Value} {D : Nat} {T : List Chunk} {I : List α → List Chunk → Prop} {Ix : Code → List α → List Chunk → Prop} {pre : List α} {x : α} {l : List Chunk} (hps : (enc x).length = ps.length) (hpb : ps.all (fun p => Nat.blt p N) = true) (hf : ∀ a : Act, a.tmps = tmps → FSat N fr a)
    (h : ∀ E, CodeS P (some r) N E assign (Exit.then (BeginK P r body (roundPost P r (RK E (RoundK I Ix (pre ++ [x]) r (recOf fn tmps ps.toArray assign body D) T)))) (fun _ _ _ => False)) (putPs ps (enc x) fr) [] (l ++ (r, .loop (recOf fn tmps ps.toArray assign body D .ready none)) :: T)) :
    YieldS P r (enc x) (l ++ (r, .loop (recOf fn tmps ps.toArray assign body D .ready none)) :: T) (RoundK I Ix (pre ++ [x]) r (recOf fn tmps ps.toArray assign body D) T) := by
  refine ⟨fun E W hs => ?_⟩
  have hm : W.heap[r]? = some (.loop (recOf fn tmps ps.toArray assign body D .ready none)) := hs.has (r, _) (by simp)
  refine ⟨fn, _, assign, body, run_yield hm (by simp [recOf, hps]), roundIn_of_wpIn trivial ?_⟩
  refine (h E).run _ W ?_ rfl hs
  have := fsat_puts ps (enc x) fr { tmps := tmps, defers := [] } [] (hf _ rfl) hpb
  have e : (Array.zip ps.toArray (enc x).toArray) = (ps.zip (enc x)).toArray := by simp
  show FSat N _ { tmps := (Array.zip ps.toArray (enc x).toArray).foldl (fun t (p, v) => t.setIfInBounds p v) tmps, defers := [] }
  rw [e, List.foldl_toArray]
  exact this
theorem c_range (hg : ev fr g = some (.func (.func gf) #[] lb.toArray)) [en : EN P gf] (hit : IterS P gf lb enc S Sp Need) (hps : ∀ x, (enc x).length = ps.length) (hpb : ps.all (fun p => Nat.blt p N) = true)
    (I : List α → List Chunk → Prop) (Ix : Code → List α → List Chunk → Prop) (l0 G : List Chunk) (hneed : ∀ pre l X, (∀ c, c ∈ G → c ∈ X) → I pre l → Need pre (l ++ X)) (hL : Keep L (l0 ++ G)) (h0 : I [] l0)
    (hround : ∀ (E : World) (r : Nat) (rec : LoopState → Option Code → Loop) (pre : List α) (x : α) (l T : List Chunk), (∃ fn tmps D, rec = recOf fn tmps ps.toArray assign body D) → (∀ c, c ∈ G → c ∈ T) → I pre l → Sp (pre ++ [x]) →
      CodeS P (some r) N E assign (Exit.then (BeginK P r body (roundPost P r (RK E (RoundK I Ix (pre ++ [x]) r rec T)))) (fun _ _ _ => False)) (putPs ps (enc x) fr) [] (l ++ (r, .loop (rec .ready none)) :: T))
    (hdone : ∀ (D : Nat) (xs : List α) (l : List Chunk), S xs → I xs l → PostS N E Q .normal fr (markD D :: ds) (markC D :: (l ++ G)))
    (hstop : ∀ (D : Nat) (c : Code) (pre : List α) (l : List Chunk), Sp pre → Ix c pre l → CodeS P none N E c Q fr (markD D :: ds) (markC D :: (l ++ G))) :
    CodeS P none N E (.rangeFunc g ps.toArray assign body) Q fr ds L := by
  refine ⟨fun a W hf hds hs => wpIn_rangeFunc ?_⟩
  intro fn hfn
  have hs := hL.sat hs
  obtain ⟨rec, hrec⟩ : ∃ rec, rec = recOf fn a.tmps ps.toArray assign body W.heap.size := ⟨_, rfl⟩
  obtain ⟨W1, hW1⟩ : ∃ W1, (W.alloc (.deferred (some []))).alloc (.loop (rec .ready none)) = W1 := ⟨_, rfl⟩
  have hs1 : Sat E ((W.heap.size + 1, .loop (rec .ready none)) :: (W.heap.size, .deferred (some [])) :: (l0 ++ G)) W1 := by
    have := (hs.alloc (.deferred (some []))).alloc (.loop (rec .ready none))
    rw [World.size_alloc, hW1] at this
    exact this
  have hev := hf.agrees g _ hg
  refine ⟨W.heap.size + 1, [markD W.heap.size], W1, { target := .fn (.func gf) lb.toArray, args := #[.func (.yield (W.heap.size + 1)) #[] #[]] }, W1, gf, #[.func (.yield (W.heap.size + 1)) #[] #[]] ++ lb.toArray, W1, ?_, ?_, fun _ _ => trivial, ?_, fun h => (by cases h), ?_⟩
  · rw [← hW1, hrec]; exact run_enterLoop_outer _ _ _ _ _
  · simp only [resolve, hev]
    simp [Deferred.ofValue, Act.eval]
  · simp [invoke, en.out]
  · have hR := hit.run (W.heap.size + 1)
      (fun pre l => ∃ l1, I pre l1 ∧ l = l1 ++ [(W.heap.size + 1, .loop (rec .ready none)), markC W.heap.size])
      (fun pre l => ∃ c l1, Ix c pre l1 ∧ l = l1 ++ [(W.heap.size + 1, .loop (rec .done (some c))), markC W.heap.size])
      G
      (fun pre l G' hG ⟨l1, h1, h2⟩ => by rw [h2, List.append_assoc]; exact hneed _ _ _ (fun c hc => List.mem_append_right _ (hG c hc)) h1)
      (fun pre x l G' hG ⟨l1, h1, h2⟩ hsp => by
        subst h2
        have hy := yield_of (P := P) (N := N) (fr := fr) (assign := assign) (body := body) (ps := ps) (enc := enc) (r := W.heap.size + 1) (fn := fn) (tmps := a.tmps) (D := W.heap.size) (T := markC W.heap.size :: G') (I := I) (Ix := Ix) (pre := pre) (x := x) (l := l1) (hps x) hpb
          (fun a' ha' => ⟨by rw [ha']; exact hf.size, fun d v hd => by rw [ha']; exact hf.at_ d v hd⟩) (fun E' => by
            have := hround E' (W.heap.size + 1) rec pre x l1 (markC W.heap.size :: G') ⟨fn, a.tmps, W.heap.size, hrec⟩ (fun c hc => List.mem_cons_of_mem _ (hG c hc)) h1 hsp
            rw [hrec] at this
            exact this)
        rw [← hrec] at hy
        refine ⟨fun E' W' hs' => ?_⟩
        have e : l1 ++ [(W.heap.size + 1, Obj.loop (rec .ready none)), markC W.heap.size] ++ G' = l1 ++ (W.heap.size + 1, Obj.loop (rec .ready none)) :: markC W.heap.size :: G' := by simp
        rw [e] at hs'
        obtain ⟨fn', tm, asg, bo, k1, k2⟩ := hy.run E' W' hs'
        refine ⟨fn', tm, asg, bo, k1, k2.mono ?_⟩
        rintro e' W'' ⟨v, l', rfl, hk, hs''⟩
        refine ⟨v, l', rfl, ?_, hs''⟩
        rcases hk with ⟨hv, l2, hI, rfl⟩ | ⟨hv, c, l2, hI, rfl⟩
        · exact ⟨l2 ++ [(W.heap.size + 1, .loop (rec .ready none)), markC W.heap.size], by simp, .inl ⟨hv, l2, hI, rfl⟩⟩
        · exact ⟨l2 ++ [(W.heap.size + 1, .loop (rec .done (some c))), markC W.heap.size], by simp, .inr ⟨hv, c, l2, hI, rfl⟩⟩)
      (l0 ++ [(W.heap.size + 1, .loop (rec .ready none)), markC W.heap.size]) G (fun _ h => h) ⟨l0, h0, rfl⟩
    have hs2 : Sat E (l0 ++ [(W.heap.size + 1, Obj.loop (rec .ready none)), markC W.heap.size] ++ G) W1 := hs1.perm (by
      refine List.Perm.trans ?_ (List.Perm.append_right G (List.perm_append_comm (l₁ := [(W.heap.size + 1, Obj.loop (rec .ready none)), markC W.heap.size]) (l₂ := l0)))
      simp [markC])
    have hc := hR.run E W1 hs2
    have eargs : (Value.func (.yield (W.heap.size + 1)) #[] #[] :: lb).toArray = #[.func (.yield (W.heap.size + 1)) #[] #[]] ++ lb.toArray := by simp
    rw [eargs] at hc
    refine callsIn_fw (hc.mono ?_)
    rintro e W2 ⟨v, l', rfl, ⟨l1, rfl, ⟨xs, hS, l2, hI, rfl⟩ | ⟨pre, hSp, c, l2, hI, rfl⟩⟩, hs3⟩
    · have hm : W2.heap[W.heap.size + 1]? = some (.loop (rec .ready none)) := hs3.has (W.heap.size + 1, _) (by simp)
      subst hrec
      refine ⟨none, _, run_endLoop (P := P) hm (by simp [recOf]), ?_⟩
      refine (hdone W.heap.size xs l2 hS hI).run { a with defers := [markD W.heap.size] ++ a.defers } _ ⟨hf.size, hf.at_⟩ (by rw [← hds]; rfl) ?_
      have h4 : Sat E (l2 ++ (W.heap.size + 1, Obj.loop (recOf fn a.tmps ps.toArray assign body W.heap.size .ready none)) :: markC W.heap.size :: G) W2 := by simpa using hs3
      have h5 := h4.upd (upd_mid l2 _ _ (.loop { recOf fn a.tmps ps.toArray assign body W.heap.size .ready none with state := .exhausted }) _)
      refine (h5.perm List.perm_middle).tail.perm List.perm_middle
    · have hm : W2.heap[W.heap.size + 1]? = some (.loop (rec .done (some c))) := hs3.has (W.heap.size + 1, _) (by simp)
      subst hrec
      refine ⟨some c, _, run_endLoop (P := P) hm (by simp [recOf]), ?_⟩
      refine (hstop W.heap.size c pre l2 hSp hI).run { a with defers := [markD W.heap.size] ++ a.defers } _ ⟨hf.size, hf.at_⟩ (by rw [← hds]; rfl) ?_
      have h4 : Sat E (l2 ++ (W.heap.size + 1, Obj.loop (recOf fn a.tmps ps.toArray assign body W.heap.size .done (some c))) :: markC W.heap.size :: G) W2 := by simpa using hs3
      have h5 := h4.upd (upd_mid l2 _ _ (.loop { recOf fn a.tmps ps.toArray assign body W.heap.size .done (some c) with state := .exhausted }) _)
      refine (h5.perm List.perm_middle).tail.perm List.perm_middle
end
abbrev PlanOp := Nat × Bool × Oper
section
variable {P : Program} {ro : Option Nat} {N : Nat} {E : World} {ops : Array Oper} {Q : Exit → Act → World → Prop} {R : List Chunk}
def StepV (P : Program) (ro : Option Nat) (ops : Array Oper) (o : Oper) (a : Act) (W : World) (K : Value → World → Prop) : Prop :=
  if Region.wanted o (yielded ops a.tmps) then OpVal P ro o a.eval W K else K undef W
theorem StepV.mono {o : Oper} {a : Act} {W : World} {K K' : Value → World → Prop} (hk : ∀ v w, K v w → K' v w) (h : StepV P ro ops o a W K) : StepV P ro ops o a W K' := by
  unfold StepV at *
  split
  · rename_i hw; rw [if_pos hw] at h; exact h.mono hk
  · rename_i hw; rw [if_neg hw] at h; exact hk _ _ h
theorem StepV.put {o : Oper} {a : Act} {W : World} {K : Value → World → Prop} {d : Option Nat} {u : Value} (hs : ∀ cs b, o.op ≠ .select cs b) (hd : ∀ t, d = some t → t ∉ o.looksAt ops) : StepV P ro ops o (a.put d u) W K ↔ StepV P ro ops o a W K := by
  unfold StepV OpVal
  rw [wanted_put o a d u hd, execOp_put o hs a d u hd]
theorem StepV.op {i : Nat} {o : Oper} {a : Act} {W : World} {K : Value → World → Prop} {next : Act → World → Prop} (hi : ops[i]? = some o) (hd : notDefer o.op = true) (h : StepV P ro ops o a W K) (hk : ∀ v w, K v w → next (a.put o.dst v) w) : wpOpIn (Fw ro) 0 P ops Q i next a W := by
  unfold wpOpIn
  rw [hi]
  unfold StepV at h
  simp only
  split
  · rename_i hw; rw [if_pos hw] at h; exact h.wpIn hd hk
  · rename_i hw; rw [if_neg hw] at h; exact ⟨fun _ _ => trivial, hk _ _ h⟩
def ancOf (tbl : List (List Nat)) (j i : Nat) : Bool := ((tbl[j]?).getD []).contains i
abbrev Spec := List (Nat × List Chunk)
abbrev Sw := Option (List (Nat × Nat))
def swOk (sw : Sw) (i j : Nat) : Bool := match sw with
  | some L => L.contains (i, j)
  | none => false
def SemPlanEff (P : Program) (ro : Option Nat) (E : World) (ops : Array Oper) (R : List Chunk) (tbl : List (List Nat)) (sp : Spec) (i : Nat) (o : Oper) (Φ : Act → Prop) (l : List Chunk) (K : Act → Value → List Chunk → Prop) : Prop :=
  ∀ a W, Φ a → Sat E l W → StepV P ro ops o a W (fun v W' => ∃ l', K a v l' ∧ (∀ c, c ∈ R → c ∈ l') ∧ (∀ x, x ∈ sp → ancOf tbl i x.1 = false → ∀ c, c ∈ x.2 → c ∈ l') ∧ Sat E l' W')
def pairOk (ops : Array Oper) (tbl : List (List Nat)) (sw : Sw) (x y : PlanOp) : Bool :=
  (((x.2.1 && x.2.2.apart ops y.2.2) || ancOf tbl y.1 x.1) || swOk sw x.1 y.1) && (x.2.2.after.all fun e => !Region.binds .any e || e.on != y.1) && x.1 != y.1
def selfOk (ops : Array Oper) (x : PlanOp) : Bool := (x.2.2.after.all fun e => !Region.binds .any e || (e.on != x.1 && decide (e.on < ops.size))) && notDefer x.2.2.op && (match x.2.2.op with | .select .. => false | _ => true)
def pairsOk (ops : Array Oper) (tbl : List (List Nat)) (sw : Sw) : List PlanOp → Bool
  | [] => true
  | x :: r => selfOk ops x && r.all (pairOk ops tbl sw x) && pairsOk ops tbl sw r
def swIn (sw : Sw) (pl : List PlanOp) : Bool := match sw with
  | some L => L.all fun p => pl.any fun x => x.1 == p.1 && !x.2.1
  | none => true
def Cand (tbl : List (List Nat)) (sw : Sw) (i : Nat) (rest : List PlanOp) (j : Nat) : Prop := j = i ∨ (swOk sw i j = true ∧ (∀ y, y ∈ rest → ancOf tbl j y.1 = false) ∧ ∃ y, y ∈ rest ∧ y.1 = j)
inductive SemPlan (P : Program) (ro : Option Nat) (E : World) (ops : Array Oper) (Q : Exit → Act → World → Prop) (R : List Chunk) (tbl : List (List Nat)) : Sw → Spec → List PlanOp → (Act → Prop) → List Chunk → Prop
  | nil {sw : Sw} {sp : Spec} {Φ : Act → Prop} {l : List Chunk} : (∀ a W, Φ a → Sat E l W → Q .normal a W) → SemPlan P ro E ops Q R tbl sw sp [] Φ l
  | quiet {sw : Sw} {sp : Spec} {i : Nat} {o : Oper} {rest : List PlanOp} {Φ : Act → Prop} {l : List Chunk} (v : Value) (S : List Chunk) : (∀ c, c ∈ S → c ∈ l) → (∀ a, Φ a → ∀ E' l' W, (∀ c, c ∈ R → c ∈ l') → (∀ c, c ∈ S → c ∈ l') → Sat E' l' W → StepV P ro ops o a W (fun u W' => u = v ∧ Sat E' l' W')) → SemPlan P ro E ops Q R tbl sw ((i, S) :: sp) rest (fun a' => ∃ a, Φ a ∧ a' = a.put o.dst v) l → SemPlan P ro E ops Q R tbl sw sp ((i, true, o) :: rest) Φ l
  | eff {sw : Sw} {sp : Spec} {i : Nat} {o : Oper} {rest : List PlanOp} {Φ : Act → Prop} {l : List Chunk} (oo : Nat → Oper) (K : Nat → Act → Value → List Chunk → Prop) (rf : Nat → List PlanOp) (sf : Nat → Sw) :
      (∀ j, Cand tbl sw i rest j → ((j, false, oo j) :: rf j).Perm ((i, false, o) :: rest) ∧ ((j = i ∧ sf j = sw ∧ rf j = rest) ∨ (pairsOk ops tbl (sf j) (rf j) = true ∧ swIn (sf j) (rf j) = true))) →
      (∀ j, Cand tbl sw i rest j → SemPlanEff P ro E ops R tbl sp j (oo j) Φ l (K j)) →
      (∀ j, Cand tbl sw i rest j → ∀ a v l', K j a v l' → SemPlan P ro E ops Q R tbl (sf j) sp (rf j) (fun a' => a' = a.put (oo j).dst v) l') → SemPlan P ro E ops Q R tbl sw sp ((i, false, o) :: rest) Φ l
def putAll : List (PlanOp × Value) → Act → Act
  | [], a => a
  | (p, v) :: r, a => putAll r (a.put p.2.2.dst v)
theorem putAll_append (x y : List (PlanOp × Value)) (a : Act) : putAll (x ++ y) a = putAll y (putAll x a) := by
  induction x generalizing a with
  | nil => rfl
  | cons p x ih => exact ih _
theorem putAll_put {x : List (PlanOp × Value)} {a : Act} {d : Option Nat} {v : Value} (h : ∀ p, p ∈ x → ∀ t, d = some t → p.1.2.2.dst ≠ some t) : putAll x (a.put d v) = (putAll x a).put d v := by
  induction x generalizing a with
  | nil => rfl
  | cons p x ih =>
    obtain ⟨p, u⟩ := p
    simp only [putAll]
    rw [Act.put_comm a v u (fun t ht => h _ List.mem_cons_self t ht)]
    exact ih fun q hq => h q (List.mem_cons_of_mem _ hq)
theorem StepV.putAll {o : Oper} {W : World} {K : Value → World → Prop} (hs : ∀ cs b, o.op ≠ .select cs b) : ∀ {x : List (PlanOp × Value)} {a : Act}, (∀ p, p ∈ x → ∀ t, p.1.2.2.dst = some t → t ∉ o.looksAt ops) → (StepV P ro ops o (putAll x a) W K ↔ StepV P ro ops o a W K)
  | [], a, _ => Iff.rfl
  | (p, v) :: x, a, h => by
    simp only [Go.Proofs.YtcjknmpogkofpaaGreat.putAll]
    rw [StepV.putAll hs (fun q hq => h q (List.mem_cons_of_mem _ hq)), StepV.put hs (fun t ht => h _ List.mem_cons_self t ht)]
def tblOk (ops : Array Oper) (tbl : List (List Nat)) : Bool :=
  (List.range ops.size).all fun j => ((tbl[j]?).getD []).all fun i => match ops[j]? with
    | some o => o.after.any fun e => Region.binds .any e && (e.on == i || (decide (e.on < j) && ancOf tbl e.on i))
    | none => false
def Down (ops : Array Oper) (listed : Array Bool) : Prop := ∀ j o, ops[j]? = some o → listed.getD j false = true → ∀ e ∈ o.after, Region.binds .any e = true → listed.getD e.on false = true
theorem anc_listed {tbl : List (List Nat)} {listed : Array Bool} (ht : tblOk ops tbl = true) (hd : Down ops listed) : ∀ (n j : Nat) (o : Oper), j ≤ n → ops[j]? = some o → (∀ e ∈ o.after, Region.binds .any e = true → listed.getD e.on false = true) → ∀ i, ancOf tbl j i = true → listed.getD i false = true := by
  intro n
  induction n with
  | zero =>
    intro j o hj ho hall i hi
    obtain rfl : j = 0 := by omega
    have hlt : 0 < ops.size := (Array.getElem?_eq_some_iff.1 ho).1
    have h1 := List.all_eq_true.1 ht 0 (by simpa using hlt)
    have h2 := List.all_eq_true.1 h1 i (by simpa [ancOf] using hi)
    rw [ho] at h2
    simp only [Array.any_eq_true, Bool.and_eq_true, Bool.or_eq_true, beq_iff_eq, decide_eq_true_eq] at h2
    obtain ⟨k, hk, hb, he | ⟨hlt', _⟩⟩ := h2
    · rw [← he]; exact hall _ (Array.getElem_mem hk) hb
    · omega
  | succ n ih =>
    intro j o hj ho hall i hi
    have hlt : j < ops.size := (Array.getElem?_eq_some_iff.1 ho).1
    have h1 := List.all_eq_true.1 ht j (by simpa using hlt)
    have h2 := List.all_eq_true.1 h1 i (by simpa [ancOf] using hi)
    rw [ho] at h2
    simp only [Array.any_eq_true, Bool.and_eq_true, Bool.or_eq_true, beq_iff_eq, decide_eq_true_eq] at h2
    obtain ⟨k, hk, hb, he | ⟨hlt', ha⟩⟩ := h2
    · rw [← he]; exact hall _ (Array.getElem_mem hk) hb
    · have hl := hall _ (Array.getElem_mem hk) hb
      have hs : o.after[k].on < ops.size := by omega
      exact ih _ _ (by omega) (Array.getElem?_eq_getElem hs) (hd _ _ (Array.getElem?_eq_getElem hs) hl) i ha
theorem selfOk_spec {x : PlanOp} (h : selfOk ops x = true) : (∀ e ∈ x.2.2.after, Region.binds .any e = true → e.on ≠ x.1 ∧ e.on < ops.size) ∧ notDefer x.2.2.op = true ∧ ∀ cs b, x.2.2.op ≠ .select cs b := by
  unfold selfOk at h
  simp only [Bool.and_eq_true] at h
  obtain ⟨⟨h1, h2⟩, h3⟩ := h
  refine ⟨fun e he hb => ?_, h2, fun cs b hc => by rw [hc] at h3; cases h3⟩
  obtain ⟨k, hk, rfl⟩ := Array.getElem_of_mem he
  have := Array.all_eq_true.1 h1 k hk
  rw [hb] at this
  simpa using this
theorem pairOk_spec {tbl : List (List Nat)} {sw : Sw} {x y : PlanOp} (h : pairOk ops tbl sw x y = true) : ((x.2.1 = true ∧ x.2.2.apart ops y.2.2 = true) ∨ ancOf tbl y.1 x.1 = true ∨ swOk sw x.1 y.1 = true) ∧ (∀ e ∈ x.2.2.after, Region.binds .any e = true → e.on ≠ y.1) ∧ x.1 ≠ y.1 := by
  unfold pairOk at h
  simp only [Bool.and_eq_true, Bool.or_eq_true, bne_iff_ne, ne_eq] at h
  obtain ⟨⟨h1, h2⟩, h3⟩ := h
  refine ⟨by rcases h1 with (h1 | h1) | h1; exact .inl h1; exact .inr (.inl h1); exact .inr (.inr h1), fun e he hb => ?_, h3⟩
  obtain ⟨k, hk, rfl⟩ := Array.getElem_of_mem he
  have := Array.all_eq_true.1 h2 k hk
  rw [hb] at this
  simpa using this
theorem pairsOk_spec {tbl : List (List Nat)} {sw : Sw} : ∀ {l : List PlanOp}, pairsOk ops tbl sw l = true → (∀ x, x ∈ l → selfOk ops x = true) ∧ l.Pairwise (fun x y => pairOk ops tbl sw x y = true)
  | [], _ => ⟨by simp, .nil⟩
  | x :: r, h => by
    simp only [pairsOk, Bool.and_eq_true] at h
    obtain ⟨⟨h1, h2⟩, h3⟩ := h
    obtain ⟨k1, k2⟩ := pairsOk_spec h3
    exact ⟨fun y hy => by rcases List.mem_cons.1 hy with rfl | hy; exact h1; exact k1 y hy, List.pairwise_cons.2 ⟨fun y hy => List.all_eq_true.1 h2 y hy, k2⟩⟩
structure Way (P : Program) (ro : Option Nat) (E : World) (ops : Array Oper) (Q : Exit → Act → World → Prop) (R : List Chunk) (tbl : List (List Nat)) (sw : Sw) (sp : Spec) (listed : Array Bool) (pend : List (PlanOp × Value)) (rest : List PlanOp) (Φ : Act → Prop) (l : List Chunk) (a : Act) (W : World) : Prop where
  phi : Φ (putAll pend a)
  sub : ∀ c, c ∈ R → c ∈ l
  sat : Sat E l W
  plan : SemPlan P ro E ops Q R tbl sw sp rest Φ l
  quiet : ∀ p1 x v p2, pend = p1 ++ (x, v) :: p2 → x.2.1 = true ∧ ∃ S, (x.1, S) ∈ sp ∧ (∀ c, c ∈ S → c ∈ l) ∧ ∀ E' l' W, (∀ c, c ∈ R → c ∈ l') → (∀ c, c ∈ S → c ∈ l') → Sat E' l' W → StepV P ro ops x.2.2 (putAll p1 a) W (fun u W' => u = v ∧ Sat E' l' W')
  size : listed.size = ops.size
  un : ∀ i, i < ops.size → (listed.getD i true = false ↔ ∃ x, x ∈ pend.map Prod.fst ++ rest ∧ x.1 = i)
  num : ∀ x, x ∈ pend.map Prod.fst ++ rest → ops[x.1]? = some x.2.2
  self : ∀ x, x ∈ pend.map Prod.fst ++ rest → selfOk ops x = true
  pairs : (pend.map Prod.fst ++ rest).Pairwise (fun x y => pairOk ops tbl sw x y = true)
  swf : ∀ x, x ∈ pend.map Prod.fst ++ rest → ∀ j, swOk sw x.1 j = true → x.2.1 = false
  down : Down ops listed
theorem getD_tf {listed : Array Bool} {i : Nat} (h : i < listed.size) : listed.getD i true = listed.getD i false := by
  simp [Array.getD_eq_getD_getElem?, Array.getElem?_eq_getElem h]
theorem Way.notAnc {tbl : List (List Nat)} {sw : Sw} {sp : Spec} {listed : Array Bool} {pend : List (PlanOp × Value)} {rest : List PlanOp} {Φ : Act → Prop} {l : List Chunk} {a : Act} {W : World} (h : Way P ro E ops Q R tbl sw sp listed pend rest Φ l a W) (ht : tblOk ops tbl = true) {j : Nat} (hr : j ∈ Region.ready .any ops listed) {x : PlanOp} (hx : x ∈ pend.map Prod.fst ++ rest) : ancOf tbl j x.1 = false := by
  obtain ⟨h0, o, ho, hall⟩ := mem_ready.1 hr
  cases hc : ancOf tbl j x.1
  · rfl
  · have h1 := anc_listed ht h.down j j o (Nat.le_refl _) ho hall x.1 hc
    have hlt : x.1 < ops.size := (Array.getElem?_eq_some_iff.1 (h.num x hx)).1
    have h2 := (h.un x.1 hlt).2 ⟨x, hx, rfl⟩
    rw [getD_tf (by rw [h.size]; exact hlt), h1] at h2
    cases h2
theorem getD_set_same {listed : Array Bool} {j : Nat} (h : j < listed.size) (d : Bool) : (listed.setIfInBounds j true).getD j d = true := by
  simp [Array.getD_eq_getD_getElem?, h]
theorem Way.down' {tbl : List (List Nat)} {listed : Array Bool} (hd : Down ops listed) (hsz : listed.size = ops.size) {j : Nat} (hr : j ∈ Region.ready .any ops listed) : Down ops (listed.setIfInBounds j true) := by
  obtain ⟨h0, o, ho, hall⟩ := mem_ready.1 hr
  intro i oi hi hl e he hb
  by_cases e1 : i = j
  · subst e1
    rw [ho] at hi; cases hi
    exact getD_set_true (hall e he hb)
  · rw [getD_set_ne _ (Ne.symm e1)] at hl
    exact getD_set_true (hd i oi hi hl e he hb)
theorem un_erase {listed : Array Bool} {p q : List PlanOp} {x : PlanOp} (hsz : listed.size = ops.size) (hx : x.1 < ops.size) (hne : ∀ y, y ∈ p ++ q → y.1 ≠ x.1) (h : ∀ i, i < ops.size → (listed.getD i true = false ↔ ∃ y, y ∈ p ++ x :: q ∧ y.1 = i)) :
    ∀ i, i < ops.size → ((listed.setIfInBounds x.1 true).getD i true = false ↔ ∃ y, y ∈ p ++ q ∧ y.1 = i) := by
  intro i hi
  by_cases e : i = x.1
  · subst e
    rw [getD_set_same (by rw [hsz]; exact hx)]
    constructor
    · intro h0; cases h0
    · rintro ⟨y, hy, hyi⟩; exact absurd hyi (hne y hy)
  · rw [getD_set_ne _ (Ne.symm e), h i hi]
    constructor
    · rintro ⟨y, hy, rfl⟩
      refine ⟨y, ?_, rfl⟩
      rcases List.mem_append.1 hy with hy | hy
      · exact List.mem_append_left _ hy
      · rcases List.mem_cons.1 hy with rfl | hy
        · exact absurd rfl e
        · exact List.mem_append_right _ hy
    · rintro ⟨y, hy, rfl⟩
      refine ⟨y, ?_, rfl⟩
      rcases List.mem_append.1 hy with hy | hy
      · exact List.mem_append_left _ hy
      · exact List.mem_append_right _ (List.mem_cons_of_mem _ hy)
theorem Way.pend_step {tbl : List (List Nat)} {sw : Sw} {sp : Spec} {listed : Array Bool} {p1 p2 : List (PlanOp × Value)} {x : PlanOp} {v : Value} {rest : List PlanOp} {Φ : Act → Prop} {l : List Chunk} {a : Act} {W : World} (ht : tblOk ops tbl = true) (h : Way P ro E ops Q R tbl sw sp listed (p1 ++ (x, v) :: p2) rest Φ l a W) (hr : x.1 ∈ Region.ready .any ops listed) :
    StepV P ro ops x.2.2 a W (fun u W' => Way P ro E ops Q R tbl sw sp (listed.setIfInBounds x.1 true) (p1 ++ p2) rest Φ l (a.put x.2.2.dst u) W') := by
  have hxm : x ∈ (p1 ++ (x, v) :: p2).map Prod.fst ++ rest := by simp
  have hap : ∀ q, q ∈ p1 → q.1.2.2.apart ops x.2.2 = true := by
    intro q hq
    have hp := h.pairs
    simp only [List.map_append, List.map_cons, List.append_assoc, List.cons_append] at hp
    have := (List.pairwise_append.1 hp).2.2 q.1 (List.mem_map.2 ⟨q, hq, rfl⟩) x List.mem_cons_self
    rcases (pairOk_spec this).1 with ⟨_, h1⟩ | h1 | h1
    · exact h1
    · have := h.notAnc ht hr (x := q.1) (List.mem_append_left _ (List.mem_map.2 ⟨q, by simp [hq], rfl⟩))
      rw [this] at h1; cases h1
    · obtain ⟨q1, q2, rfl⟩ := List.append_of_mem hq
      have hqt := (h.quiet q1 q.1 q.2 (q2 ++ (x, v) :: p2) (by simp)).1
      have hqf := h.swf q.1 (List.mem_append_left _ (List.mem_map.2 ⟨q, by simp, rfl⟩)) _ h1
      rw [hqt] at hqf; cases hqf
  have hsel := (selfOk_spec (h.self x hxm)).2.2
  obtain ⟨hxt, S, hSp, hSl, hq⟩ := h.quiet p1 x v p2 rfl
  have h1 := hq E l W h.sub hSl h.sat
  rw [StepV.putAll hsel (fun q hqm t ht' => (Oper.apart_spec (hap q hqm)).1 t ht')] at h1
  refine h1.mono ?_
  rintro u W' ⟨rfl, hs'⟩
  have hcomm : ∀ q1 : List (PlanOp × Value), (∀ q, q ∈ q1 → q ∈ p1) → putAll q1 (a.put x.2.2.dst u) = (putAll q1 a).put x.2.2.dst u := fun q1 hq1 => putAll_put fun q hqm t ht' hc => (Oper.apart_spec (hap q (hq1 q hqm))).2.1 t hc ht'
  have hlt : x.1 < ops.size := (Array.getElem?_eq_some_iff.1 (h.num x hxm)).1
  have hsub : ((p1 ++ p2).map Prod.fst ++ rest).Sublist ((p1 ++ (x, u) :: p2).map Prod.fst ++ rest) := by
    simp only [List.map_append, List.map_cons]
    exact List.Sublist.append (List.Sublist.append (List.Sublist.refl _) (List.sublist_cons_self _ _)) (List.Sublist.refl _)
  refine ⟨?_, h.sub, hs', h.plan, ?_, by simpa using h.size, ?_, fun y hy => h.num y (hsub.subset hy), fun y hy => h.self y (hsub.subset hy), h.pairs.sublist hsub, fun y hy => h.swf y (hsub.subset hy), Way.down' (tbl := tbl) h.down h.size hr⟩
  · have := h.phi
    rw [putAll_append] at this ⊢
    rw [hcomm p1 fun _ hq => hq]
    exact this
  · intro q1 y w q2 hsp
    rcases List.append_eq_append_iff.1 hsp with ⟨m, e1, e2⟩ | ⟨m, e1, e2⟩
    · -- y stands in p2
      subst e1
      have hsp' : p1 ++ (x, u) :: p2 = (p1 ++ (x, u) :: m) ++ (y, w) :: q2 := by simp [e2]
      obtain ⟨k1, k2⟩ := h.quiet _ y w q2 hsp'
      refine ⟨k1, ?_⟩
      rw [putAll_append] at k2 ⊢
      rw [hcomm p1 fun _ hq => hq]
      exact k2
    · cases m with
      | nil =>
        simp only [List.append_nil, List.nil_append] at e1 e2
        subst e1
        have hsp' : p1 ++ (x, u) :: p2 = (p1 ++ [(x, u)]) ++ (y, w) :: q2 := by simp [e2]
        obtain ⟨k1, k2⟩ := h.quiet _ y w q2 hsp'
        refine ⟨k1, ?_⟩
        rw [putAll_append] at k2
        rw [hcomm p1 fun _ hq => hq]
        exact k2
      | cons z m =>
        simp only [List.cons_append, List.cons.injEq] at e2
        obtain ⟨e3, e4⟩ := e2
        subst e3
        have hsp' : p1 ++ (x, u) :: p2 = q1 ++ (y, w) :: (m ++ (x, u) :: p2) := by rw [e1]; simp
        obtain ⟨k1, S2, k3, k4, k2⟩ := h.quiet _ y w _ hsp'
        refine ⟨k1, S2, k3, k4, fun E' l' W2 hR hS2 hs2 => ?_⟩
        rw [hcomm q1 (fun q hq => by rw [e1]; exact List.mem_append_left _ hq)]
        have hym : y ∈ (p1 ++ (x, u) :: p2).map Prod.fst ++ rest := by rw [e1]; simp
        rw [StepV.put (selfOk_spec (h.self y hym)).2.2 (fun t ht' => (Oper.apart_spec (hap (y, w) (by rw [e1]; simp))).2.2 t ht')]
        exact k2 E' l' W2 hR hS2 hs2
  · have hne : ∀ y, y ∈ p1.map Prod.fst ++ (p2.map Prod.fst ++ rest) → y.1 ≠ x.1 := by
      intro y hy
      have hp := h.pairs
      simp only [List.map_append, List.map_cons, List.append_assoc, List.cons_append] at hp
      rcases List.mem_append.1 hy with hy | hy
      · exact (pairOk_spec ((List.pairwise_append.1 hp).2.2 y hy x List.mem_cons_self)).2.2
      · exact fun e => (pairOk_spec ((List.pairwise_cons.1 (List.pairwise_append.1 hp).2.1).1 y hy)).2.2 e.symm
    have := un_erase (p := p1.map Prod.fst) (q := p2.map Prod.fst ++ rest) h.size hlt hne (by simpa using h.un)
    simpa using this
theorem Way.pass {tbl : List (List Nat)} {sw : Sw} {sp : Spec} {listed : Array Bool} {pend : List (PlanOp × Value)} {i : Nat} {o : Oper} {rest : List PlanOp} {Φ : Act → Prop} {l : List Chunk} {a : Act} {W : World} (h : Way P ro E ops Q R tbl sw sp listed pend ((i, true, o) :: rest) Φ l a W) :
    ∃ v Φ' sp', Way P ro E ops Q R tbl sw sp' listed (pend ++ [((i, true, o), v)]) rest Φ' l a W := by
  obtain ⟨v, S, hSl, hv, hp⟩ : ∃ v S, (∀ c, c ∈ S → c ∈ l) ∧ (∀ a, Φ a → ∀ E' l' W, (∀ c, c ∈ R → c ∈ l') → (∀ c, c ∈ S → c ∈ l') → Sat E' l' W → StepV P ro ops o a W (fun u W' => u = v ∧ Sat E' l' W')) ∧ SemPlan P ro E ops Q R tbl sw ((i, S) :: sp) rest (fun a' => ∃ a, Φ a ∧ a' = a.put o.dst v) l := by
    cases h.plan with
    | quiet v S h1 h2 h3 => exact ⟨v, S, h1, h2, h3⟩
  have e : (pend ++ [((i, true, o), v)]).map Prod.fst ++ rest = pend.map Prod.fst ++ (i, true, o) :: rest := by simp
  refine ⟨v, _, _, ⟨_, h.phi, by rw [putAll_append]; rfl⟩, h.sub, h.sat, hp, ?_, h.size, by rw [e]; exact h.un, by rw [e]; exact h.num, by rw [e]; exact h.self, by rw [e]; exact h.pairs, by rw [e]; exact h.swf, h.down⟩
  · intro p1 x u p2 hsp
    rcases List.append_eq_append_iff.1 hsp with ⟨m, e1, e2⟩ | ⟨m, e1, e2⟩
    · cases m with
      | nil =>
        simp only [List.nil_append, List.cons.injEq, List.append_nil] at e1 e2
        obtain ⟨e3, _⟩ := e2
        cases e3
        subst e1
        exact ⟨rfl, S, List.mem_cons_self, hSl, hv _ h.phi⟩
      | cons z m => simp at e2
    · cases m with
      | nil =>
        simp only [List.nil_append, List.cons.injEq, List.append_nil] at e1 e2
        obtain ⟨e3, _⟩ := e2
        cases e3
        subst e1
        exact ⟨rfl, S, List.mem_cons_self, hSl, hv _ h.phi⟩
      | cons z m =>
        simp only [List.cons_append, List.cons.injEq] at e2
        obtain ⟨e3, e4⟩ := e2
        subst e3
        obtain ⟨q1, S2, q2, q3, q4⟩ := h.quiet p1 x u m e1
        exact ⟨q1, S2, List.mem_cons_of_mem _ q2, q3, q4⟩
theorem pairOk_sw {tbl : List (List Nat)} {sw sw' : Sw} {x y : PlanOp} (h : pairOk ops tbl sw x y = true) (hn : swOk sw x.1 y.1 = false) : pairOk ops tbl sw' x y = true := by
  unfold pairOk at h ⊢
  simp only [Bool.and_eq_true, Bool.or_eq_true] at h ⊢
  obtain ⟨⟨h1, h2⟩, h3⟩ := h
  refine ⟨⟨.inl ?_, h2⟩, h3⟩
  rcases h1 with h1 | h1
  · exact h1
  · rw [hn] at h1; cases h1
theorem swIn_spec {sw : Sw} {pl : List PlanOp} (h : swIn sw pl = true) {i j : Nat} (hs : swOk sw i j = true) : ∃ x, x ∈ pl ∧ x.1 = i ∧ x.2.1 = false := by
  cases sw with
  | none => cases hs
  | some L =>
    simp only [swOk, List.contains_iff_mem] at hs
    have h1 := List.all_eq_true.1 h _ hs
    obtain ⟨x, hx, h2⟩ := List.any_eq_true.1 h1
    simp only [Bool.and_eq_true, beq_iff_eq, Bool.not_eq_true'] at h2
    exact ⟨x, hx, h2.1, h2.2⟩
theorem key_inj : ∀ (l : List PlanOp), (l.map (fun x : PlanOp => x.1)).Nodup → ∀ {x y : PlanOp}, x ∈ l → y ∈ l → x.1 = y.1 → x = y
  | [], _, _, _, hx, _, _ => by cases hx
  | z :: l, h, x, y, hx, hy, e => by
    rw [List.map_cons, List.nodup_cons] at h
    rcases List.mem_cons.1 hx with h1 | h1 <;> rcases List.mem_cons.1 hy with h2 | h2
    · rw [h1, h2]
    · exact (h.1 (List.mem_map.2 ⟨y, h2, by rw [← e, h1]⟩)).elim
    · exact (h.1 (List.mem_map.2 ⟨x, h1, by rw [e, h2]⟩)).elim
    · exact key_inj l h.2 h1 h2 e
theorem Way.eff_step {tbl : List (List Nat)} {sw : Sw} {sp : Spec} {listed : Array Bool} {pend : List (PlanOp × Value)} {i : Nat} {o : Oper} {rest : List PlanOp} {Φ : Act → Prop} {l : List Chunk} {a : Act} {W : World} (ht : tblOk ops tbl = true) (h : Way P ro E ops Q R tbl sw sp listed pend ((i, false, o) :: rest) Φ l a W) {j : Nat} (hr : j ∈ Region.ready .any ops listed) (hj : ∃ x, x ∈ (i, false, o) :: rest ∧ x.1 = j) :
    ∃ oj, ops[j]? = some oj ∧ notDefer oj.op = true ∧ StepV P ro ops oj a W (fun u W' => ∃ sw' rest' Φ' l', Way P ro E ops Q R tbl sw' sp (listed.setIfInBounds j true) pend rest' Φ' l' (a.put oj.dst u) W' ∧ rest'.length = rest.length) := by
  have hcand : Cand tbl sw i rest j := by
    obtain ⟨x, hx, hxj⟩ := hj
    rcases List.mem_cons.1 hx with rfl | hx
    · exact .inl hxj.symm
    · by_cases hij : j = i
      · exact .inl hij
      refine .inr ⟨?_, fun y hy => h.notAnc ht hr (x := y) (by simp [hy]), x, hx, hxj⟩
      have hp := (List.pairwise_cons.1 (List.pairwise_append.1 h.pairs).2.1).1 x hx
      rcases (pairOk_spec hp).1 with ⟨h1, _⟩ | h1 | h1
      · cases h1
      · have := h.notAnc ht hr (x := (i, false, o)) (by simp)
        simp only [hxj] at h1
        rw [this] at h1; cases h1
      · rw [hxj] at h1; exact h1
  obtain ⟨oj, Kj, rj, swj, hperm, hok, hst, hpl⟩ : ∃ (oj : Oper) (Kj : Act → Value → List Chunk → Prop) (rj : List PlanOp) (swj : Sw), ((j, false, oj) :: rj).Perm ((i, false, o) :: rest) ∧ ((j = i ∧ swj = sw ∧ rj = rest) ∨ (pairsOk ops tbl swj rj = true ∧ swIn swj rj = true)) ∧ SemPlanEff P ro E ops R tbl sp j oj Φ l Kj ∧ ∀ a v l', Kj a v l' → SemPlan P ro E ops Q R tbl swj sp rj (fun a' => a' = a.put oj.dst v) l' := by
    cases h.plan with
    | eff oo K rf sf h1 h2 h3 => exact ⟨oo j, K j, rf j, sf j, (h1 j hcand).1, (h1 j hcand).2, h2 j hcand, h3 j hcand⟩
  have hmem : ∀ x, x ∈ pend.map Prod.fst ++ (j, false, oj) :: rj ↔ x ∈ pend.map Prod.fst ++ (i, false, o) :: rest := fun x => by
    rw [List.mem_append, List.mem_append, hperm.mem_iff]
  have hxm : (j, false, oj) ∈ pend.map Prod.fst ++ (i, false, o) :: rest := (hmem _).1 (by simp)
  have hsubm : ∀ x, x ∈ pend.map Prod.fst ++ rj → x ∈ pend.map Prod.fst ++ (i, false, o) :: rest := fun x hx => (hmem x).1 (by
    rcases List.mem_append.1 hx with hx | hx
    · exact List.mem_append_left _ hx
    · exact List.mem_append_right _ (List.mem_cons_of_mem _ hx))
  have hq : ∀ q, q ∈ pend → q.1.2.1 = true := fun q hq => by
    obtain ⟨q1, q2, rfl⟩ := List.append_of_mem hq
    exact (h.quiet q1 q.1 q.2 q2 rfl).1
  have hqs : ∀ q, q ∈ pend → ∀ y, swOk sw q.1.1 y = false := fun q hqm y => by
    cases hc : swOk sw q.1.1 y with
    | false => rfl
    | true =>
      have := h.swf q.1 (List.mem_append_left _ (List.mem_map.2 ⟨q, hqm, rfl⟩)) _ hc
      rw [hq q hqm] at this; cases this
  have hcross : ∀ q, q ∈ pend → ∀ y, y ∈ (i, false, o) :: rest → pairOk ops tbl sw q.1 y = true := fun q hqm y hy => (List.pairwise_append.1 h.pairs).2.2 q.1 (List.mem_map.2 ⟨q, hqm, rfl⟩) y hy
  have hjr : (j, false, oj) ∈ (i, false, o) :: rest := hperm.mem_iff.1 (by simp)
  have hna : ∀ q, q ∈ pend → ancOf tbl j q.1.1 = false := fun q hq => h.notAnc ht hr (x := q.1) (List.mem_append_left _ (List.mem_map.2 ⟨q, hq, rfl⟩))
  have hap : ∀ q, q ∈ pend → q.1.2.2.apart ops oj = true := by
    intro q hqm
    rcases (pairOk_spec (hcross q hqm _ hjr)).1 with ⟨_, h1⟩ | h1 | h1
    · exact h1
    · simp only at h1
      rw [hna q hqm] at h1; cases h1
    · rw [hqs q hqm] at h1; cases h1
  have hsel := (selfOk_spec (h.self _ hxm)).2.2
  refine ⟨oj, h.num _ hxm, (selfOk_spec (h.self _ hxm)).2.1, ?_⟩
  have h1 := hst _ W h.phi h.sat
  rw [StepV.putAll hsel (fun q hqm t ht' => (Oper.apart_spec (hap q hqm)).1 t ht')] at h1
  refine h1.mono ?_
  rintro u W' ⟨l', hk, hR', hsp', hs'⟩
  have hp' := hpl _ _ _ hk
  have hcomm : ∀ q1 : List (PlanOp × Value), (∀ q, q ∈ q1 → q ∈ pend) → putAll q1 (a.put oj.dst u) = (putAll q1 a).put oj.dst u := fun q1 hq1 => putAll_put fun q hqm t ht' hc => (Oper.apart_spec (hap q (hq1 q hqm))).2.1 t hc ht'
  have hlt : j < ops.size := (Array.getElem?_eq_some_iff.1 (h.num _ hxm)).1
  have hnd : (((i, false, o) :: rest).map (fun x : PlanOp => x.1)).Nodup := by
    rw [List.nodup_iff_pairwise_ne, List.pairwise_map]
    exact (List.pairwise_append.1 h.pairs).2.1.imp fun hp => (pairOk_spec hp).2.2
  have hndj : ∀ y, y ∈ rj → y.1 ≠ j := by
    rw [← (hperm.map (fun x : PlanOp => x.1)).nodup_iff, List.map_cons, List.nodup_cons] at hnd
    exact fun y hy e => hnd.1 (List.mem_map.2 ⟨y, hy, e⟩)
  have hlen : rj.length = rest.length := by have := hperm.length_eq; simpa using this
  refine ⟨swj, rj, _, l', ⟨?_, hR', hs', hp', ?_, by simpa using h.size, ?_, fun y hy => h.num y (hsubm y hy), fun y hy => h.self y (hsubm y hy), ?_, fun y hy k hk => ?_, Way.down' (tbl := tbl) h.down h.size hr⟩, hlen⟩
  · exact hcomm pend fun _ hq => hq
  · intro q1 y w q2 hsp
    obtain ⟨k1, S2, k3, k4, k2⟩ := h.quiet q1 y w q2 hsp
    refine ⟨k1, S2, k3, hsp' _ k3 (hna (y, w) (by rw [hsp]; simp)), fun E' l2 W2 hR hS2 hs2 => ?_⟩
    rw [hcomm q1 (fun q hq => by rw [hsp]; exact List.mem_append_left _ hq)]
    have hym : y ∈ pend.map Prod.fst ++ (i, false, o) :: rest := by rw [hsp]; simp
    rw [StepV.put (selfOk_spec (h.self y hym)).2.2 (fun t ht' => (Oper.apart_spec (hap (y, w) (by rw [hsp]; simp))).2.2 t ht')]
    exact k2 E' l2 W2 hR hS2 hs2
  · have hne : ∀ y, y ∈ pend.map Prod.fst ++ rj → y.1 ≠ j := by
      intro y hy
      rcases List.mem_append.1 hy with hy | hy
      · obtain ⟨q, hqm, rfl⟩ := List.mem_map.1 hy
        exact (pairOk_spec (hcross q hqm _ hjr)).2.2
      · exact hndj y hy
    refine un_erase (x := (j, false, oj)) h.size hlt hne fun k hk => ?_
    rw [h.un k hk]
    exact ⟨fun ⟨x, hx, e⟩ => ⟨x, (hmem x).2 hx, e⟩, fun ⟨x, hx, e⟩ => ⟨x, (hmem x).1 hx, e⟩⟩
  · obtain ⟨p1, p2, p3⟩ := List.pairwise_append.1 h.pairs
    rcases hok with ⟨_, rfl, rfl⟩ | ⟨hok, _⟩
    · exact h.pairs.sublist (List.Sublist.append (List.Sublist.refl _) (List.sublist_cons_self _ _))
    · refine List.pairwise_append.2 ⟨?_, (pairsOk_spec hok).2, fun x hx y hy => ?_⟩
      · refine List.Pairwise.imp_of_mem (fun {x y} hx hy hxy => ?_) p1
        obtain ⟨q, hqm, rfl⟩ := List.mem_map.1 hx
        exact pairOk_sw hxy (hqs q hqm _)
      · obtain ⟨q, hqm, rfl⟩ := List.mem_map.1 hx
        exact pairOk_sw (hcross q hqm y (hperm.mem_iff.1 (List.mem_cons_of_mem _ hy))) (hqs q hqm _)
  · rcases hok with ⟨_, rfl, rfl⟩ | ⟨_, hin⟩
    · exact h.swf y (by
        rcases List.mem_append.1 hy with hy | hy
        · exact List.mem_append_left _ hy
        · exact List.mem_append_right _ (List.mem_cons_of_mem _ hy)) k hk
    · obtain ⟨x, hx, e1, e2⟩ := swIn_spec hin hk
      rcases List.mem_append.1 hy with hy | hy
      · exfalso
        obtain ⟨q, hqm, rfl⟩ := List.mem_map.1 hy
        exact (pairOk_spec (hcross q hqm x (hperm.mem_iff.1 (List.mem_cons_of_mem _ hx)))).2.2 e1.symm
      · have hn2 : (rj.map (fun x : PlanOp => x.1)).Nodup := by
          rw [← (hperm.map (fun x : PlanOp => x.1)).nodup_iff, List.map_cons, List.nodup_cons] at hnd
          exact hnd.2
        rw [← key_inj rj hn2 hx hy e1]; exact e2
theorem Way.reach {tbl : List (List Nat)} {sw : Sw} {listed : Array Bool} {l : List Chunk} {a : Act} {W : World} {j : Nat} (ht : tblOk ops tbl = true) (hr : j ∈ Region.ready .any ops listed) : ∀ (rest : List PlanOp) (sp : Spec) (pend : List (PlanOp × Value)) (Φ : Act → Prop), Way P ro E ops Q R tbl sw sp listed pend rest Φ l a W → (∃ x, x ∈ rest ∧ x.1 = j) →
    ∃ (o : Oper) (next : Value → World → Prop), ops[j]? = some o ∧ notDefer o.op = true ∧ StepV P ro ops o a W (fun u W' => next u W') ∧ ∀ u W', next u W' → ∃ sw' sp' pend' rest' Φ' l', Way P ro E ops Q R tbl sw' sp' (listed.setIfInBounds j true) pend' rest' Φ' l' (a.put o.dst u) W' ∧ pend'.length + rest'.length + 1 = pend.length + rest.length
  | [], _, _, _, _, ⟨x, hx, _⟩ => by cases hx
  | (i, true, o) :: rest, sp, pend, Φ, h, ⟨x, hx, hxj⟩ => by
    have him : (i, true, o) ∈ pend.map Prod.fst ++ (i, true, o) :: rest := by simp
    obtain ⟨v, Φ', sp', h'⟩ := h.pass
    by_cases hij : i = j
    · subst hij
      refine ⟨o, _, h.num _ him, (selfOk_spec (h.self _ him)).2.1, Way.pend_step (p1 := pend) (p2 := []) (x := (i, true, o)) ht h' hr, fun u W' hw => ⟨_, _, _, _, _, _, hw, by simp; omega⟩⟩
    · have hxr : x ∈ rest := by
        rcases List.mem_cons.1 hx with rfl | hx
        · exact absurd hxj hij
        · exact hx
      obtain ⟨o', next, k1, k2, k3, k4⟩ := Way.reach ht hr rest _ _ Φ' h' ⟨x, hxr, hxj⟩
      refine ⟨o', next, k1, k2, k3, fun u W' hw => ?_⟩
      obtain ⟨sw2, sp2, p', r', Φ2, l2, hw2, hlen⟩ := k4 u W' hw
      exact ⟨sw2, sp2, p', r', Φ2, l2, hw2, by simp at hlen ⊢; omega⟩
  | (i, false, o) :: rest, sp, pend, Φ, h, hx => by
    obtain ⟨oj, k1, k2, k3⟩ := h.eff_step ht hr hx
    exact ⟨oj, _, k1, k2, k3, fun u W' ⟨sw', rest', Φ', l', hw, hl⟩ => ⟨_, _, _, _, _, _, hw, by simp; omega⟩⟩
theorem Way.fin {tbl : List (List Nat)} {sw : Sw} {sp : Spec} {listed : Array Bool} {pend : List (PlanOp × Value)} {rest : List PlanOp} {Φ : Act → Prop} {l : List Chunk} {a : Act} {W : World} (h : Way P ro E ops Q R tbl sw sp listed pend rest Φ l a W) (h0 : Region.ready .any ops listed = []) : Q .normal a W := by
  have hnil : pend = [] ∧ rest = [] := by
    have key : pend.map Prod.fst ++ rest = [] := by
      cases hpr : pend.map Prod.fst ++ rest with
      | nil => rfl
      | cons x r =>
        exfalso
        have hxm : x ∈ pend.map Prod.fst ++ rest := by rw [hpr]; exact List.mem_cons_self
        have hlt : x.1 < ops.size := (Array.getElem?_eq_some_iff.1 (h.num x hxm)).1
        have hmem : x.1 ∈ Region.ready .any ops listed := by
          refine mem_ready.2 ⟨(h.un x.1 hlt).2 ⟨x, hxm, rfl⟩, x.2.2, h.num x hxm, fun e he hb => ?_⟩
          obtain ⟨h1, h2⟩ := (selfOk_spec (h.self x hxm)).1 e he hb
          cases hg : listed.getD e.on false
          · exfalso
            obtain ⟨y, hy, hye⟩ := (h.un e.on h2).1 (by rw [getD_tf (by rw [h.size]; exact h2)]; exact hg)
            have hp := h.pairs
            rw [hpr] at hp hy
            rcases List.mem_cons.1 hy with rfl | hy
            · exact h1 hye.symm
            · exact (pairOk_spec ((List.pairwise_cons.1 hp).1 y hy)).2.1 e he hb hye.symm
          · rfl
        rw [h0] at hmem
        cases hmem
    have h1 := List.append_eq_nil_iff.1 key
    exact ⟨List.map_eq_nil_iff.1 h1.1, h1.2⟩
  obtain ⟨rfl, rfl⟩ := hnil
  cases h.plan with
  | nil h2 => exact h2 a W h.phi h.sat
theorem Way.any {tbl : List (List Nat)} (ht : tblOk ops tbl = true) : ∀ (fuel : Nat) (sw : Sw) (sp : Spec) (listed : Array Bool) (pend : List (PlanOp × Value)) (rest : List PlanOp) (Φ : Act → Prop) (l : List Chunk) (a : Act) (W : World), Way P ro E ops Q R tbl sw sp listed pend rest Φ l a W → pend.length + rest.length ≤ fuel → wpAnyIn (Fw ro) 0 P .any ops Q fuel listed a W := by
  intro fuel
  induction fuel with
  | zero =>
    intro sw sp listed pend rest Φ l a W h hl
    have hp : pend = [] := List.length_eq_zero_iff.1 (by omega)
    have hr : rest = [] := List.length_eq_zero_iff.1 (by omega)
    subst hp hr
    have h0 : Region.ready .any ops listed = [] := by
      cases hrd : Region.ready .any ops listed with
      | nil => rfl
      | cons j r =>
        exfalso
        have hj : j ∈ Region.ready .any ops listed := by rw [hrd]; exact List.mem_cons_self
        obtain ⟨h1, o, ho, _⟩ := mem_ready.1 hj
        obtain ⟨x, hx, _⟩ := (h.un j (Array.getElem?_eq_some_iff.1 ho).1).1 h1
        simp at hx
    exact ⟨h0, h.fin h0⟩
  | succ fuel ih =>
    intro sw sp listed pend rest Φ l a W h hl
    refine ⟨fun h0 => h.fin h0, fun j hj => ?_⟩
    obtain ⟨h1, o, ho, hall⟩ := mem_ready.1 hj
    obtain ⟨x, hx, hxj⟩ := (h.un j (Array.getElem?_eq_some_iff.1 ho).1).1 h1
    rcases List.mem_append.1 hx with hxp | hxr
    · obtain ⟨⟨x', v⟩, hm, rfl⟩ := List.mem_map.1 hxp
      obtain ⟨p1, p2, rfl⟩ := List.append_of_mem hm
      simp only at hxj hx
      subst hxj
      refine StepV.op (h.num x' hx) (selfOk_spec (h.self x' hx)).2.1 (h.pend_step ht hj) fun u W' hw => ih _ _ _ _ _ _ _ _ _ hw (by simp at hl ⊢; omega)
    · obtain ⟨o', next, k1, k2, k3, k4⟩ := Way.reach ht hj rest _ pend Φ h ⟨x, hxr, hxj⟩
      refine StepV.op k1 k2 k3 fun u W' hw => ?_
      obtain ⟨sw2, sp2, p', r', Φ2, l2, hw2, hlen⟩ := k4 u W' hw
      exact ih _ _ _ _ _ _ _ _ _ hw2 (by omega)
/-! the walk of a plan -/
theorem yielded_un0 {N : Nat} {fr : Fr} {ops : Array Oper} {a : Act} {j d : Nat} {oj : Oper} (hf : FSat N fr a) (hj : ops[j]? = some oj) (hd : oj.dst = some d) (hb : flook fr d = some undef) : yielded ops a.tmps j = none := by
  have := hf.at_ d _ hb
  simp [yielded, hj, hd, this, undef]
inductive PlanS (P : Program) (ro : Option Nat) (N : Nat) (E : World) (ops : Array Oper) (Q : Exit → Act → World → Prop) (R : List Chunk) (tbl : List (List Nat)) : Sw → Spec → List PlanOp → Fr → List Deferred → List Chunk → Prop
  | nil {sw : Sw} {sp : Spec} {fr : Fr} {ds : List Deferred} {l : List Chunk} : PostS N E Q .normal fr ds l → PlanS P ro N E ops Q R tbl sw sp [] fr ds l
  | q {sw : Sw} {sp : Spec} {i : Nat} {o : Oper} {v : Value} {rest : List PlanOp} {fr : Fr} {ds : List Deferred} {l : List Chunk} : OpQ P ro N fr R o v → o.guard = none → okDst N o.dst = true → PlanS P ro N E ops Q R tbl sw sp rest (putF o.dst v fr) ds l → PlanS P ro N E ops Q R tbl sw sp ((i, true, o) :: rest) fr ds l
  | gq {sw : Sw} {sp : Spec} {i j dj : Nat} {o oj : Oper} {b : Bool} {v : Value} {rest : List PlanOp} {fr : Fr} {ds : List Deferred} {l : List Chunk} : OpQ P ro N fr R o v → o.guard = some (j, b) → ops[j]? = some oj → oj.dst = some dj → flook fr dj = some (.bool b) → okDst N o.dst = true → PlanS P ro N E ops Q R tbl sw sp rest (putF o.dst v fr) ds l → PlanS P ro N E ops Q R tbl sw sp ((i, true, o) :: rest) fr ds l
  | gs {sw : Sw} {sp : Spec} {i j dj : Nat} {o oj : Oper} {b b' : Bool} {rest : List PlanOp} {fr : Fr} {ds : List Deferred} {l : List Chunk} {k : Bool} : o.guard = some (j, b) → ops[j]? = some oj → oj.dst = some dj → flook fr dj = some (.bool b') → (b' == b) = false → okDst N o.dst = true → (∀ c, c ∈ R → c ∈ l) → (k = false → sw = none) → (k = false → ∀ x, x ∈ sp → ancOf tbl i x.1 = false → ∀ c, c ∈ x.2 → c ∈ l) → PlanS P ro N E ops Q R tbl sw sp rest (putF o.dst undef fr) ds l → PlanS P ro N E ops Q R tbl sw sp ((i, k, o) :: rest) fr ds l
  | gu {sw : Sw} {sp : Spec} {i j dj : Nat} {o oj : Oper} {b : Bool} {rest : List PlanOp} {fr : Fr} {ds : List Deferred} {l : List Chunk} {k : Bool} : o.guard = some (j, b) → ops[j]? = some oj → oj.dst = some dj → flook fr dj = some undef → okDst N o.dst = true → (∀ c, c ∈ R → c ∈ l) → (k = false → sw = none) → (k = false → ∀ x, x ∈ sp → ancOf tbl i x.1 = false → ∀ c, c ∈ x.2 → c ∈ l) → PlanS P ro N E ops Q R tbl sw sp rest (putF o.dst undef fr) ds l → PlanS P ro N E ops Q R tbl sw sp ((i, k, o) :: rest) fr ds l
  | e {sp : Spec} {i : Nat} {o : Oper} {K : Value → List Chunk → Prop} {rest : List PlanOp} {fr : Fr} {ds : List Deferred} {l : List Chunk} : OpE P ro N fr l o K → o.guard = none → okDst N o.dst = true → (∀ v l', K v l' → (∀ c, c ∈ R → c ∈ l')) → (∀ v l', K v l' → ∀ x, x ∈ sp → ancOf tbl i x.1 = false → ∀ c, c ∈ x.2 → c ∈ l') → (∀ v l', K v l' → PlanS P ro N E ops Q R tbl none sp rest (putF o.dst v fr) ds l') → PlanS P ro N E ops Q R tbl none sp ((i, false, o) :: rest) fr ds l
  | ge {sp : Spec} {i j dj : Nat} {o oj : Oper} {b : Bool} {K : Value → List Chunk → Prop} {rest : List PlanOp} {fr : Fr} {ds : List Deferred} {l : List Chunk} : OpE P ro N fr l o K → o.guard = some (j, b) → ops[j]? = some oj → oj.dst = some dj → flook fr dj = some (.bool b) → okDst N o.dst = true → (∀ v l', K v l' → (∀ c, c ∈ R → c ∈ l')) → (∀ v l', K v l' → ∀ x, x ∈ sp → ancOf tbl i x.1 = false → ∀ c, c ∈ x.2 → c ∈ l') → (∀ v l', K v l' → PlanS P ro N E ops Q R tbl none sp rest (putF o.dst v fr) ds l') → PlanS P ro N E ops Q R tbl none sp ((i, false, o) :: rest) fr ds l
  | weak {sw : Sw} {sp : Spec} {pl : List PlanOp} {fr fr' : Fr} {ds : List Deferred} {l : List Chunk} : (∀ d v, flook fr' d = some v → flook fr d = some v) → PlanS P ro N E ops Q R tbl sw sp pl fr' ds l → PlanS P ro N E ops Q R tbl sw sp pl fr ds l
  | sq {sw : Sw} {sp : Spec} {i : Nat} {o : Oper} {v : Value} {S : List Chunk} {rest : List PlanOp} {fr : Fr} {ds : List Deferred} {l : List Chunk} : OpQ P ro N fr S o v → (∀ c, c ∈ S → c ∈ l) → o.guard = none → okDst N o.dst = true → PlanS P ro N E ops Q R tbl sw ((i, S) :: sp) rest (putF o.dst v fr) ds l → PlanS P ro N E ops Q R tbl sw sp ((i, true, o) :: rest) fr ds l
  | alt {L : List (Nat × Nat)} {sp : Spec} {i : Nat} {o : Oper} {rest : List PlanOp} {fr : Fr} {ds : List Deferred} {l : List Chunk} (oo : Nat → Oper) (K : Nat → Value → List Chunk → Prop) (rf : Nat → List PlanOp) (sf : Nat → Sw) :
      (∀ j, Cand tbl (some L) i rest j → ((j, false, oo j) :: rf j).Perm ((i, false, o) :: rest) ∧ pairsOk ops tbl (sf j) (rf j) = true ∧ swIn (sf j) (rf j) = true) →
      (∀ j, Cand tbl (some L) i rest j → OpE P ro N fr l (oo j) (K j) ∧ gst ops fr (oo j).guard = some true ∧ okDst N (oo j).dst = true) →
      (∀ j, Cand tbl (some L) i rest j → ∀ v l', K j v l' → (∀ c, c ∈ R → c ∈ l') ∧ (∀ x, x ∈ sp → ancOf tbl j x.1 = false → ∀ c, c ∈ x.2 → c ∈ l')) →
      (∀ j, Cand tbl (some L) i rest j → ∀ v l', K j v l' → PlanS P ro N E ops Q R tbl (sf j) sp (rf j) (putF (oo j).dst v fr) ds l') → PlanS P ro N E ops Q R tbl (some L) sp ((i, false, o) :: rest) fr ds l
  | alt2 {i j : Nat} {sp : Spec} {o oj : Oper} {rest rj : List PlanOp} {fr : Fr} {ds : List Deferred} {l : List Chunk} : j ≠ i → ((j, false, oj) :: rj).Perm ((i, false, o) :: rest) → pairsOk ops tbl none rj = true → (∀ x, x ∈ rest → x.1 ≠ i) → PlanS P ro N E ops Q R tbl none sp ((i, false, o) :: rest) fr ds l → PlanS P ro N E ops Q R tbl none sp ((j, false, oj) :: rj) fr ds l → PlanS P ro N E ops Q R tbl (some [(i, j)]) sp ((i, false, o) :: rest) fr ds l
theorem SemPlan.weak {tbl : List (List Nat)} {sw : Sw} {pl : List PlanOp} {sp : Spec} {Φ Φ' : Act → Prop} {l : List Chunk} (h : ∀ a, Φ' a → Φ a) (hp : SemPlan P ro E ops Q R tbl sw sp pl Φ l) : SemPlan P ro E ops Q R tbl sw sp pl Φ' l := by
  induction hp generalizing Φ' with
  | nil hp => exact .nil fun a W ha hs => hp a W (h a ha) hs
  | quiet v S h0 h1 _ ih => exact .quiet v S h0 (fun a ha => h1 a (h a ha)) (ih fun a' ⟨a, ha, e⟩ => ⟨a, h a ha, e⟩)
  | eff oo K rf sf h1 h2 h3 ih => exact .eff oo K rf sf h1 (fun j hj a W ha hs => h2 j hj a W (h a ha) hs) h3
def SpLe (sp' sp : Spec) : Prop := ∀ x, x ∈ sp' → x ∈ sp ∨ x.2 = []
theorem SpLe.none {sp' sp : Spec} (h : SpLe sp' sp) (i : Nat) : SpLe ((i, []) :: sp') sp := fun x hx => by
  rcases List.mem_cons.1 hx with rfl | hx
  · exact .inr rfl
  · exact h x hx
theorem SpLe.one {sp' sp : Spec} (h : SpLe sp' sp) (x : Nat × List Chunk) : SpLe (x :: sp') (x :: sp) := fun y hy => by
  rcases List.mem_cons.1 hy with rfl | hy
  · exact .inl List.mem_cons_self
  · exact (h y hy).imp (List.mem_cons_of_mem _) id
theorem SemPlan.one {tbl : List (List Nat)} {sw : Sw} {sp : Spec} {i : Nat} {o : Oper} {rest : List PlanOp} {Φ : Act → Prop} {l : List Chunk} (hno : ∀ j, swOk sw i j = false) (K : Act → Value → List Chunk → Prop) (h2 : SemPlanEff P ro E ops R tbl sp i o Φ l K) (h3 : ∀ a v l', K a v l' → SemPlan P ro E ops Q R tbl sw sp rest (fun a' => a' = a.put o.dst v) l') : SemPlan P ro E ops Q R tbl sw sp ((i, false, o) :: rest) Φ l := by
  have key : ∀ j, Cand tbl sw i rest j → j = i := fun j hj => by
    rcases hj with rfl | ⟨h, _⟩
    · rfl
    · rw [hno] at h; cases h
  exact .eff (fun _ => o) (fun _ => K) (fun _ => rest) (fun _ => sw) (fun j hj => by obtain rfl := key j hj; exact ⟨.refl _, .inl ⟨rfl, rfl, rfl⟩⟩) (fun j hj => by obtain rfl := key j hj; exact h2) fun j hj => h3
theorem SemPlan.free {tbl : List (List Nat)} {sw : Sw} {sp : Spec} {pl : List PlanOp} {Φ : Act → Prop} {l : List Chunk} {n : Sw} (h : SemPlan P ro E ops Q R tbl n sp pl Φ l) : n = none → (∀ x, x ∈ pl → ∀ j, swOk sw x.1 j = false) → SemPlan P ro E ops Q R tbl sw sp pl Φ l := by
  induction h with
  | nil h => exact fun _ _ => .nil h
  | quiet v S h0 h1 _ ih => exact fun hn hx => .quiet v S h0 h1 (ih hn fun x hx' => hx x (List.mem_cons_of_mem _ hx'))
  | eff oo K rf sf h1 h2 h3 ih =>
    rename_i n sp i o rest Φ l
    intro hn hx
    subst hn
    have hc : Cand tbl none i rest i := .inl rfl
    obtain ⟨p1, p2⟩ := h1 i hc
    have key : ∀ j, Cand tbl sw i rest j → j = i := fun j hj => by
      rcases hj with rfl | ⟨h, _⟩
      · rfl
      · rw [hx _ List.mem_cons_self] at h; cases h
    rcases p2 with ⟨_, p3, p4⟩ | ⟨p3, p4⟩
    · refine .eff oo K rf (fun _ => sw) (fun j hj => ?_) (fun j hj => ?_) fun j hj => ?_
      all_goals obtain rfl := key j hj
      · exact ⟨p1, .inl ⟨rfl, rfl, p4⟩⟩
      · exact h2 _ hc
      · exact fun a v l' k => ih _ hc a v l' k p3 fun x hx' => hx x (List.mem_cons_of_mem _ (by rw [p4] at hx'; exact hx'))
    · refine .eff oo K rf sf (fun j hj => ?_) (fun j hj => ?_) fun j hj => ?_
      all_goals obtain rfl := key j hj
      · exact ⟨p1, .inr ⟨p3, p4⟩⟩
      · exact h2 _ hc
      · exact h3 _ hc
theorem gst_wanted {a : Act} {fr : Fr} {o : Oper} (h1 : FSat N fr a) (h : gst ops fr o.guard = some true) : Region.wanted o (yielded ops a.tmps) = true := by
  rcases gst_some h with ⟨hg, _⟩ | ⟨j, b, oj, dj, b', hg, hj, hjd, hb, he⟩
  · simp [Region.wanted, hg]
  · have hy := yielded_of (ops := ops) h1 hj hjd hb
    simpa [Region.wanted, hg, hy] using he
theorem PlanS.sem {tbl : List (List Nat)} {sw : Sw} {sp : Spec} {pl : List PlanOp} {fr : Fr} {ds : List Deferred} {l : List Chunk} (h : PlanS P ro N E ops Q R tbl sw sp pl fr ds l) : ∀ sp', SpLe sp' sp → SemPlan P ro E ops Q R tbl sw sp' pl (fun a => FSat N fr a ∧ a.defers = ds) l := by
  have step : ∀ {o : Oper} {K : Value → List Chunk → Prop} {fr : Fr} {l : List Chunk} {sp sp' : Spec} {i : Nat} {ds : List Deferred}, OpE P ro N fr l o K → (∀ a, FSat N fr a → Region.wanted o (yielded ops a.tmps) = true) → (∀ v l', K v l' → (∀ c, c ∈ R → c ∈ l')) → (∀ v l', K v l' → ∀ x, x ∈ sp → ancOf tbl i x.1 = false → ∀ c, c ∈ x.2 → c ∈ l') → SpLe sp' sp → SemPlanEff P ro E ops R tbl sp' i o (fun a => FSat N fr a ∧ a.defers = ds) l (fun a v l' => (FSat N fr a ∧ a.defers = ds) ∧ K v l') := by
    intro o K fr l sp sp' i ds ho hw hR hS hle a W ⟨h1, h2⟩ hs
    unfold StepV
    rw [if_pos (hw a h1)]
    refine (ho.val E a W h1 hs).mono fun v w ⟨l', k1, k2⟩ => ⟨l', ⟨⟨h1, h2⟩, k1⟩, hR v l' k1, fun x hx ha c hc => ?_, k2⟩
    rcases hle x hx with h | h
    · exact hS v l' k1 x h ha c hc
    · rw [h] at hc; cases hc
  induction h with
  | nil h => exact fun sp' _ => .nil fun a W ⟨h1, h2⟩ hs => h.run a W h1 h2 hs
  | q ho hg hd _ ih =>
    rename_i sw sp i o v rest fr ds l _
    intro sp' hle
    refine .quiet v [] (by simp) (fun a ⟨h1, h2⟩ E' l' W hR _ hs => ?_) ((ih _ (hle.none i)).weak fun a' ⟨a, ⟨h1, h2⟩, he⟩ => by subst he; exact ⟨h1.put v hd, (put_defers _ _ _).trans h2⟩)
    unfold StepV
    rw [if_pos (by simp [Region.wanted, hg])]
    exact ((ho.run l' hR).val E' a W h1 hs).mono fun u w ⟨l2, ⟨k1, k2⟩, k3⟩ => ⟨k1, by rw [← k2]; exact k3⟩
  | gq ho hg hj hjd hb hd _ ih =>
    rename_i sw sp i j dj o oj b v rest fr ds l _
    intro sp' hle
    refine .quiet v [] (by simp) (fun a ⟨h1, h2⟩ E' l' W hR _ hs => ?_) ((ih _ (hle.none i)).weak fun a' ⟨a, ⟨h1, h2⟩, he⟩ => by subst he; exact ⟨h1.put v hd, (put_defers _ _ _).trans h2⟩)
    unfold StepV
    have hy := yielded_of (ops := ops) h1 hj hjd hb
    rw [if_pos (by simp [Region.wanted, hg, hy])]
    exact ((ho.run l' hR).val E' a W h1 hs).mono fun u w ⟨l2, ⟨k1, k2⟩, k3⟩ => ⟨k1, by rw [← k2]; exact k3⟩
  | gs hg hj hjd hb hne hd hR0 hswn hspl _ ih =>
    rename_i sw sp i j dj o oj b b' rest fr ds l k _
    intro sp' hle
    have hw : ∀ a, FSat N fr a → ¬ Region.wanted o (yielded ops a.tmps) = true := fun a h1 => by
      have hy := yielded_of (ops := ops) h1 hj hjd hb
      simp [Region.wanted, hg, hy]
      intro e; rw [e] at hne; simp at hne
    cases k with
    | true =>
      refine .quiet undef [] (by simp) (fun a ⟨h1, h2⟩ E' l' W hR _ hs => ?_) ((ih _ (hle.none i)).weak fun a' ⟨a, ⟨h1, h2⟩, he⟩ => by subst he; exact ⟨h1.put undef hd, (put_defers _ _ _).trans h2⟩)
      unfold StepV
      rw [if_neg (hw a h1)]
      exact ⟨rfl, hs⟩
    | false =>
      refine .one (fun j => by rw [hswn rfl]; rfl) (fun a v l' => (FSat N fr a ∧ a.defers = ds) ∧ v = undef ∧ l' = l) (fun a W ⟨h1, h2⟩ hs => ?_) ?_
      · unfold StepV
        rw [if_neg (hw a h1)]
        refine ⟨l, ⟨⟨h1, h2⟩, rfl, rfl⟩, hR0, fun x hx ha c hc => ?_, hs⟩
        rcases hle x hx with h | h
        · exact hspl rfl x h ha c hc
        · rw [h] at hc; cases hc
      · rintro a _ _ ⟨⟨h1, h2⟩, rfl, rfl⟩
        exact (ih _ hle).weak fun a' he => by subst he; exact ⟨h1.put undef hd, (put_defers _ _ _).trans h2⟩
  | gu hg hj hjd hb hd hR0 hswn hspl _ ih =>
    rename_i sw sp i j dj o oj b rest fr ds l k _
    intro sp' hle
    have hw : ∀ a, FSat N fr a → ¬ Region.wanted o (yielded ops a.tmps) = true := fun a h1 => by
      have hy := yielded_un0 h1 hj hjd hb
      simp [Region.wanted, hg, hy]
    cases k with
    | true =>
      refine .quiet undef [] (by simp) (fun a ⟨h1, h2⟩ E' l' W hR _ hs => ?_) ((ih _ (hle.none i)).weak fun a' ⟨a, ⟨h1, h2⟩, he⟩ => by subst he; exact ⟨h1.put undef hd, (put_defers _ _ _).trans h2⟩)
      unfold StepV
      rw [if_neg (hw a h1)]
      exact ⟨rfl, hs⟩
    | false =>
      refine .one (fun j => by rw [hswn rfl]; rfl) (fun a v l' => (FSat N fr a ∧ a.defers = ds) ∧ v = undef ∧ l' = l) (fun a W ⟨h1, h2⟩ hs => ?_) ?_
      · unfold StepV
        rw [if_neg (hw a h1)]
        refine ⟨l, ⟨⟨h1, h2⟩, rfl, rfl⟩, hR0, fun x hx ha c hc => ?_, hs⟩
        rcases hle x hx with h | h
        · exact hspl rfl x h ha c hc
        · rw [h] at hc; cases hc
      · rintro a _ _ ⟨⟨h1, h2⟩, rfl, rfl⟩
        exact (ih _ hle).weak fun a' he => by subst he; exact ⟨h1.put undef hd, (put_defers _ _ _).trans h2⟩
  | e ho hg hd hR hS _ ih =>
    rename_i sp i o K rest fr ds l _
    intro sp' hle
    refine .one (fun _ => rfl) _ (step ho (fun a _ => by simp [Region.wanted, hg]) hR hS hle) ?_
    rintro a v l' ⟨⟨h1, h2⟩, k1⟩
    exact (ih v l' k1 _ hle).weak fun a' he => by subst he; exact ⟨h1.put v hd, (put_defers _ _ _).trans h2⟩
  | ge ho hg hj hjd hb hd hR hS _ ih =>
    rename_i sp i j dj o oj b K rest fr ds l _
    intro sp' hle
    refine .one (fun _ => rfl) _ (step ho (fun a h1 => by
      have hy := yielded_of (ops := ops) h1 hj hjd hb
      simp [Region.wanted, hg, hy]) hR hS hle) ?_
    rintro a v l' ⟨⟨h1, h2⟩, k1⟩
    exact (ih v l' k1 _ hle).weak fun a' he => by subst he; exact ⟨h1.put v hd, (put_defers _ _ _).trans h2⟩
  | weak hw _ ih => exact fun sp' hle => (ih sp' hle).weak fun a ⟨h1, h2⟩ => ⟨h1.sub hw, h2⟩
  | sq ho hSl hg hd _ ih =>
    rename_i sw sp i o v S rest fr ds l _
    intro sp' hle
    refine .quiet v S hSl (fun a ⟨h1, h2⟩ E' l' W hR hS hs => ?_) ((ih _ (hle.one (i, S))).weak fun a' ⟨a, ⟨h1, h2⟩, he⟩ => by subst he; exact ⟨h1.put v hd, (put_defers _ _ _).trans h2⟩)
    unfold StepV
    rw [if_pos (by simp [Region.wanted, hg])]
    exact ((ho.run l' hS).val E' a W h1 hs).mono fun u w ⟨l2, ⟨k1, k2⟩, k3⟩ => ⟨k1, by rw [← k2]; exact k3⟩
  | alt oo K rf sf hpm hop hRS _ ih =>
    rename_i L sp i o rest fr ds l _
    intro sp' hle
    refine .eff oo (fun j a v l' => (FSat N fr a ∧ a.defers = ds) ∧ K j v l') rf sf (fun j hj => ⟨(hpm j hj).1, .inr (hpm j hj).2⟩) (fun j hj => ?_) fun j hj => ?_
    · obtain ⟨ho, hw, _⟩ := hop j hj
      exact step ho (fun a h1 => gst_wanted h1 hw) (fun v l' k => (hRS j hj v l' k).1) (fun v l' k => (hRS j hj v l' k).2) hle
    · rintro a v l' ⟨⟨h1, h2⟩, k1⟩
      exact (ih j hj v l' k1 _ hle).weak fun a' he => by subst he; exact ⟨h1.put v (hop j hj).2.2, (put_defers _ _ _).trans h2⟩
  | alt2 hij hp hpo hni _ _ ih1 ih2 =>
    rename_i i j sp o oj rest rj fr ds l _ _
    intro sp' hle
    have g1 := ih1 sp' hle
    have g2 := ih2 sp' hle
    have hj : ∀ k, Cand tbl (some [(i, j)]) i rest k → k = i ∨ k = j := fun k hk => by
      rcases hk with h | ⟨h, _⟩
      · exact .inl h
      · refine .inr ?_
        simpa [swOk] using h
    cases g1 with
    | eff oo1 K1 rf1 sf1 a1 a2 a3 =>
      cases g2 with
      | eff oo2 K2 rf2 sf2 b1 b2 b3 =>
        have ci : Cand tbl none i rest i := .inl rfl
        have cj : Cand tbl none j rj j := .inl rfl
        obtain ⟨sw1, c1, c2⟩ : ∃ sw1, ((i = i ∧ sw1 = some [(i, j)] ∧ rf1 i = rest) ∨ (pairsOk ops tbl sw1 (rf1 i) = true ∧ swIn sw1 (rf1 i) = true)) ∧ ∀ a v l', K1 i a v l' → SemPlan P ro E ops Q R tbl sw1 sp' (rf1 i) (fun a' => a' = a.put (oo1 i).dst v) l' := by
          rcases (a1 i ci).2 with ⟨_, e1, e2⟩ | h
          · refine ⟨some [(i, j)], .inl ⟨rfl, rfl, e2⟩, fun a v l' k => ?_⟩
            have := a3 i ci a v l' k
            rw [e1, e2] at this
            rw [e2]
            refine this.free rfl fun x hx k => ?_
            have := hni x hx
            simp [swOk, this]
          · exact ⟨sf1 i, .inr h, a3 i ci⟩
        obtain ⟨d1, d2⟩ : pairsOk ops tbl (sf2 j) (rf2 j) = true ∧ swIn (sf2 j) (rf2 j) = true := by
          rcases (b1 j cj).2 with ⟨_, e1, e2⟩ | h
          · rw [e1, e2]; exact ⟨hpo, rfl⟩
          · exact h
        refine .eff (fun k => if k = i then oo1 i else oo2 j) (fun k => if k = i then K1 i else K2 j) (fun k => if k = i then rf1 i else rf2 j) (fun k => if k = i then sw1 else sf2 j) (fun k hk => ?_) (fun k hk => ?_) fun k hk => ?_
        · rcases hj k hk with h | h
          · subst h; simp only [if_true, true_and]; simp only [true_and] at c1; exact ⟨(a1 k ci).1, c1⟩
          · subst h; simp only [if_neg hij]; exact ⟨(b1 k cj).1.trans hp, .inr ⟨d1, d2⟩⟩
        · rcases hj k hk with h | h
          · subst h; simp only [if_true]; exact a2 k ci
          · subst h; simp only [if_neg hij]; exact b2 k cj
        · rcases hj k hk with h | h
          · subst h; simp only [if_true]; exact c2
          · subst h; simp only [if_neg hij]; exact b3 k cj
inductive Attach (os : List Oper) : List (Nat × Bool) → List PlanOp → Prop
  | nil : Attach os [] []
  | cons {i : Nat} {b : Bool} {o : Oper} {r : List (Nat × Bool)} {pl : List PlanOp} : os[i]? = some o → Attach os r pl → Attach os ((i, b) :: r) ((i, b, o) :: pl)
theorem Attach.spec {os : List Oper} {r : List (Nat × Bool)} {pl : List PlanOp} (h : Attach os r pl) : (∀ x, x ∈ pl → os.toArray[x.1]? = some x.2.2) ∧ pl.map (fun x => x.1) = r.map Prod.fst := by
  induction h with
  | nil => exact ⟨by simp, rfl⟩
  | cons h1 _ ih =>
    refine ⟨fun x hx => ?_, by simp [ih.2]⟩
    rcases List.mem_cons.1 hx with rfl | hx
    · simpa using h1
    · exact ih.1 x hx
def attachF (os : List Oper) : List (Nat × Bool) → List PlanOp
  | [] => []
  | (i, b) :: r => match os[i]? with
    | some o => (i, b, o) :: attachF os r
    | none => []
theorem Attach.fun_eq {os : List Oper} {r : List (Nat × Bool)} {pl : List PlanOp} (h : Attach os r pl) : attachF os r = pl := by
  induction h with
  | nil => rfl
  | cons h1 _ ih => unfold attachF; rw [h1, ih]
def planOkL (os : List Oper) (plan : List (Nat × Bool)) (tbl : List (List Nat)) (sw : Sw) : Bool :=
  tblOk os.toArray tbl && pairsOk os.toArray tbl sw (attachF os plan) && decide (plan.length ≤ os.length) && ((List.range os.length).all fun i => (plan.map Prod.fst).contains i) && swIn sw (attachF os plan)
def planOk (os : List Oper) (plan : List (Nat × Bool)) (tbl : List (List Nat)) : Bool := planOkL os plan tbl none
theorem c_drawL {k : Nat} {os : List Oper} {fr : Fr} {ds : List Deferred} {l : List Chunk} {pl : List PlanOp} (plan : List (Nat × Bool)) (tbl : List (List Nat)) (sw : Sw) (R : List Chunk) (hm : P.follows .mixedOrders = true) (hv : planOkL os plan tbl sw = true) (ha : Attach os plan pl) (hR : ∀ c, c ∈ R → c ∈ l)
    (h : PlanS P ro N E os.toArray Q R tbl sw [] pl fr ds l) : CodeS P ro N E (.region k os.toArray true) Q fr ds l := by
  unfold planOkL at hv
  simp only [Bool.and_eq_true] at hv
  obtain ⟨⟨⟨⟨ht, hp⟩, hle⟩, hall⟩, hin⟩ := hv
  rw [ha.fun_eq] at hp hin
  obtain ⟨h1, h2⟩ := pairsOk_spec hp
  obtain ⟨n1, n2⟩ := ha.spec
  refine ⟨fun a W hf hds hs => wpIn_region_any hm ?_⟩
  have hpl : pl.length ≤ os.toArray.size := by
    have h3 := congrArg List.length n2
    simp only [List.length_map] at h3
    rw [h3]
    simpa using hle
  have hnd : (pl.map (fun x : PlanOp => x.1)).Nodup := by
    rw [List.nodup_iff_pairwise_ne, List.pairwise_map]
    exact h2.imp fun hp => (pairOk_spec hp).2.2
  refine Way.any ht _ sw [] _ [] pl (fun a => FSat N fr a ∧ a.defers = ds) l a _ ⟨⟨hf, hds⟩, hR, hs.drawn _, h.sem [] (fun x hx => by cases hx), fun p1 x v p2 e => by simp at e, by simp, ?_, by simpa using n1, by simpa using h1, by simpa using h2, (fun x hx j e => ?_), ?_⟩ (by simpa using hpl)
  · intro i hi
    have hi' : i < os.length := by simpa using hi
    have e : (Array.replicate os.toArray.size false).getD i true = false := by simp [Array.getD_eq_getD_getElem?, Array.getElem?_replicate, hi']
    rw [e]
    simp only [List.map_nil, List.nil_append, true_iff]
    have := List.all_eq_true.1 hall i (by simpa using hi)
    rw [← n2] at this
    simp only [List.contains_iff_mem, List.mem_map] at this
    exact this
  · obtain ⟨y, hy, e1, e2⟩ := swIn_spec hin e
    rw [← key_inj pl hnd hy (by simpa using hx) e1]; exact e2
  · intro j o _ hl
    exfalso
    simp [Array.getD_eq_getD_getElem?, Array.getElem?_replicate] at hl
    split at hl <;> simp at hl
theorem c_draw {k : Nat} {os : List Oper} {fr : Fr} {ds : List Deferred} {l : List Chunk} {pl : List PlanOp} (plan : List (Nat × Bool)) (tbl : List (List Nat)) (R : List Chunk) (hm : P.follows .mixedOrders = true) (hv : planOk os plan tbl = true) (ha : Attach os plan pl) (hR : ∀ c, c ∈ R → c ∈ l)
    (h : PlanS P ro N E os.toArray Q R tbl none [] pl fr ds l) : CodeS P ro N E (.region k os.toArray true) Q fr ds l := c_drawL plan tbl none R hm hv ha hR h
end
section
variable {P : Program} {ro : Option Nat} {N : Nat} {E : World} {ops : Array Oper} {Q : Exit → Act → World → Prop} {R : List Chunk} {tbl : List (List Nat)} {sw : Sw} {sp : Spec} {pl : List PlanOp} {o : Oper} {fr fr' : Fr} {ds : List Deferred} {l l' : List Chunk} {K : Value → List Chunk → Prop} {v : Value} {i : Nat} {k : Bool}
theorem pl_nil (h : PostS N E Q .normal fr ds l) : PlanS P ro N E ops Q R tbl sw sp [] fr ds l := .nil h
theorem pl_q {d : Nat} (h : OpQ P ro N fr R o v) (hw : o.guard = none) (hd : o.dst = some d) (hb : Nat.blt d N = true) (hk : PlanS P ro N E ops Q R tbl sw sp pl ((d, v) :: fr) ds l) : PlanS P ro N E ops Q R tbl sw sp ((i, true, o) :: pl) fr ds l :=
  .q h hw (by rw [hd]; exact hb) (by rw [hd]; exact hk)
theorem pl_gq {d j dj : Nat} {oj : Oper} {b : Bool} (h : OpQ P ro N fr R o v) (hw : o.guard = some (j, b)) (hj : ops[j]? = some oj) (hjd : oj.dst = some dj) (hb : flook fr dj = some (.bool b)) (hd : o.dst = some d) (hbl : Nat.blt d N = true) (hk : PlanS P ro N E ops Q R tbl sw sp pl ((d, v) :: fr) ds l) : PlanS P ro N E ops Q R tbl sw sp ((i, true, o) :: pl) fr ds l :=
  .gq h hw hj hjd hb (by rw [hd]; exact hbl) (by rw [hd]; exact hk)
theorem pl_gs {d j dj : Nat} {oj : Oper} {b b' : Bool} (hR : ∀ c, c ∈ R → c ∈ l) (hw : o.guard = some (j, b)) (hj : ops[j]? = some oj) (hjd : oj.dst = some dj) (hb : flook fr dj = some (.bool b')) (hne : (b' == b) = false) (hd : o.dst = some d) (hbl : Nat.blt d N = true) (hk : PlanS P ro N E ops Q R tbl none [] pl ((d, undef) :: fr) ds l) : PlanS P ro N E ops Q R tbl none [] ((i, k, o) :: pl) fr ds l :=
  .gs hw hj hjd hb hne (by rw [hd]; exact hbl) hR (fun _ => rfl) (fun _ x hx => by cases hx) (by rw [hd]; exact hk)
theorem pl_e {d : Nat} (h : OpE P ro N fr l o K) (hw : o.guard = none) (hd : o.dst = some d) (hb : Nat.blt d N = true) (hR : ∀ v l', K v l' → (∀ c, c ∈ R → c ∈ l')) (hk : ∀ v l', K v l' → PlanS P ro N E ops Q R tbl none [] pl ((d, v) :: fr) ds l') : PlanS P ro N E ops Q R tbl none [] ((i, false, o) :: pl) fr ds l :=
  .e h hw (by rw [hd]; exact hb) hR (fun _ _ _ x hx => by cases hx) fun v l' hkv => by rw [hd]; exact hk v l' hkv
theorem pl_n (h : OpE P ro N fr l o K) (hw : o.guard = none) (hd : o.dst = none) (hR : ∀ v l', K v l' → (∀ c, c ∈ R → c ∈ l')) (hk : ∀ v l', K v l' → PlanS P ro N E ops Q R tbl none [] pl fr ds l') : PlanS P ro N E ops Q R tbl none [] ((i, false, o) :: pl) fr ds l :=
  .e h hw (by rw [hd]; rfl) hR (fun _ _ _ x hx => by cases hx) fun v l' hkv => by rw [hd]; exact hk v l' hkv
theorem pl_eS {d : Nat} (h : OpE P ro N fr l o K) (hw : o.guard = none) (hd : o.dst = some d) (hb : Nat.blt d N = true) (hR : ∀ v l', K v l' → (∀ c, c ∈ R → c ∈ l')) (hS : ∀ v l', K v l' → ∀ x, x ∈ sp → ancOf tbl i x.1 = false → ∀ c, c ∈ x.2 → c ∈ l') (hk : ∀ v l', K v l' → PlanS P ro N E ops Q R tbl none sp pl ((d, v) :: fr) ds l') : PlanS P ro N E ops Q R tbl none sp ((i, false, o) :: pl) fr ds l :=
  .e h hw (by rw [hd]; exact hb) hR hS fun v l' hkv => by rw [hd]; exact hk v l' hkv
theorem pl_nS (h : OpE P ro N fr l o K) (hw : o.guard = none) (hd : o.dst = none) (hR : ∀ v l', K v l' → (∀ c, c ∈ R → c ∈ l')) (hS : ∀ v l', K v l' → ∀ x, x ∈ sp → ancOf tbl i x.1 = false → ∀ c, c ∈ x.2 → c ∈ l') (hk : ∀ v l', K v l' → PlanS P ro N E ops Q R tbl none sp pl fr ds l') : PlanS P ro N E ops Q R tbl none sp ((i, false, o) :: pl) fr ds l :=
  .e h hw (by rw [hd]; rfl) hR hS fun v l' hkv => by rw [hd]; exact hk v l' hkv
theorem anc_all {sp : Spec} (h : (sp.map Prod.fst).all (fun q => ancOf tbl i q) = true) {x : Nat × List Chunk} (hx : x ∈ sp) (ha : ancOf tbl i x.1 = false) : ∀ c, c ∈ x.2 → c ∈ l' := by
  have := List.all_eq_true.1 h x.1 (List.mem_map.2 ⟨x, hx, rfl⟩)
  rw [ha] at this; cases this
theorem pl_s {d : Nat} {S : List Chunk} (h : OpQ P ro N fr S o v) (hS : ∀ c, c ∈ S → c ∈ l) (hw : o.guard = none) (hd : o.dst = some d) (hb : Nat.blt d N = true) (hk : PlanS P ro N E ops Q R tbl sw ((i, S) :: sp) pl ((d, v) :: fr) ds l) : PlanS P ro N E ops Q R tbl sw sp ((i, true, o) :: pl) fr ds l :=
  .sq h hS hw (by rw [hd]; exact hb) (by rw [hd]; exact hk)
theorem pl_qe {d : Nat} (h : OpQ P ro N fr l o v) (hw : o.guard = none) (hd : o.dst = some d) (hb : Nat.blt d N = true) (hR : ∀ c, c ∈ R → c ∈ l) (hk : PlanS P ro N E ops Q R tbl none [] pl ((d, v) :: fr) ds l) : PlanS P ro N E ops Q R tbl none [] ((i, false, o) :: pl) fr ds l := by
  refine pl_e (h.run l fun _ h => h) hw hd hb ?_ ?_
  · rintro _ _ ⟨rfl, rfl⟩; exact hR
  · rintro _ _ ⟨rfl, rfl⟩; exact hk
theorem pl_h {d : Nat} (h : OpQ P ro N fr R o v) (hw : gst ops fr o.guard = some true) (hd : o.dst = some d) (hb : Nat.blt d N = true) (hk : PlanS P ro N E ops Q R tbl sw sp pl ((d, v) :: fr) ds l) : PlanS P ro N E ops Q R tbl sw sp ((i, true, o) :: pl) fr ds l := by
  rcases gst_some hw with ⟨h1, _⟩ | ⟨j, b, oj, dj, b', h1, h2, h3, h4, h5⟩
  · exact pl_q h h1 hd hb hk
  · have : b' = b := by simpa using h5
    subst this
    exact pl_gq h h1 h2 h3 h4 hd hb hk
theorem pl_hs {d : Nat} (hR : ∀ c, c ∈ R → c ∈ l) (hw : gst ops fr o.guard = some false) (hd : o.dst = some d) (hb : Nat.blt d N = true) (hk : PlanS P ro N E ops Q R tbl none [] pl ((d, undef) :: fr) ds l) : PlanS P ro N E ops Q R tbl none [] ((i, k, o) :: pl) fr ds l := by
  rcases gst_some hw with ⟨_, h1⟩ | ⟨j, b, oj, dj, b', h1, h2, h3, h4, h5⟩
  · cases h1
  · exact pl_gs hR h1 h2 h3 h4 h5 hd hb hk
theorem pl_gif_t {j t : Nat} {w : Bool} {oj : Oper} {p : Prop} {ip : Decidable p} (hw : o.guard = some (j, w)) (hj : ops[j]? = some oj) (hjd : oj.dst = some t) (hc : flook fr t = some (.bool (@decide p ip))) (hp : p) (h : PlanS P ro N E ops Q R tbl sw sp ((i, k, o) :: pl) ((t, .bool true) :: fr) ds l) : PlanS P ro N E ops Q R tbl sw sp ((i, k, o) :: pl) fr ds l :=
  .weak (flook_over (by rw [hc, decide_eq_true hp])) h
theorem pl_gif_f {j t : Nat} {w : Bool} {oj : Oper} {p : Prop} {ip : Decidable p} (hw : o.guard = some (j, w)) (hj : ops[j]? = some oj) (hjd : oj.dst = some t) (hc : flook fr t = some (.bool (@decide p ip))) (hp : ¬ p) (h : PlanS P ro N E ops Q R tbl sw sp ((i, k, o) :: pl) ((t, .bool false) :: fr) ds l) : PlanS P ro N E ops Q R tbl sw sp ((i, k, o) :: pl) fr ds l :=
  .weak (flook_over (by rw [hc, decide_eq_false hp])) h
end
section
variable {P : Program} {ro : Option Nat} {N : Nat} {E : World} {ops : Array Oper} {Q : Exit → Act → World → Prop} {R : List Chunk}
def planOk2 (os : List Oper) (plan : List (Nat × Bool)) (tbl : List (List Nat)) (i j : Nat) : Bool := planOkL os plan tbl (some [(i, j)])
theorem c_draw2 {k : Nat} {os : List Oper} {fr : Fr} {ds : List Deferred} {l : List Chunk} {pl : List PlanOp} (plan : List (Nat × Bool)) (tbl : List (List Nat)) (i j : Nat) (R : List Chunk) (hm : P.follows .mixedOrders = true) (hv : planOk2 os plan tbl i j = true) (ha : Attach os plan pl) (hR : ∀ c, c ∈ R → c ∈ l)
    (h : PlanS P ro N E os.toArray Q R tbl (some [(i, j)]) [] pl fr ds l) : CodeS P ro N E (.region k os.toArray true) Q fr ds l := c_drawL plan tbl (some [(i, j)]) R hm hv ha hR h
def altOk (os : List Oper) (tbl : List (List Nat)) (plan2 : List (Nat × Bool)) (i j : Nat) : Bool :=
  pairsOk os.toArray tbl none (attachF os plan2).tail && plan2.head? == some (j, false) && (plan2.map Prod.fst).count i == 1 && j != i
theorem pl_alt {i j : Nat} {sp : Spec} {tbl : List (List Nat)} {os : List Oper} {o : Oper} {rest alt : List PlanOp} {fr : Fr} {ds : List Deferred} {l : List Chunk} (plan2 : List (Nat × Bool)) (ha : Attach os plan2 alt) (hp : alt.Perm ((i, false, o) :: rest)) (hpo : altOk os tbl plan2 i j = true)
    (h1 : PlanS P ro N E os.toArray Q R tbl none sp ((i, false, o) :: rest) fr ds l) (h2 : PlanS P ro N E os.toArray Q R tbl none sp alt fr ds l) : PlanS P ro N E os.toArray Q R tbl (some [(i, j)]) sp ((i, false, o) :: rest) fr ds l := by
  unfold altOk at hpo
  simp only [Bool.and_eq_true, beq_iff_eq, bne_iff_ne, ne_eq] at hpo
  obtain ⟨⟨⟨p1, p2⟩, p3⟩, p4⟩ := hpo
  have hcnt : (((i, false, o) :: rest).map (fun x : PlanOp => x.1)).count i = 1 := by
    rw [← (hp.map _).count_eq, ha.spec.2]; exact p3
  have hni : ∀ x, x ∈ rest → x.1 ≠ i := fun x hx e => by
    rw [List.map_cons, List.count_cons_self] at hcnt
    have : 0 < (rest.map (fun x : PlanOp => x.1)).count i := List.count_pos_iff.2 (List.mem_map.2 ⟨x, hx, e⟩)
    omega
  rw [ha.fun_eq] at p1
  cases ha with
  | nil => cases p2
  | cons h0 hr =>
    simp only [List.head?_cons, Option.some.injEq] at p2
    cases p2
    exact .alt2 p4 hp p1 hni h1 h2
end
def btV (P : Program) (t : Nat) : Bool := match P.underlying t with
  | some (.struct fs) => fs.all fun f => (P.info? f.type).isSome
  | _ => false
class BT (P : Program) (t : Nat) : Prop where out : btV P t = true
section
variable {P : Program} {ro : Option Nat} {N : Nat} {fr : Fr} {R l : List Chunk} {K : Value → List Chunk → Prop} {d : Option Nat} {ty : TypeId} {pos : String} {aft : Array Edge} {g : Option (Nat × Bool)} {x y z : Operand} {v u w : Value} {b off : Nat} {t t2 : TypeId}
theorem sl_mapM {α β : Type} {f : α → Sem β} {h : α → β} {Q : List β → List Chunk → Prop} : ∀ {xs : List α}, (∀ x, x ∈ xs → ∀ (Q : β → List Chunk → Prop) l, sl P (f x) l Q ↔ Q (h x) l) → (sl P (xs.mapM f) l Q ↔ Q (xs.map h) l)
  | [], _ => by simp only [List.mapM_nil, List.map_nil]; exact Iff.rfl
  | x :: xs, hx => by
    rw [List.mapM_cons, sl_bind, hx x List.mem_cons_self, sl_bind, sl_mapM (h := h) fun y hy => hx y (List.mem_cons_of_mem _ hy)]
    exact Iff.rfl
def evps (fr : Fr) : List (Nat × Operand) → Option (List (Nat × Value))
  | [] => some []
  | (i, x) :: r => match ev fr x, evps fr r with
    | some v, some vs => some ((i, v) :: vs)
    | _, _ => none
theorem Agrees.parts {ρ : Operand → Value} (h : Agrees fr ρ) : ∀ {xs : List (Nat × Operand)} {vs : List (Nat × Value)}, evps fr xs = some vs → (xs.map fun (i, x) => (i, ρ x)) = vs
  | [], vs, e => by cases e; rfl
  | (i, x) :: r, vs, e => by
    unfold evps at e
    split at e
    · rename_i v us h1 h2
      cases e
      rw [List.map_cons, h.parts h2]
      show (i, ρ x) :: us = _
      rw [h x v h1]
    · cases e
inductive BuildS (P : Program) (t : Nat) : List Value → List (Nat × Value) → List Value → Prop
  | nil {cs : List Value} : BuildS P t cs [] cs
  | one {cs cs1 cs2 : List Value} {i off ft : Nat} {v : Value} {r : List (Nat × Value)} (c : FV P t i off ft) (c2 : OC P ft) : v.oneCell' = true → LSet cs off v cs1 → BuildS P t cs1 r cs2 → BuildS P t cs ((i, v) :: r) cs2
  | agg {cs cs1 cs2 ws : List Value} {i off ft n : Nat} {r : List (Nat × Value)} (c : FV P t i off ft) (c2 : AG P ft n) : ws.length = n → LSetA cs off ws cs1 → BuildS P t cs1 r cs2 → BuildS P t cs ((i, .agg (List.toArray ws)) :: r) cs2
theorem zipIdx_set (vs : List Value) : ∀ (cs : Array Value) (off k : Nat), (vs.zipIdx k).foldl (fun cs (c, j) => cs.setIfInBounds (off + j) c) cs = setFrom cs (off + k) vs := by
  induction vs with
  | nil => intro cs off k; rfl
  | cons v vs ih =>
    intro cs off k
    rw [List.zipIdx_cons, List.foldl_cons, ih]
    rfl
theorem array_zip_set (vs cs : Array Value) (off : Nat) : vs.zipIdx.foldl (fun cs (c, j) => cs.setIfInBounds (off + j) c) cs = setFrom cs off vs.toList := by
  rw [← Array.foldl_toList, Array.toList_zipIdx, zipIdx_set]; rfl
theorem buildS_fill {fs : Array Field} (hu : P.underlying t = some (.struct fs)) {place : Nat → Option (Nat × Nat)} (hp : ∀ i fd inf, fs[i]? = some fd → P.info? fd.type = some inf → place i = some (fd.offset, inf.size)) {cs cs2 : List Value} {parts : List (Nat × Value)} (h : BuildS P t cs parts cs2) :
    Instr.fill place (List.toArray cs) parts = some (List.toArray cs2) := by
  induction h with
  | nil => rfl
  | @one cs cs1 cs2 i off ft v r c c2 h1 hs _ ih =>
    obtain ⟨fs', fd, k1, k2, k3, k4⟩ := fvV_spec c.out
    rw [hu] at k1; cases k1
    obtain ⟨ud, inf, _, _, i1, i2⟩ := ocV_spec c2.out
    rw [← k4] at i1
    unfold Instr.fill
    rw [hp _ _ _ k2 i1, k3, i2, oc1_cells h1]
    have hlt := hs.spec.2
    simp only
    rw [if_neg (by simp; omega), array_zip_set #[v] (List.toArray cs) off]
    simp only [setFrom, List.setIfInBounds_toArray, hs.spec.1]
    exact ih
  | @agg cs cs1 cs2 ws i off ft n r c c2 hn hs _ ih =>
    obtain ⟨fs', fd, k1, k2, k3, k4⟩ := fvV_spec c.out
    rw [hu] at k1; cases k1
    obtain ⟨ud, inf, _, _, i1, i2⟩ := agV_spec c2.out
    rw [← k4] at i1
    unfold Instr.fill
    rw [hp _ _ _ k2 i1, k3, i2]
    have hlt := hs.spec.2
    have e : (Value.agg (List.toArray ws)).cells = List.toArray ws := rfl
    simp only [e]
    rw [if_neg (by simp [hn]; omega), array_zip_set (List.toArray ws) (List.toArray cs) off]
    have := hs.spec.1
    simp only at this ⊢
    rw [this]
    exact ih
theorem q_build {xs : List (Nat × Operand)} {ps : List (Nat × Value)} {zs cs : List Value} (hx : evps fr xs = some ps) [c : ZV P t zs] [cb : BT P t] (hb : BuildS P t zs ps cs) : OpQ P ro N fr R ⟨d, .build t (List.toArray xs), ty, pos, aft, g⟩ (.agg (List.toArray cs)) := opQ_of_sl rfl fun ρ l hρ _ => by
  obtain ⟨i, zv, h1, h2, h3⟩ := zvV_spec c.out
  have hbt := cb.out
  unfold btV at hbt
  split at hbt
  · rename_i fs hu
    simp only [execOp, sl_bind, Instr.build, zeroValue, List.map_toArray, hρ.parts hx]
    rw [← sl_bind, sl_info h1, h2]
    simp only [sl_pure]
    rw [sl_under' hu]
    simp only [sl_bind]
    have hfm : fs = List.toArray fs.toList := by simp
    rw [hfm, List.mapM_toArray, map_eq_pure_bind, sl_bind, sl_mapM (h := fun f => (f.offset, ((P.info? f.type).map (·.size)).getD 0)) (by
      intro f hf Q l
      have := Array.all_eq_true'.1 hbt f (by simpa using hf)
      cases hi : P.info? f.type with
      | none => rw [hi] at this; cases this
      | some inf =>
        rw [sl_bind, sl_sizeOf' hi]
        exact Iff.rfl)]
    simp only [sl_pure]
    have hfill := buildS_fill (place := fun i => (List.toArray (fs.toList.map fun f => (f.offset, ((P.info? f.type).map (·.size)).getD 0)))[i]?) hu (by
      intro i fd inf k1 k2
      simp [k1, k2]) hb
    have hz : zv.cells = List.toArray zs := by rw [← h3]
    rw [hz, hfill]
    exact ⟨rfl, rfl⟩
  · cases hbt
theorem run_isAgg {T : TypeId} {ud : TypeDesc} (h : P.underlying T = some ud) (W : World) : (isAgg T).run P W = .ok (isAggD ud) W := by
  unfold isAgg
  rw [Sem.run_bind, run_underlying h]
  cases ud <;> rfl
theorem run_loadVar1 {E W : World} {T : TypeId} {cs : List Value} {ct : TypeId} {fz : Nat × Nat} (hc : ocV P T = true) (hs : Sat E l W) (hm : (b, Obj.cells (List.toArray cs) ct fz) ∈ l) (hv : lget cs off = some v) : (loadVar T ⟨b, off, none⟩).run P W = .ok v W := by
  obtain ⟨ud, i, e1, e2, _, _⟩ := ocV_spec hc
  have hcell := hs.cell hm off
  rw [cell_lit hv] at hcell
  unfold loadVar
  rw [Sem.run_bind, run_isAgg e1, e2]
  simp [Result.andThen, hcell]
theorem run_loadVarA {E W : World} {T n : Nat} {cs ws : List Value} {ct : TypeId} {fz : Nat × Nat} (hc : agV P T = some n) (hs : Sat E l W) (hm : (b, Obj.cells (List.toArray cs) ct fz) ∈ l) (hv : LSub cs off n ws) : (loadVar T ⟨b, off, none⟩).run P W = .ok (.agg (List.toArray ws)) W := by
  obtain ⟨ud, i, e1, e2, e3, e4⟩ := agV_spec hc
  have hsz : (sizeOf T).run P W = .ok n W := by
    unfold sizeOf typeInfo
    simp [Sem.run_bind, Result.andThen, program, Sem.run, e3, e4]
  obtain ⟨hv1, hv2⟩ := hv.spec
  have hlen : ws.length = n := by rw [← hv1]; simp; omega
  unfold loadVar
  rw [Sem.run_bind, run_isAgg e1, e2]
  simp only [Result.andThen, if_true]
  rw [Sem.run_bind, hsz]
  simp only [Result.andThen]
  rw [Sem.run_bind]
  have := run_loadCells_list (P := P) (w := W) ⟨b, off, none⟩ ws (fun j u hj => by
    rw [addr_add, hs.cell hm]
    rw [← hv1] at hj
    simp only [List.getElem?_toArray]
    rw [List.getElem?_take] at hj
    split at hj
    · simpa [List.getElem?_drop] using hj
    · cases hj)
  rw [hlen] at this
  rw [this]
  rfl
theorem rs_tmp {t : Nat} {v : Value} {rs : List ResultVar} {vs : List Value} (h1 : flook fr t = some v) (h : ResS P fr l rs vs) : ResS P fr l (.tmp t :: rs) (v :: vs) := .tmp h1 h
theorem rs_cell1 {T : TypeId} {cs : List Value} {ct : TypeId} {fz : Nat × Nat} {rs : List ResultVar} {vs : List Value} {k : Nat} (h1 : flook fr k = some (.pointer (some ⟨b, off, none⟩))) [c : OC P T] (hm : (b, Obj.cells (List.toArray cs) ct fz) ∈ l) (hv : lget cs off = some v) (h : ResS P fr l rs vs) : ResS P fr l (.cell k T :: rs) (v :: vs) :=
  .cell h1 (fun E W hs => run_loadVar1 c.out hs hm hv) h
theorem rs_cellA {T n : Nat} {cs ws : List Value} {ct : TypeId} {fz : Nat × Nat} {rs : List ResultVar} {vs : List Value} {k : Nat} (h1 : flook fr k = some (.pointer (some ⟨b, off, none⟩))) [c : AG P T n] (hm : (b, Obj.cells (List.toArray cs) ct fz) ∈ l) (hv : LSub cs off n ws) (h : ResS P fr l rs vs) : ResS P fr l (.cell k T :: rs) (.agg (List.toArray ws) :: vs) :=
  .cell h1 (fun E W hs => run_loadVarA c.out hs hm hv) h
theorem q_callC {f : Nat} {xs : List Operand} {vs fs cs : List Value} {at_ : Array TypeId} (hx : ev fr x = some (.func (.func f) (List.toArray fs) (List.toArray cs))) (hy : evs fr xs = some vs) [c : EN P f] (h : ∀ l, (∀ c, c ∈ R → c ∈ l) → Fn P f (fs ++ vs ++ cs) l (fun v' l' => v' = v ∧ l' = l)) : OpQ P ro N fr R ⟨d, .call { callee := .value x, args := xs.toArray, argTypes := at_ }, ty, pos, aft, g⟩ v :=
  ⟨fun l hl => e_call hx hy (by simpa using h l hl)⟩
end
end Go.Proofs.YtcjknmpogkofpaaGreat
