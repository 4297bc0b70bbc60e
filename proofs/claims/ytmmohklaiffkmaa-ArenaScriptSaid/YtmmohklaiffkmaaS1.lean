/- Symbolic frames and the judgements on operations, code and functions, told of owned blocks. Laws of my own, no program's. -/
import Derived.Test.YtmmohklaiffkmaaS0
set_option linter.unusedVariables false
set_option linter.unusedSimpArgs false
namespace Go.Proofs.Ytmmohklaiffkmaa
open Go.RowKit

abbrev Fr := List (Nat × Value)
/-- what is known of a slot: the newest word counts -/
def flook : Fr → Nat → Option Value
  | [], _ => none
  | (k, v) :: r, d => bif Nat.beq k d then some v else flook r d
structure FSat (N : Nat) (fr : Fr) (a : Act) : Prop where
  size : a.tmps.size = N
  at_ : ∀ d v, flook fr d = some v → a.tmps[d]? = some v
def ev (fr : Fr) : Operand → Option Value
  | .tmp t => flook fr t
  | .const v => some v
  | .global g => some (.pointer (some ⟨g, 0, none⟩))
  | .func f => some (.func (.func f) #[] #[])
def evs (fr : Fr) : List Operand → Option (List Value)
  | [] => some []
  | x :: r => match ev fr x, evs fr r with
    | some v, some vs => some (v :: vs)
    | _, _ => none
def Agrees (fr : Fr) (ρ : Operand → Value) : Prop := ∀ x v, ev fr x = some v → ρ x = v
theorem FSat.agrees {N : Nat} {fr : Fr} {a : Act} (h : FSat N fr a) : Agrees fr a.eval := by
  intro x v hx
  cases x with
  | tmp t => have := h.at_ t v hx; simp [Act.eval, Array.getD_eq_getD_getElem?, this]
  | const u => cases hx; rfl
  | global g => cases hx; rfl
  | func f => cases hx; rfl
theorem Agrees.list {fr : Fr} {ρ : Operand → Value} (h : Agrees fr ρ) : ∀ {xs : List Operand} {vs : List Value}, evs fr xs = some vs → xs.map ρ = vs
  | [], vs, e => by cases e; rfl
  | x :: r, vs, e => by
    unfold evs at e
    split at e
    · rename_i v us h1 h2
      cases e
      rw [List.map_cons, h x v h1, h.list h2]
    · cases e
def putF (d : Option Nat) (v : Value) (fr : Fr) : Fr := match d with | some d => (d, v) :: fr | none => fr
def okDst (N : Nat) : Option Nat → Bool
  | some d => Nat.blt d N
  | none => true
theorem FSat.put {N : Nat} {fr : Fr} {a : Act} (h : FSat N fr a) {d : Option Nat} (v : Value) (hd : okDst N d = true) : FSat N (putF d v fr) (a.put d v) := by
  cases d with
  | none => exact h
  | some d =>
    have hlt : d < N := by simpa [okDst, Nat.blt_eq] using hd
    refine ⟨by simp [Act.put, h.size], fun k u hk => ?_⟩
    simp only [putF, flook] at hk
    simp only [Act.put]
    by_cases e : d = k
    · subst e
      simp at hk
      subst hk
      simp [h.size, hlt]
    · have : Nat.beq d k = false := by
        cases hb : Nat.beq d k
        · rfl
        · exact absurd (Nat.eq_of_beq_eq_true hb) e
      rw [this] at hk
      rw [Array.getElem?_setIfInBounds_ne e]
      exact h.at_ k u hk
theorem FSat.sub {N : Nat} {fr fr' : Fr} {a : Act} (h : FSat N fr a) (hs : ∀ d v, flook fr' d = some v → flook fr d = some v) : FSat N fr' a := ⟨h.size, fun d v hd => h.at_ d v (hs d v hd)⟩
/-- the words of fr' stand in fr -/
def FSub : Fr → Fr → Prop
  | [], _ => True
  | (d, v) :: r, fr => flook fr d = some v ∧ FSub r fr
theorem FSub.spec : ∀ {fr' fr : Fr}, FSub fr' fr → ∀ d v, flook fr' d = some v → flook fr d = some v
  | [], _, _, d, v, hd => by cases hd
  | (k, u) :: r, fr, h, d, v, hd => by
    unfold flook at hd
    cases hb : Nat.beq k d
    · rw [hb] at hd; exact h.2.spec d v hd
    · rw [hb] at hd
      have := Nat.eq_of_beq_eq_true hb
      subst this
      simp at hd
      subst hd
      exact h.1
def argF : Nat → List Value → Fr
  | _, [] => []
  | i, v :: r => (i, v) :: argF (i + 1) r
theorem flook_argF : ∀ (l : List Value) (i d : Nat) (v : Value), flook (argF i l) d = some v → i ≤ d ∧ l[d - i]? = some v
  | [], i, d, v, h => by cases h
  | u :: r, i, d, v, h => by
    unfold argF flook at h
    cases hb : Nat.beq i d
    · rw [hb] at h
      obtain ⟨h1, h2⟩ := flook_argF r (i + 1) d v h
      exact ⟨by omega, by rw [show d - i = (d - (i + 1)) + 1 by omega]; simpa using h2⟩
    · rw [hb] at h
      have := Nat.eq_of_beq_eq_true hb
      subst this
      simp at h
      subst h
      simp
theorem fsat_args (args : List Value) (N : Nat) (ds : List Deferred) (h : args.length ≤ N) : FSat N (argF 0 args) { tmps := args.toArray ++ Array.replicate (N - args.toArray.size) undef, defers := ds } := by
  refine ⟨by simp; omega, fun d v hd => ?_⟩
  obtain ⟨_, h2⟩ := flook_argF args 0 d v hd
  simp only [Nat.sub_zero] at h2
  have hlt := (List.getElem?_eq_some_iff.1 h2).1
  show (args.toArray ++ _)[d]? = some v
  rw [Array.getElem?_append_left (by simpa using hlt)]
  simpa using h2

def Fw (ro : Option Nat) : Fence := { Fence.wide with round := ro }
theorem fw_none : Fw none = Fence.wide := rfl
theorem fw_some (l : Nat) : Fw (some l) = Fence.wide.inRound l := rfl

/-- a function, told of the blocks that are held -/
structure Fn (P : Program) (f : FuncId) (args : List Value) (l : List Chunk) (K : Value → List Chunk → Prop) : Prop where
  run : ∀ E W, Sat E l W → Calls P f args.toArray W fun e W' => ∃ v l', e = .returned v ∧ K v l' ∧ Sat E l' W'
theorem Fn.mono {P : Program} {f : FuncId} {args : List Value} {l : List Chunk} {K K' : Value → List Chunk → Prop} (h : Fn P f args l K) (hk : ∀ v l', K v l' → K' v l') : Fn P f args l K' :=
  ⟨fun E W hs => (h.run E W hs).mono fun e W' ⟨v, l', h1, h2, h3⟩ => ⟨v, l', h1, hk _ _ h2, h3⟩⟩
theorem Fn.perm {P : Program} {f : FuncId} {args : List Value} {l l1 : List Chunk} {K : Value → List Chunk → Prop} (p : l.Perm l1) (h : Fn P f args l1 K) : Fn P f args l K :=
  ⟨fun E W hs => h.run E W (hs.perm p)⟩
/-- yield, told of the blocks that are held -/
structure YieldS (P : Program) (r : Nat) (vs : List Value) (l : List Chunk) (K : Value → List Chunk → Prop) : Prop where
  run : ∀ E W, Sat E l W → ∃ fn tmps assign body, (Instr.yield r vs.toArray).run P W = .ok (.round r fn tmps assign body) W ∧
    RoundIn Fence.wide 0 P r fn tmps assign body W fun e W' => ∃ v l', e = .returned v ∧ K v l' ∧ Sat E l' W'
theorem roundIn_fw {ro : Option Nat} {n : Nat} {P : Program} {l : Nat} {f : FuncId} {tmps : Array Value} {assign body : Code} {w : World} {R : Ending → World → Prop} (h : RoundIn Fence.wide n P l f tmps assign body w R) : RoundIn (Fw ro) n P l f tmps assign body w R := h
theorem callsIn_fw {ro : Option Nat} {n : Nat} {P : Program} {f : FuncId} {args : Array Value} {w : World} {R : Ending → World → Prop} (h : Calls P f args w R) : CallsIn (Fw ro) n P f args w R := (callsIn_wide (n := n)).2 h

def notDefer : Op → Bool
  | .defer _ => false
  | _ => true
/-- what an operation comes to: its value, and the world behind -/
def OpVal (P : Program) (ro : Option Nat) (o : Oper) (ρ : Operand → Value) (W : World) (K : Value → World → Prop) : Prop :=
  match (execOp ρ o).run P W with
  | .ok (.value v) w' => K v w'
  | .ok .skip w' => K undef w'
  | .ok (.enter f args) w' => CallsIn (Fw ro) 0 P f args w' (fun e w'' => ∃ v, e = .returned v ∧ K v w'')
  | .ok (.round r f tm asg bo) w' => RoundIn (Fw ro) 0 P r f tm asg bo w' (fun e w'' => ∃ v, e = .returned v ∧ K v w'')
  | _ => False
theorem OpVal.mono {P : Program} {ro : Option Nat} {o : Oper} {ρ : Operand → Value} {W : World} {K K' : Value → World → Prop} (hk : ∀ v w, K v w → K' v w) (h : OpVal P ro o ρ W K) : OpVal P ro o ρ W K' := by
  unfold OpVal at *
  split at h
  · exact hk _ _ h
  · exact hk _ _ h
  · exact h.mono fun e w ⟨v, h1, h2⟩ => ⟨v, h1, hk _ _ h2⟩
  · exact h.mono fun e w ⟨v, h1, h2⟩ => ⟨v, h1, hk _ _ h2⟩
  · exact h.elim
theorem OpVal.wpIn {P : Program} {ro : Option Nat} {o : Oper} {a : Act} {W : World} {K : Value → World → Prop} {next : Act → World → Prop} {Q : Exit → Act → World → Prop} (hd : notDefer o.op = true) (h : OpVal P ro o a.eval W K) (hk : ∀ v w, K v w → next (a.put o.dst v) w) : o.wpIn (Fw ro) 0 P a W next Q := by
  unfold Oper.wpIn
  refine ⟨fun _ _ => trivial, ?_⟩
  rw [Oper.semAt_eq _ _ _ (fun c hc => by rw [hc] at hd; cases hd)]
  unfold OpVal at h
  split at h
  · rename_i heq; rw [heq]; exact hk _ _ h
  · rename_i heq; rw [heq]; exact hk _ _ h
  · rename_i heq; rw [heq]; exact ⟨fun h0 => (by cases h0), h.mono fun e w ⟨v, h1, h2⟩ => by subst h1; exact hk _ _ h2⟩
  · rename_i heq; rw [heq]; exact ⟨fun h0 => (by cases h0), h.mono fun e w ⟨v, h1, h2⟩ => by subst h1; exact hk _ _ h2⟩
  · exact h.elim
/-- an operation, told of what is known of the slots and of the blocks that are held -/
structure OpE (P : Program) (ro : Option Nat) (N : Nat) (fr : Fr) (l : List Chunk) (o : Oper) (K : Value → List Chunk → Prop) : Prop where
  nodef : notDefer o.op = true
  val : ∀ E a W, FSat N fr a → Sat E l W → OpVal P ro o a.eval W (fun v W' => ∃ l', K v l' ∧ Sat E l' W')
theorem OpE.run {P : Program} {ro : Option Nat} {N : Nat} {fr : Fr} {l : List Chunk} {o : Oper} {K : Value → List Chunk → Prop} {Q : Exit → Act → World → Prop} (h : OpE P ro N fr l o K) (E : World) (a : Act) (W : World) (hf : FSat N fr a) (hs : Sat E l W) :
    o.wpIn (Fw ro) 0 P a W (fun a' W' => ∃ v l', a' = a.put o.dst v ∧ K v l' ∧ Sat E l' W') Q :=
  OpVal.wpIn h.nodef (h.val E a W hf hs) fun v w ⟨l', h1, h2⟩ => ⟨v, l', rfl, h1, h2⟩
/-- an operation that has one result and leaves all blocks, whatever other ones are held -/
structure OpQ (P : Program) (ro : Option Nat) (N : Nat) (fr : Fr) (R : List Chunk) (o : Oper) (v : Value) : Prop where
  run : ∀ l, (∀ c, c ∈ R → c ∈ l) → OpE P ro N fr l o (fun v' l' => v' = v ∧ l' = l)
theorem OpE.mono {P : Program} {ro : Option Nat} {N : Nat} {fr : Fr} {l : List Chunk} {o : Oper} {K K' : Value → List Chunk → Prop} (h : OpE P ro N fr l o K) (hk : ∀ v l', K v l' → K' v l') : OpE P ro N fr l o K' :=
  ⟨h.nodef, fun E a W hf hs => (h.val E a W hf hs).mono fun v w ⟨l', h1, h2⟩ => ⟨l', hk _ _ h1, h2⟩⟩
/-- what an operation's computation may come to -/
def NextK (P : Program) (K : Value → List Chunk → Prop) : Next → List Chunk → Prop
  | .value v, l => K v l
  | .skip, l => K undef l
  | .enter f args, l => Fn P f args.toList l K
  | _, _ => False
theorem opE_of_sl {P : Program} {ro : Option Nat} {N : Nat} {fr : Fr} {l : List Chunk} {o : Oper} {K : Value → List Chunk → Prop} (hd : notDefer o.op = true)
    (h : ∀ ρ, Agrees fr ρ → sl P (execOp ρ o) l (NextK P K)) : OpE P ro N fr l o K := by
  refine ⟨hd, fun E a W hf hs => ?_⟩
  obtain ⟨x, W', l', hr, hq, hs'⟩ := sl_sound _ l W (h _ hf.agrees) hs
  unfold OpVal
  rw [hr]
  cases x <;> simp only [NextK] at hq
  case value v => exact ⟨l', hq, hs'⟩
  case skip => exact ⟨l', hq, hs'⟩
  case enter f args =>
    have := hq.run E W' hs'
    simp only [Array.toArray_toList] at this
    refine callsIn_fw (this.mono ?_)
    rintro e W'' ⟨v, l'', rfl, hk, hs''⟩
    exact ⟨v, rfl, l'', hk, hs''⟩

section
variable {P : Program} {ro : Option Nat} {N : Nat} {E : World} {ops : Array Oper} {Q : Exit → Act → World → Prop} {rest : List Oper} {o : Oper} {fr fr' : Fr} {ds : List Deferred} {l l' : List Chunk} {K : Value → List Chunk → Prop} {v : Value}

/-- a region's operations in the text's order -/
structure OpsS (P : Program) (ro : Option Nat) (N : Nat) (E : World) (ops : Array Oper) (Q : Exit → Act → World → Prop) (rest : List Oper) (fr : Fr) (ds : List Deferred) (l : List Chunk) : Prop where
  run : ∀ a W, FSat N fr a → a.defers = ds → Sat E l W → wpListIn (Fw ro) 0 P ops Q rest a W
structure CodeS (P : Program) (ro : Option Nat) (N : Nat) (E : World) (c : Code) (Q : Exit → Act → World → Prop) (fr : Fr) (ds : List Deferred) (l : List Chunk) : Prop where
  run : ∀ a W, FSat N fr a → a.defers = ds → Sat E l W → c.wpIn (Fw ro) 0 P Q a W
structure PostS (N : Nat) (E : World) (Q : Exit → Act → World → Prop) (e : Exit) (fr : Fr) (ds : List Deferred) (l : List Chunk) : Prop where
  run : ∀ a W, FSat N fr a → a.defers = ds → Sat E l W → Q e a W

theorem put_defers (a : Act) (d : Option Nat) (v : Value) : (a.put d v).defers = a.defers := by cases d <;> rfl

theorem s_nil (h : PostS N E Q .normal fr ds l) : OpsS P ro N E ops Q [] fr ds l := ⟨h.run⟩
theorem s_e (h : OpE P ro N fr l o K) (hw : o.guard = none) (hd : okDst N o.dst = true) (hk : ∀ v l', K v l' → OpsS P ro N E ops Q rest (putF o.dst v fr) ds l') : OpsS P ro N E ops Q (o :: rest) fr ds l := by
  refine ⟨fun a W hf hds hs => ?_⟩
  refine wpListIn_plain hw fun K' hK' => Oper.wpIn_mono ?_ (h.run E a W hf hs)
  rintro a' W' ⟨v, l', rfl, hkv, hs'⟩
  exact hK' _ _ ((hk v l' hkv).run _ _ (hf.put v hd) ((put_defers _ _ _).trans hds) hs')
theorem s_q (h : OpQ P ro N fr l o v) (hw : o.guard = none) (hd : okDst N o.dst = true) (hk : OpsS P ro N E ops Q rest (putF o.dst v fr) ds l) : OpsS P ro N E ops Q (o :: rest) fr ds l :=
  s_e (h.run l fun _ hc => hc) hw hd fun v' l' ⟨h1, h2⟩ => by rw [h1, h2]; exact hk
theorem yielded_of {fr : Fr} {a : Act} {j d : Nat} {oj : Oper} {b : Bool} (hf : FSat N fr a) (hj : ops[j]? = some oj) (hd : oj.dst = some d) (hb : flook fr d = some (.bool b)) : yielded ops a.tmps j = some b := by
  unfold yielded
  simp [hj, hd, hf.at_ _ _ hb]
theorem s_ge {j d : Nat} {oj : Oper} {b : Bool} (h : OpE P ro N fr l o K) (hw : o.guard = some (j, b)) (hj : ops[j]? = some oj) (hjd : oj.dst = some d) (hb : flook fr d = some (.bool b)) (hd : okDst N o.dst = true) (hk : ∀ v l', K v l' → OpsS P ro N E ops Q rest (putF o.dst v fr) ds l') : OpsS P ro N E ops Q (o :: rest) fr ds l := by
  refine ⟨fun a W hf hds hs => ?_⟩
  have hy := yielded_of hf hj hjd hb
  refine wpListIn_step fun K' hK' => ?_
  rw [if_pos (by simp [Region.wanted, hw, hy])]
  refine Oper.wpIn_mono ?_ (h.run E a W hf hs)
  rintro a' W' ⟨v, l', rfl, hkv, hs'⟩
  exact hK' _ _ ((hk v l' hkv).run _ _ (hf.put v hd) ((put_defers _ _ _).trans hds) hs')
theorem s_gq {j d : Nat} {oj : Oper} {b : Bool} (h : OpQ P ro N fr l o v) (hw : o.guard = some (j, b)) (hj : ops[j]? = some oj) (hjd : oj.dst = some d) (hb : flook fr d = some (.bool b)) (hd : okDst N o.dst = true) (hk : OpsS P ro N E ops Q rest (putF o.dst v fr) ds l) : OpsS P ro N E ops Q (o :: rest) fr ds l :=
  s_ge (h.run l fun _ hc => hc) hw hj hjd hb hd fun v' l' ⟨h1, h2⟩ => by rw [h1, h2]; exact hk
/-- a guarded operation that is passed by -/
theorem s_gs {j d : Nat} {oj : Oper} {b b' : Bool} (hw : o.guard = some (j, b)) (hj : ops[j]? = some oj) (hjd : oj.dst = some d) (hb : flook fr d = some (.bool b')) (hne : (b' == b) = false) (hd : okDst N o.dst = true) (hk : OpsS P ro N E ops Q rest (putF o.dst undef fr) ds l) : OpsS P ro N E ops Q (o :: rest) fr ds l := by
  refine ⟨fun a W hf hds hs => ?_⟩
  have hy := yielded_of hf hj hjd hb
  refine wpListIn_step fun K' hK' => ?_
  rw [if_neg (by simp [Region.wanted, hw, hy]; intro e; rw [e] at hne; simp at hne)]
  exact ⟨fun _ _ => trivial, hK' _ _ (hk.run _ _ (hf.put undef hd) ((put_defers _ _ _).trans hds) hs)⟩
theorem flook_over {d : Nat} {v : Value} (hb : flook fr d = some v) : ∀ k u, flook ((d, v) :: fr) k = some u → flook fr k = some u := by
  intro k u h
  unfold flook at h
  cases e : Nat.beq d k
  · rw [e] at h; exact h
  · rw [e] at h
    have := Nat.eq_of_beq_eq_true e
    subst this
    rw [hb]; exact h
/-- part on a slot's bool -/
theorem s_split (d : Nat) {b : Bool} (hb : flook fr d = some (.bool b)) (ht : b = true → OpsS P ro N E ops Q rest ((d, .bool true) :: fr) ds l) (hf : b = false → OpsS P ro N E ops Q rest ((d, .bool false) :: fr) ds l) : OpsS P ro N E ops Q rest fr ds l := by
  refine ⟨fun a W hfr hds hs => ?_⟩
  have key : ∀ u, flook fr d = some u → FSat N ((d, u) :: fr) a := fun u hu => ⟨hfr.size, fun k w hk => hfr.at_ k w (flook_over hu k w hk)⟩
  cases b with
  | true => exact (ht rfl).run a W (key _ hb) hds hs
  | false => exact (hf rfl).run a W (key _ hb) hds hs
theorem s_perm (p : l.Perm l') (h : OpsS P ro N E ops Q rest fr ds l') : OpsS P ro N E ops Q rest fr ds l := ⟨fun a W hf hds hs => h.run a W hf hds (hs.perm p)⟩
theorem s_sub (hs' : ∀ d v, flook fr' d = some v → flook fr d = some v) (h : OpsS P ro N E ops Q rest fr' ds l) : OpsS P ro N E ops Q rest fr ds l := ⟨fun a W hf hds hs => h.run a W (hf.sub hs') hds hs⟩

/-! code -/
theorem c_seq {x y : Code} (h : CodeS P ro N E x (Exit.then (y.wpIn (Fw ro) 0 P Q) Q) fr ds l) : CodeS P ro N E (.seq x y) Q fr ds l := ⟨fun a W hf hds hs => wpIn_seq (h.run a W hf hds hs)⟩
theorem c_skip (h : PostS N E Q .normal fr ds l) : CodeS P ro N E .skip Q fr ds l := ⟨fun a W hf hds hs => wpIn_skip (h.run a W hf hds hs)⟩
theorem c_label {k : Nat} (h : PostS N E Q .normal fr ds l) : CodeS P ro N E (.label k) Q fr ds l := ⟨fun a W hf hds hs => wpIn_label (h.run a W hf hds hs)⟩
theorem c_exit {k : Nat} (h : PostS N E Q (.exit k) fr ds l) : CodeS P ro N E (.exit k) Q fr ds l := ⟨fun a W hf hds hs => wpIn_exit (h.run a W hf hds hs)⟩
theorem c_ret (h : PostS N E Q .ret fr ds l) : CodeS P ro N E .ret Q fr ds l := ⟨fun a W hf hds hs => wpIn_ret (h.run a W hf hds hs)⟩
theorem c_block {k : Nat} {x : Code} (h : CodeS P ro N E x (Exit.inBlock k Q) fr ds l) : CodeS P ro N E (.block k x) Q fr ds l := ⟨fun a W hf hds hs => wpIn_block (h.run a W hf hds hs)⟩
theorem c_scope {x : Code} (h : CodeS P ro N E x (Exit.noGoto Q) fr ds l) : CodeS P ro N E (.scope x) Q fr ds l := ⟨fun a W hf hds hs => wpIn_scope (h.run a W hf hds hs)⟩
theorem c_region {k : Nat} {os : List Oper} (h : OpsS P ro N E os.toArray Q os fr ds l) : CodeS P ro N E (.region k os.toArray false) Q fr ds l := ⟨fun a W hf hds hs => wpIn_region_lit (h.run a W hf hds hs)⟩
theorem c_cond_t {c : Operand} {x y : Code} (hc : ev fr c = some (.bool true)) (h : CodeS P ro N E x Q fr ds l) : CodeS P ro N E (.cond c x y) Q fr ds l := ⟨fun a W hf hds hs => wpIn_cond_true (hf.agrees _ _ hc) (h.run a W hf hds hs)⟩
theorem c_cond_f {c : Operand} {x y : Code} (hc : ev fr c = some (.bool false)) (h : CodeS P ro N E y Q fr ds l) : CodeS P ro N E (.cond c x y) Q fr ds l := ⟨fun a W hf hds hs => wpIn_cond_false (hf.agrees _ _ hc) (h.run a W hf hds hs)⟩
theorem c_cond {c : Operand} {x y : Code} {b : Bool} (hc : ev fr c = some (.bool b)) (ht : b = true → CodeS P ro N E x Q fr ds l) (he : b = false → CodeS P ro N E y Q fr ds l) : CodeS P ro N E (.cond c x y) Q fr ds l := ⟨fun a W hf hds hs =>
  wpIn_cond_split (hf.agrees _ _ hc) (fun e => (ht e).run a W hf hds hs) (fun e => (he e).run a W hf hds hs)⟩
theorem c_perm {c : Code} (p : l.Perm l') (h : CodeS P ro N E c Q fr ds l') : CodeS P ro N E c Q fr ds l := ⟨fun a W hf hds hs => h.run a W hf hds (hs.perm p)⟩
theorem c_subl {c : Code} (p : l'.Sublist l) (h : CodeS P ro N E c Q fr ds l') : CodeS P ro N E c Q fr ds l := ⟨fun a W hf hds hs => h.run a W hf hds (hs.sub p)⟩
theorem c_sub {c : Code} (hs' : FSub fr' fr) (h : CodeS P ro N E c Q fr' ds l) : CodeS P ro N E c Q fr ds l := ⟨fun a W hf hds hs => h.run a W (hf.sub hs'.spec) hds hs⟩
/-- a loop: what holds at each round's head is told by x -/
def LoopK (N : Nat) (E : World) {α : Type} (fx : α → Fr) (ds : List Deferred) (lx : α → List Chunk) (pre : α → Prop) (μ : α → Nat) (x : α) (a : Act) (W : World) : Prop :=
  ∃ y, pre y ∧ μ y < μ x ∧ FSat N (fx y) a ∧ a.defers = ds ∧ Sat E (lx y) W
theorem exists_least {p : Nat → Prop} (h : ∃ n, p n) : ∃ n, p n ∧ ∀ m, p m → n ≤ m := by
  obtain ⟨n, hn⟩ := h
  induction n using Nat.strongRecOn with
  | _ n ih =>
    by_cases hc : ∃ m, m < n ∧ p m
    · obtain ⟨m, hlt, hm⟩ := hc; exact ih m hlt hm
    · exact ⟨n, hn, fun m hm => Nat.le_of_not_lt fun hlt => hc ⟨m, hlt, hm⟩⟩
open Classical in
noncomputable def leastN (p : Nat → Prop) : Nat := if h : ∃ n, p n then Classical.choose (exists_least h) else 0
theorem leastN_spec {p : Nat → Prop} (h : ∃ n, p n) : p (leastN p) ∧ ∀ m, p m → leastN p ≤ m := by
  unfold leastN
  rw [dif_pos h]
  exact Classical.choose_spec (exists_least h)
theorem c_loop {α : Type} {c : Code} (fx : α → Fr) (lx : α → List Chunk) (pre : α → Prop) (μ : α → Nat) (x₀ : α) (h0 : pre x₀) (hf0 : FSub (fx x₀) fr) (hl0 : l.Perm (lx x₀))
    (round : ∀ x, pre x → CodeS P ro N E c (Exit.then (LoopK N E fx ds lx pre μ x) Q) (fx x) ds (lx x)) : CodeS P ro N E (.loop c) Q fr ds l := by
  refine ⟨fun a W hf hds hs => ?_⟩
  refine wpIn_loop (fun a W => ∃ x, pre x ∧ FSat N (fx x) a ∧ a.defers = ds ∧ Sat E (lx x) W) (fun a W => leastN fun n => ∃ x, pre x ∧ FSat N (fx x) a ∧ a.defers = ds ∧ Sat E (lx x) W ∧ μ x = n) ⟨x₀, h0, hf.sub hf0.spec, hds, hs.perm hl0⟩ ?_
  intro a W hI
  have hex : ∃ n, ∃ x, pre x ∧ FSat N (fx x) a ∧ a.defers = ds ∧ Sat E (lx x) W ∧ μ x = n := by
    obtain ⟨x, h1, h2, h3, h4⟩ := hI
    exact ⟨_, x, h1, h2, h3, h4, rfl⟩
  obtain ⟨⟨x, h1, h2, h3, h4, h5⟩, _⟩ := leastN_spec hex
  refine wpIn_mono ((round x h1).run a W h2 h3 h4) ?_
  intro e a' W' hq
  cases e with
  | normal =>
    obtain ⟨y, k1, k2, k3, k4, k5⟩ := hq
    refine ⟨⟨y, k1, k3, k4, k5⟩, ?_⟩
    exact Nat.lt_of_le_of_lt ((leastN_spec (p := fun n => ∃ x, pre x ∧ FSat N (fx x) a' ∧ a'.defers = ds ∧ Sat E (lx x) W' ∧ μ x = n) ⟨_, y, k1, k3, k4, k5, rfl⟩).2 (μ y) ⟨y, k1, k3, k4, k5, rfl⟩) (by rw [← h5]; exact k2)
  | _ => exact hq

/-! what stands behind -/
theorem p_then {y : Code} (h : CodeS P ro N E y Q fr ds l) : PostS N E (Exit.then (y.wpIn (Fw ro) 0 P Q) Q) .normal fr ds l := ⟨h.run⟩
theorem p_then_exit {Kx : Act → World → Prop} {k : Nat} (h : PostS N E Q (.exit k) fr ds l) : PostS N E (Exit.then Kx Q) (.exit k) fr ds l := ⟨h.run⟩
theorem p_then_ret {Kx : Act → World → Prop} (h : PostS N E Q .ret fr ds l) : PostS N E (Exit.then Kx Q) .ret fr ds l := ⟨h.run⟩
theorem p_block {k : Nat} (h : PostS N E Q .normal fr ds l) : PostS N E (Exit.inBlock k Q) .normal fr ds l := ⟨h.run⟩
theorem p_block_ret {k : Nat} (h : PostS N E Q .ret fr ds l) : PostS N E (Exit.inBlock k Q) .ret fr ds l := ⟨h.run⟩
theorem p_block_here {k : Nat} (h : PostS N E Q .normal fr ds l) : PostS N E (Exit.inBlock k Q) (.exit k) fr ds l := ⟨fun a W hf hds hs => by simp only [Exit.inBlock, if_true]; exact h.run a W hf hds hs⟩
theorem p_block_on {k j : Nat} (hne : Nat.beq j k = false) (h : PostS N E Q (.exit j) fr ds l) : PostS N E (Exit.inBlock k Q) (.exit j) fr ds l := ⟨fun a W hf hds hs => by
  have : ¬ j = k := fun e => by subst e; simp at hne
  simp only [Exit.inBlock, if_neg this]; exact h.run a W hf hds hs⟩
theorem p_scope (h : PostS N E Q .normal fr ds l) : PostS N E (Exit.noGoto Q) .normal fr ds l := ⟨h.run⟩
theorem p_scope_ret (h : PostS N E Q .ret fr ds l) : PostS N E (Exit.noGoto Q) .ret fr ds l := ⟨h.run⟩
theorem p_scope_exit {k : Nat} (h : PostS N E Q (.exit k) fr ds l) : PostS N E (Exit.noGoto Q) (.exit k) fr ds l := ⟨h.run⟩
theorem p_loop {α : Type} {fx : α → Fr} {lx : α → List Chunk} {pre : α → Prop} {μ : α → Nat} {x : α} (y : α) (h1 : pre y) (h2 : μ y < μ x) (h3 : FSub (fx y) fr) (h4 : l.Perm (lx y)) : PostS N E (Exit.then (LoopK N E fx ds lx pre μ x) Q) .normal fr ds l :=
  ⟨fun a W hf hds hs => ⟨y, h1, h2, hf.sub h3.spec, hds, hs.perm h4⟩⟩
end

/-! functions -/
def RK (E : World) (K : Value → List Chunk → Prop) : Ending → World → Prop := fun e W' => ∃ v l', e = .returned v ∧ K v l' ∧ Sat E l' W'
theorem fn_of_body {P : Program} {f : FuncId} {fn : Func} {c : Code} {args : List Value} {l : List Chunk} {K : Value → List Chunk → Prop} (hf : P.funcs[f]? = some fn) (hb : fn.body = some c) (hn : Nat.ble args.length fn.ntmps = true)
    (h : ∀ E, CodeS P none fn.ntmps E c (bodyPostM Fence.wide 0 P fn (RK E K)) (argF 0 args) [] l) : Fn P f args l K := by
  refine ⟨fun E W hs => ?_⟩
  refine (callsIn_wide (n := 0)).1 (callsIn_of_wp_marks hf hb trivial ?_ rfl)
  exact (h E).run _ W (fsat_args args _ [] (Nat.le_of_ble_eq_true hn)) rfl hs
/-- the results, one by one -/
inductive ResS (P : Program) (fr : Fr) (l : List Chunk) : List ResultVar → List Value → Prop
  | nil : ResS P fr l [] []
  | tmp {t : Nat} {v : Value} {rs : List ResultVar} {vs : List Value} : flook fr t = some v → ResS P fr l rs vs → ResS P fr l (.tmp t :: rs) (v :: vs)
  | cell {t : Nat} {T : TypeId} {v : Value} {b off : Nat} {rs : List ResultVar} {vs : List Value} : flook fr t = some (.pointer (some ⟨b, off, none⟩)) → (∀ E W, Sat E l W → (loadVar T ⟨b, off, none⟩).run P W = .ok v W) → ResS P fr l rs vs → ResS P fr l (.cell t T :: rs) (v :: vs)
def tup : List Value → Value
  | [v] => v
  | vs => .tuple vs.toArray
def resF (tmps : Array Value) : ResultVar → Sem Value
  | .tmp t => pure (tmps.getD t undef)
  | .cell b t => do loadVar t (← asAddr (tmps.getD b undef))
theorem resS_run {P : Program} {N : Nat} {fr : Fr} {l : List Chunk} {E W : World} {a : Act} (hf : FSat N fr a) (hs : Sat E l W) : ∀ {rs : List ResultVar} {vs : List Value}, ResS P fr l rs vs → (rs.mapM (resF a.tmps)).run P W = .ok vs W
  | [], _, .nil => by simp [Sem.run]
  | _, _, .tmp (t := t) (v := v) (rs := rs) (vs := vs) h1 h2 => by
    have e : a.tmps.getD t undef = v := by rw [Array.getD_eq_getD_getElem?, hf.at_ _ _ h1]; rfl
    have e1 : (resF a.tmps (.tmp t)).run P W = .ok v W := by show (pure _ : Sem Value).run P W = _; rw [e]; rfl
    rw [List.mapM_cons, Sem.run_bind, e1]
    simp only [Result.andThen]
    rw [Sem.run_bind, resS_run hf hs h2]
    rfl
  | _, _, .cell (t := t) (v := v) (T := T) (b := b) (off := off) h1 h3 h2 => by
    have e : a.tmps.getD t undef = .pointer (some ⟨b, off, none⟩) := by rw [Array.getD_eq_getD_getElem?, hf.at_ _ _ h1]; rfl
    have e1 : (resF a.tmps (.cell t T)).run P W = .ok v W := by
      show (asAddr (a.tmps.getD t undef) >>= loadVar T).run P W = _
      rw [e, Sem.run_bind]
      exact h3 E W hs
    rw [List.mapM_cons, Sem.run_bind, e1]
    simp only [Result.andThen]
    rw [Sem.run_bind, resS_run hf hs h2]
    rfl
theorem results_run {P : Program} {N : Nat} {fn : Func} {fr : Fr} {l : List Chunk} {E W : World} {a : Act} {rs : List ResultVar} {vs : List Value} (hr : fn.results = rs.toArray) (hf : FSat N fr a) (hs : Sat E l W) (h : ResS P fr l rs vs) :
    (results fn a.tmps).run P W = .ok (tup vs) W := by
  have e : results fn a.tmps = (do let us ← fn.results.mapM (resF a.tmps); pure (if h : us.size = 1 then us[0] else .tuple us)) := rfl
  rw [e, hr, List.mapM_toArray, Sem.run_bind, map_eq_pure_bind, Sem.run_bind, resS_run hf hs h]
  simp only [Result.andThen, Sem.run_pure]
  congr 1
  match vs with
  | [] => rfl
  | [v] => rfl
  | _ :: _ :: _ => rfl
def markC (D : Nat) : Chunk := (D, .deferred (some []))
def markD (D : Nat) : Deferred := { target := .collected D, args := #[] }
theorem leaves_sl {P : Program} {fn : Func} {R : Ending → World → Prop} {tmps : Array Value} {E : World} {l : List Chunk} {v : Value} : ∀ (Ds : List Nat) (W : World), Sat E (Ds.map markC ++ l) W →
    (∀ W', Sat E l W' → (results fn tmps).run P W' = .ok v W' ∧ R (.returned v) W') → LeavesInM Fence.wide 0 P fn tmps R (Ds.map markD) .returning W
  | [], W, hs, hr => ⟨v, hr W hs⟩
  | D :: Ds, W, hs, hr => by
    have hK : W.heap[D]? = some (.deferred (some [])) := hs.has (D, _) List.mem_cons_self
    have hs1 : Sat E ((D, .deferred none) :: (Ds.map markC ++ l)) (W.putObj D (.deferred none)) := hs.upd Upd.here
    exact ⟨by simp, .inl ⟨D, _, rfl, run_takeDeferred hK, leaves_sl Ds _ hs1.tail hr⟩⟩
theorem p_ret {P : Program} {N : Nat} {E : World} {fn : Func} {K : Value → List Chunk → Prop} {fr : Fr} {l l' : List Chunk} {rs : List ResultVar} {vs : List Value} (Ds : List Nat) (hr : fn.results = rs.toArray) (hp : l.Perm (Ds.map markC ++ l')) (h : ResS P fr l' rs vs) (hk : K (tup vs) l') :
    PostS N E (bodyPostM Fence.wide 0 P fn (RK E K)) .ret fr (Ds.map markD) l := by
  refine ⟨fun a W hf hds hs => ?_⟩
  show LeavesInM Fence.wide 0 P fn a.tmps (RK E K) a.defers .returning W
  rw [hds]
  exact leaves_sl (v := tup vs) Ds W (hs.perm hp) fun W' hs' => ⟨results_run hr hf hs' h, _, l', rfl, hk, hs'⟩
theorem p_end {P : Program} {N : Nat} {E : World} {fn : Func} {R : Ending → World → Prop} {fr : Fr} {l : List Chunk} {ds : List Deferred} (h : PostS N E (bodyPostM Fence.wide 0 P fn R) .ret fr ds l) : PostS N E (bodyPostM Fence.wide 0 P fn R) .normal fr ds l := ⟨h.run⟩
end Go.Proofs.Ytmmohklaiffkmaa
