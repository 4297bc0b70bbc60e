/- Tests that a fact decides, and parting on them. Laws of my own, no program's. -/
import Derived.Test.YtmmohklaiffkmaaS3
set_option linter.unusedVariables false
set_option linter.unusedSimpArgs false
namespace Go.Proofs.Ytmmohklaiffkmaa
open Go.RowKit

section
variable {P : Program} {ro : Option Nat} {N : Nat} {E : World} {ops : Array Oper} {Q : Exit → Act → World → Prop} {rest : List Oper} {o : Oper} {fr fr' : Fr} {ds : List Deferred} {l l' : List Chunk} {K : Value → List Chunk → Prop} {v : Value}
theorem t_e {d : Nat} (h : OpE P ro N fr l o K) (hw : o.guard = none) (hd : o.dst = some d) (hb : Nat.blt d N = true) (hk : ∀ v l', K v l' → OpsS P ro N E ops Q rest ((d, v) :: fr) ds l') : OpsS P ro N E ops Q (o :: rest) fr ds l :=
  s_e h hw (by rw [hd]; exact hb) fun v l' hkv => by rw [hd]; exact hk v l' hkv
theorem t_n (h : OpE P ro N fr l o K) (hw : o.guard = none) (hd : o.dst = none) (hk : ∀ v l', K v l' → OpsS P ro N E ops Q rest fr ds l') : OpsS P ro N E ops Q (o :: rest) fr ds l :=
  s_e h hw (by rw [hd]; rfl) fun v l' hkv => by rw [hd]; exact hk v l' hkv
theorem t_q {d : Nat} (h : OpQ P ro N fr l o v) (hw : o.guard = none) (hd : o.dst = some d) (hb : Nat.blt d N = true) (hk : OpsS P ro N E ops Q rest ((d, v) :: fr) ds l) : OpsS P ro N E ops Q (o :: rest) fr ds l :=
  s_q h hw (by rw [hd]; exact hb) (by rw [hd]; exact hk)
theorem t_gq {d j dj : Nat} {oj : Oper} {b : Bool} (h : OpQ P ro N fr l o v) (hw : o.guard = some (j, b)) (hj : ops[j]? = some oj) (hjd : oj.dst = some dj) (hb : flook fr dj = some (.bool b)) (hd : o.dst = some d) (hbl : Nat.blt d N = true) (hk : OpsS P ro N E ops Q rest ((d, v) :: fr) ds l) : OpsS P ro N E ops Q (o :: rest) fr ds l :=
  s_gq h hw hj hjd hb (by rw [hd]; exact hbl) (by rw [hd]; exact hk)
theorem t_ge {d j dj : Nat} {oj : Oper} {b : Bool} (h : OpE P ro N fr l o K) (hw : o.guard = some (j, b)) (hj : ops[j]? = some oj) (hjd : oj.dst = some dj) (hb : flook fr dj = some (.bool b)) (hd : o.dst = some d) (hbl : Nat.blt d N = true) (hk : ∀ v l', K v l' → OpsS P ro N E ops Q rest ((d, v) :: fr) ds l') : OpsS P ro N E ops Q (o :: rest) fr ds l :=
  s_ge h hw hj hjd hb (by rw [hd]; exact hbl) fun v l' hkv => by rw [hd]; exact hk v l' hkv
theorem t_gs {d j dj : Nat} {oj : Oper} {b b' : Bool} (hw : o.guard = some (j, b)) (hj : ops[j]? = some oj) (hjd : oj.dst = some dj) (hb : flook fr dj = some (.bool b')) (hne : (b' == b) = false) (hd : o.dst = some d) (hbl : Nat.blt d N = true) (hk : OpsS P ro N E ops Q rest ((d, undef) :: fr) ds l) : OpsS P ro N E ops Q (o :: rest) fr ds l :=
  s_gs hw hj hjd hb hne (by rw [hd]; exact hbl) (by rw [hd]; exact hk)
theorem t_gs0 {j dj : Nat} {oj : Oper} {b b' : Bool} (hw : o.guard = some (j, b)) (hj : ops[j]? = some oj) (hjd : oj.dst = some dj) (hb : flook fr dj = some (.bool b')) (hne : (b' == b) = false) (hd : o.dst = none) (hk : OpsS P ro N E ops Q rest fr ds l) : OpsS P ro N E ops Q (o :: rest) fr ds l :=
  s_gs hw hj hjd hb hne (by rw [hd]; rfl) (by rw [hd]; exact hk)
/-- what a guard says: nothing to ask, or a bool that is known -/
def gst (ops : Array Oper) (fr : Fr) : Option (Nat × Bool) → Option Bool
  | none => some true
  | some (j, b) => match ops[j]? with
    | some oj => match oj.dst with
      | some dj => match flook fr dj with
        | some (.bool b') => some (b' == b)
        | _ => none
      | none => none
    | none => none
theorem gst_some {g : Option (Nat × Bool)} {r : Bool} (h : gst ops fr g = some r) : (g = none ∧ r = true) ∨ ∃ j b oj dj b', g = some (j, b) ∧ ops[j]? = some oj ∧ oj.dst = some dj ∧ flook fr dj = some (.bool b') ∧ (b' == b) = r := by
  cases g with
  | none => exact .inl ⟨rfl, by cases h; rfl⟩
  | some jb =>
    obtain ⟨j, b⟩ := jb
    refine .inr ⟨j, b, ?_⟩
    unfold gst at h
    simp only at h
    split at h
    · rename_i oj hoj
      split at h
      · rename_i dj hdj
        split at h
        · rename_i b' hb'
          exact ⟨oj, dj, b', rfl, hoj, hdj, hb', by cases h; rfl⟩
        · cases h
      · cases h
    · cases h
theorem t_h {d : Nat} (h : OpQ P ro N fr l o v) (hw : gst ops fr o.guard = some true) (hd : o.dst = some d) (hb : Nat.blt d N = true) (hk : OpsS P ro N E ops Q rest ((d, v) :: fr) ds l) : OpsS P ro N E ops Q (o :: rest) fr ds l := by
  rcases gst_some hw with ⟨h1, _⟩ | ⟨j, b, oj, dj, b', h1, h2, h3, h4, h5⟩
  · exact t_q h h1 hd hb hk
  · have : b' = b := by simpa using h5
    subst this
    exact t_gq h h1 h2 h3 h4 hd hb hk
theorem t_hs {d : Nat} (hw : gst ops fr o.guard = some false) (hd : o.dst = some d) (hb : Nat.blt d N = true) (hk : OpsS P ro N E ops Q rest ((d, undef) :: fr) ds l) : OpsS P ro N E ops Q (o :: rest) fr ds l := by
  rcases gst_some hw with ⟨_, h1⟩ | ⟨j, b, oj, dj, b', h1, h2, h3, h4, h5⟩
  · cases h1
  · exact t_gs h1 h2 h3 h4 h5 hd hb hk
theorem t_hs0 (hw : gst ops fr o.guard = some false) (hd : o.dst = none) (hk : OpsS P ro N E ops Q rest fr ds l) : OpsS P ro N E ops Q (o :: rest) fr ds l := by
  rcases gst_some hw with ⟨_, h1⟩ | ⟨j, b, oj, dj, b', h1, h2, h3, h4, h5⟩
  · cases h1
  · exact t_gs0 h1 h2 h3 h4 h5 hd hk
theorem ev_over {t : Nat} {u : Value} (h : ev fr (.tmp t) = some u) : ∀ k w, flook ((t, u) :: fr) k = some w → flook fr k = some w := flook_over h
theorem c_weak {c : Code} (hs' : ∀ d v, flook fr' d = some v → flook fr d = some v) (h : CodeS P ro N E c Q fr' ds l) : CodeS P ro N E c Q fr ds l := ⟨fun a W hf hds hs => h.run a W (hf.sub hs') hds hs⟩
theorem c_if_t {t : Nat} {x y : Code} {p : Prop} {ip : Decidable p} (hc : flook fr t = some (.bool (@decide p ip))) (hp : p) (h : CodeS P ro N E x Q ((t, .bool true) :: fr) ds l) : CodeS P ro N E (.cond (.tmp t) x y) Q fr ds l := by
  have hc' : flook fr t = some (.bool true) := by rw [hc, decide_eq_true hp]
  exact c_cond_t hc' (c_weak (flook_over hc') h)
theorem c_if_f {t : Nat} {x y : Code} {p : Prop} {ip : Decidable p} (hc : flook fr t = some (.bool (@decide p ip))) (hp : ¬ p) (h : CodeS P ro N E y Q ((t, .bool false) :: fr) ds l) : CodeS P ro N E (.cond (.tmp t) x y) Q fr ds l := by
  have hc' : flook fr t = some (.bool false) := by rw [hc, decide_eq_false hp]
  exact c_cond_f hc' (c_weak (flook_over hc') h)
theorem c_if {t : Nat} {x y : Code} {p : Prop} {ip : Decidable p} (hc : flook fr t = some (.bool (@decide p ip))) (h1 : p → CodeS P ro N E x Q ((t, .bool true) :: fr) ds l) (h2 : ¬ p → CodeS P ro N E y Q ((t, .bool false) :: fr) ds l) : CodeS P ro N E (.cond (.tmp t) x y) Q fr ds l := by
  by_cases hp : p
  · exact c_if_t hc hp (h1 hp)
  · exact c_if_f hc hp (h2 hp)
theorem c_ifb {t : Nat} {x y : Code} {b : Bool} (hc : flook fr t = some (.bool b)) (h1 : b = true → CodeS P ro N E x Q ((t, .bool true) :: fr) ds l) (h2 : b = false → CodeS P ro N E y Q ((t, .bool false) :: fr) ds l) : CodeS P ro N E (.cond (.tmp t) x y) Q fr ds l := by
  cases b with
  | true => exact c_cond_t hc (c_weak (flook_over hc) (h1 rfl))
  | false => exact c_cond_f hc (c_weak (flook_over hc) (h2 rfl))
/-- a bool that a fact gives -/
theorem c_is {t : Nat} {x y : Code} {b b' : Bool} (hc : flook fr t = some (.bool b)) (hb : b = b') (h : CodeS P ro N E (if b' then x else y) Q ((t, .bool b') :: fr) ds l) : CodeS P ro N E (.cond (.tmp t) x y) Q fr ds l := by
  subst hb
  cases b with
  | true => exact c_cond_t hc (c_weak (flook_over hc) h)
  | false => exact c_cond_f hc (c_weak (flook_over hc) h)
theorem s_weak (hs' : ∀ d v, flook fr' d = some v → flook fr d = some v) (h : OpsS P ro N E ops Q rest fr' ds l) : OpsS P ro N E ops Q rest fr ds l := ⟨fun a W hf hds hs => h.run a W (hf.sub hs') hds hs⟩
/-- ahead of a guarded operation whose test a fact decides -/
theorem s_gif_t {j t : Nat} {w : Bool} {oj : Oper} {p : Prop} {ip : Decidable p} (hw : o.guard = some (j, w)) (hj : ops[j]? = some oj) (hjd : oj.dst = some t) (hc : flook fr t = some (.bool (@decide p ip))) (hp : p) (h : OpsS P ro N E ops Q (o :: rest) ((t, .bool true) :: fr) ds l) : OpsS P ro N E ops Q (o :: rest) fr ds l := by
  have hc' : flook fr t = some (.bool true) := by rw [hc, decide_eq_true hp]
  exact s_weak (flook_over hc') h
theorem s_gif_f {j t : Nat} {w : Bool} {oj : Oper} {p : Prop} {ip : Decidable p} (hw : o.guard = some (j, w)) (hj : ops[j]? = some oj) (hjd : oj.dst = some t) (hc : flook fr t = some (.bool (@decide p ip))) (hp : ¬ p) (h : OpsS P ro N E ops Q (o :: rest) ((t, .bool false) :: fr) ds l) : OpsS P ro N E ops Q (o :: rest) fr ds l := by
  have hc' : flook fr t = some (.bool false) := by rw [hc, decide_eq_false hp]
  exact s_weak (flook_over hc') h
theorem s_gif {j t : Nat} {w : Bool} {oj : Oper} {p : Prop} {ip : Decidable p} (hw : o.guard = some (j, w)) (hj : ops[j]? = some oj) (hjd : oj.dst = some t) (hc : flook fr t = some (.bool (@decide p ip))) (h1 : p → OpsS P ro N E ops Q (o :: rest) ((t, .bool true) :: fr) ds l) (h2 : ¬ p → OpsS P ro N E ops Q (o :: rest) ((t, .bool false) :: fr) ds l) : OpsS P ro N E ops Q (o :: rest) fr ds l := by
  by_cases hp : p
  · exact s_gif_t hw hj hjd hc hp (h1 hp)
  · exact s_gif_f hw hj hjd hc hp (h2 hp)
theorem s_gb {j t : Nat} {w : Bool} {oj : Oper} {b : Bool} (hw : o.guard = some (j, w)) (hj : ops[j]? = some oj) (hjd : oj.dst = some t) (hc : flook fr t = some (.bool b)) (h1 : b = true → OpsS P ro N E ops Q (o :: rest) ((t, .bool true) :: fr) ds l) (h2 : b = false → OpsS P ro N E ops Q (o :: rest) ((t, .bool false) :: fr) ds l) : OpsS P ro N E ops Q (o :: rest) fr ds l :=
  s_split t hc h1 h2
theorem s_gis {j t : Nat} {w : Bool} {oj : Oper} {b b' : Bool} (hw : o.guard = some (j, w)) (hj : ops[j]? = some oj) (hjd : oj.dst = some t) (hc : flook fr t = some (.bool b)) (hb : b = b') (h : OpsS P ro N E ops Q (o :: rest) ((t, .bool b') :: fr) ds l) : OpsS P ro N E ops Q (o :: rest) fr ds l := by
  subst hb; exact s_weak (flook_over hc) h
end
theorem int_eq {k : IntKind} {a b : Int} (h : a = b) : Value.int k a = .int k b := by rw [h]
theorem some_int {k : IntKind} {a b : Int} (h : a = b) : some (Value.int k a) = some (.int k b) := by rw [h]
theorem some_ptr {b o o' : Nat} (h : o = o') : some (Value.pointer (some ⟨b, o, none⟩)) = some (.pointer (some ⟨b, o', none⟩)) := by rw [h]
end Go.Proofs.Ytmmohklaiffkmaa
