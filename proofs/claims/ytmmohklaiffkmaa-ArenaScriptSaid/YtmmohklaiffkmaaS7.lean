/- The steps of a plan. Laws of my own, no program's. -/
import Derived.Test.YtmmohklaiffkmaaS6
set_option linter.unusedVariables false
set_option linter.unusedSimpArgs false
namespace Go.Proofs.Ytmmohklaiffkmaa
open Go.RowKit

section
variable {P : Program} {ro : Option Nat} {N : Nat} {E : World} {ops : Array Oper} {Q : Exit → Act → World → Prop} {R : List Chunk} {tbl : List (List Nat)} {sw : Sw} {sp : Spec} {pl : List PlanOp} {o : Oper} {fr fr' : Fr} {ds : List Deferred} {l l' : List Chunk} {K : Value → List Chunk → Prop} {v : Value} {i : Nat} {k : Bool}
theorem pl_nil (h : PostS N E Q .normal fr ds l) : PlanS P ro N E ops Q R tbl sw sp [] fr ds l := .nil h
theorem pl_q {d : Nat} (h : OpQ P ro N fr R o v) (hw : o.guard = none) (hd : o.dst = some d) (hb : Nat.blt d N = true) (hk : PlanS P ro N E ops Q R tbl sw sp pl ((d, v) :: fr) ds l) : PlanS P ro N E ops Q R tbl sw sp ((i, true, o) :: pl) fr ds l :=
  .q h hw (by rw [hd]; exact hb) (by rw [hd]; exact hk)
theorem pl_gq {d j dj : Nat} {oj : Oper} {b : Bool} (h : OpQ P ro N fr R o v) (hw : o.guard = some (j, b)) (hj : ops[j]? = some oj) (hjd : oj.dst = some dj) (hb : flook fr dj = some (.bool b)) (hd : o.dst = some d) (hbl : Nat.blt d N = true) (hk : PlanS P ro N E ops Q R tbl sw sp pl ((d, v) :: fr) ds l) : PlanS P ro N E ops Q R tbl sw sp ((i, true, o) :: pl) fr ds l :=
  .gq h hw hj hjd hb (by rw [hd]; exact hbl) (by rw [hd]; exact hk)
theorem pl_gs {d j dj : Nat} {oj : Oper} {b b' : Bool} (hR : ∀ c, c ∈ R → c ∈ l) (hw : o.guard = some (j, b)) (hj : ops[j]? = some oj) (hjd : oj.dst = some dj) (hb : flook fr dj = some (.bool b')) (hne : (b' == b) = false) (hd : o.dst = some d) (hbl : Nat.blt d N = true) (hk : PlanS P ro N E ops Q R tbl none [] pl ((d, undef) :: fr) ds l) : PlanS P ro N E ops Q R tbl none [] ((i, k, o) :: pl) fr ds l :=
  .gs hw hj hjd hb hne (by rw [hd]; exact hbl) hR (fun _ => rfl) (fun _ x hx => by cases hx) (by rw [hd]; exact hk)
theorem pl_gs0 {j dj : Nat} {oj : Oper} {b b' : Bool} (hR : ∀ c, c ∈ R → c ∈ l) (hw : o.guard = some (j, b)) (hj : ops[j]? = some oj) (hjd : oj.dst = some dj) (hb : flook fr dj = some (.bool b')) (hne : (b' == b) = false) (hd : o.dst = none) (hk : PlanS P ro N E ops Q R tbl none [] pl fr ds l) : PlanS P ro N E ops Q R tbl none [] ((i, k, o) :: pl) fr ds l :=
  .gs hw hj hjd hb hne (by rw [hd]; rfl) hR (fun _ => rfl) (fun _ x hx => by cases hx) (by rw [hd]; exact hk)
theorem pl_e {d : Nat} (h : OpE P ro N fr l o K) (hw : o.guard = none) (hd : o.dst = some d) (hb : Nat.blt d N = true) (hR : ∀ v l', K v l' → (∀ c, c ∈ R → c ∈ l')) (hk : ∀ v l', K v l' → PlanS P ro N E ops Q R tbl none [] pl ((d, v) :: fr) ds l') : PlanS P ro N E ops Q R tbl none [] ((i, false, o) :: pl) fr ds l :=
  .e h hw (by rw [hd]; exact hb) hR (fun _ _ _ x hx => by cases hx) fun v l' hkv => by rw [hd]; exact hk v l' hkv
theorem pl_n (h : OpE P ro N fr l o K) (hw : o.guard = none) (hd : o.dst = none) (hR : ∀ v l', K v l' → (∀ c, c ∈ R → c ∈ l')) (hk : ∀ v l', K v l' → PlanS P ro N E ops Q R tbl none [] pl fr ds l') : PlanS P ro N E ops Q R tbl none [] ((i, false, o) :: pl) fr ds l :=
  .e h hw (by rw [hd]; rfl) hR (fun _ _ _ x hx => by cases hx) fun v l' hkv => by rw [hd]; exact hk v l' hkv
theorem pl_ge {d j dj : Nat} {oj : Oper} {b : Bool} (h : OpE P ro N fr l o K) (hw : o.guard = some (j, b)) (hj : ops[j]? = some oj) (hjd : oj.dst = some dj) (hb : flook fr dj = some (.bool b)) (hd : o.dst = some d) (hbl : Nat.blt d N = true) (hR : ∀ v l', K v l' → (∀ c, c ∈ R → c ∈ l')) (hk : ∀ v l', K v l' → PlanS P ro N E ops Q R tbl none [] pl ((d, v) :: fr) ds l') : PlanS P ro N E ops Q R tbl none [] ((i, false, o) :: pl) fr ds l :=
  .ge h hw hj hjd hb (by rw [hd]; exact hbl) hR (fun _ _ _ x hx => by cases hx) fun v l' hkv => by rw [hd]; exact hk v l' hkv
/-- effects while special blocks are looked at -/
theorem pl_eS {d : Nat} (h : OpE P ro N fr l o K) (hw : o.guard = none) (hd : o.dst = some d) (hb : Nat.blt d N = true) (hR : ∀ v l', K v l' → (∀ c, c ∈ R → c ∈ l')) (hS : ∀ v l', K v l' → ∀ x, x ∈ sp → ancOf tbl i x.1 = false → ∀ c, c ∈ x.2 → c ∈ l') (hk : ∀ v l', K v l' → PlanS P ro N E ops Q R tbl none sp pl ((d, v) :: fr) ds l') : PlanS P ro N E ops Q R tbl none sp ((i, false, o) :: pl) fr ds l :=
  .e h hw (by rw [hd]; exact hb) hR hS fun v l' hkv => by rw [hd]; exact hk v l' hkv
theorem pl_nS (h : OpE P ro N fr l o K) (hw : o.guard = none) (hd : o.dst = none) (hR : ∀ v l', K v l' → (∀ c, c ∈ R → c ∈ l')) (hS : ∀ v l', K v l' → ∀ x, x ∈ sp → ancOf tbl i x.1 = false → ∀ c, c ∈ x.2 → c ∈ l') (hk : ∀ v l', K v l' → PlanS P ro N E ops Q R tbl none sp pl fr ds l') : PlanS P ro N E ops Q R tbl none sp ((i, false, o) :: pl) fr ds l :=
  .e h hw (by rw [hd]; rfl) hR hS fun v l' hkv => by rw [hd]; exact hk v l' hkv
/-- all that looks at special blocks comes ahead of this operation -/
theorem anc_all {sp : Spec} (h : (sp.map Prod.fst).all (fun q => ancOf tbl i q) = true) {x : Nat × List Chunk} (hx : x ∈ sp) (ha : ancOf tbl i x.1 = false) : ∀ c, c ∈ x.2 → c ∈ l' := by
  have := List.all_eq_true.1 h x.1 (List.mem_map.2 ⟨x, hx, rfl⟩)
  rw [ha] at this; cases this
/-- a quiet operation that looks at special blocks -/
theorem pl_s {d : Nat} {S : List Chunk} (h : OpQ P ro N fr S o v) (hS : ∀ c, c ∈ S → c ∈ l) (hw : o.guard = none) (hd : o.dst = some d) (hb : Nat.blt d N = true) (hk : PlanS P ro N E ops Q R tbl sw ((i, S) :: sp) pl ((d, v) :: fr) ds l) : PlanS P ro N E ops Q R tbl sw sp ((i, true, o) :: pl) fr ds l :=
  .sq h hS hw (by rw [hd]; exact hb) (by rw [hd]; exact hk)
/-- a quiet operation that has its place among the effects -/
theorem pl_qe {d : Nat} (h : OpQ P ro N fr l o v) (hw : o.guard = none) (hd : o.dst = some d) (hb : Nat.blt d N = true) (hR : ∀ c, c ∈ R → c ∈ l) (hk : PlanS P ro N E ops Q R tbl none [] pl ((d, v) :: fr) ds l) : PlanS P ro N E ops Q R tbl none [] ((i, false, o) :: pl) fr ds l := by
  refine pl_e (h.run l fun _ h => h) hw hd hb ?_ ?_
  · rintro _ _ ⟨rfl, rfl⟩; exact hR
  · rintro _ _ ⟨rfl, rfl⟩; exact hk
theorem pl_h {d : Nat} (h : OpQ P ro N fr R o v) (hw : gst ops fr o.guard = some true) (hd : o.dst = some d) (hb : Nat.blt d N = true) (hk : PlanS P ro N E ops Q R tbl sw sp pl ((d, v) :: fr) ds l) : PlanS P ro N E ops Q R tbl sw sp ((i, true, o) :: pl) fr ds l := by
  rcases gst_some hw with ⟨h1, _⟩ | ⟨j, b, oj, dj, b', h1, h2, h3, h4, h5⟩
  · exact pl_q h h1 hd hb hk
  · have : b' = b := by simpa using h5
    subst this
    exact pl_gq h h1 h2 h3 h4 hd hb hk
theorem pl_hs {d : Nat} (hR : ∀ c, c ∈ R → c ∈ l) (hw : gst ops fr o.guard = some false) (hd : o.dst = some d) (hb : Nat.blt d N = true) (hk : PlanS P ro N E ops Q R tbl none [] pl ((d, undef) :: fr) ds l) : PlanS P ro N E ops Q R tbl none [] ((i, k, o) :: pl) fr ds l := by
  rcases gst_some hw with ⟨_, h1⟩ | ⟨j, b, oj, dj, b', h1, h2, h3, h4, h5⟩
  · cases h1
  · exact pl_gs hR h1 h2 h3 h4 h5 hd hb hk
/-- an operation whose guard's own operation was passed over is passed over -/
theorem pl_hu {d j dj : Nat} {oj : Oper} {b : Bool} (hR : ∀ c, c ∈ R → c ∈ l) (hw : o.guard = some (j, b)) (hj : ops[j]? = some oj) (hjd : oj.dst = some dj) (hb : flook fr dj = some undef) (hd : o.dst = some d) (hbl : Nat.blt d N = true) (hk : PlanS P ro N E ops Q R tbl none [] pl ((d, undef) :: fr) ds l) : PlanS P ro N E ops Q R tbl none [] ((i, k, o) :: pl) fr ds l :=
  .gu hw hj hjd hb (by rw [hd]; exact hbl) hR (fun _ => rfl) (fun _ x hx => by cases hx) (by rw [hd]; exact hk)
theorem pl_hs0 (hR : ∀ c, c ∈ R → c ∈ l) (hw : gst ops fr o.guard = some false) (hd : o.dst = none) (hk : PlanS P ro N E ops Q R tbl none [] pl fr ds l) : PlanS P ro N E ops Q R tbl none [] ((i, k, o) :: pl) fr ds l := by
  rcases gst_some hw with ⟨_, h1⟩ | ⟨j, b, oj, dj, b', h1, h2, h3, h4, h5⟩
  · cases h1
  · exact pl_gs0 hR h1 h2 h3 h4 h5 hd hk
theorem pl_gif_t {j t : Nat} {w : Bool} {oj : Oper} {p : Prop} {ip : Decidable p} (hw : o.guard = some (j, w)) (hj : ops[j]? = some oj) (hjd : oj.dst = some t) (hc : flook fr t = some (.bool (@decide p ip))) (hp : p) (h : PlanS P ro N E ops Q R tbl sw sp ((i, k, o) :: pl) ((t, .bool true) :: fr) ds l) : PlanS P ro N E ops Q R tbl sw sp ((i, k, o) :: pl) fr ds l :=
  .weak (flook_over (by rw [hc, decide_eq_true hp])) h
theorem pl_gif_f {j t : Nat} {w : Bool} {oj : Oper} {p : Prop} {ip : Decidable p} (hw : o.guard = some (j, w)) (hj : ops[j]? = some oj) (hjd : oj.dst = some t) (hc : flook fr t = some (.bool (@decide p ip))) (hp : ¬ p) (h : PlanS P ro N E ops Q R tbl sw sp ((i, k, o) :: pl) ((t, .bool false) :: fr) ds l) : PlanS P ro N E ops Q R tbl sw sp ((i, k, o) :: pl) fr ds l :=
  .weak (flook_over (by rw [hc, decide_eq_false hp])) h
theorem pl_gif {j t : Nat} {w : Bool} {oj : Oper} {p : Prop} {ip : Decidable p} (hw : o.guard = some (j, w)) (hj : ops[j]? = some oj) (hjd : oj.dst = some t) (hc : flook fr t = some (.bool (@decide p ip))) (h1 : p → PlanS P ro N E ops Q R tbl sw sp ((i, k, o) :: pl) ((t, .bool true) :: fr) ds l) (h2 : ¬ p → PlanS P ro N E ops Q R tbl sw sp ((i, k, o) :: pl) ((t, .bool false) :: fr) ds l) : PlanS P ro N E ops Q R tbl sw sp ((i, k, o) :: pl) fr ds l := by
  by_cases hp : p
  · exact pl_gif_t hw hj hjd hc hp (h1 hp)
  · exact pl_gif_f hw hj hjd hc hp (h2 hp)
theorem pl_gb {j t : Nat} {w : Bool} {oj : Oper} {b : Bool} (hw : o.guard = some (j, w)) (hj : ops[j]? = some oj) (hjd : oj.dst = some t) (hc : flook fr t = some (.bool b)) (h1 : b = true → PlanS P ro N E ops Q R tbl sw sp ((i, k, o) :: pl) ((t, .bool true) :: fr) ds l) (h2 : b = false → PlanS P ro N E ops Q R tbl sw sp ((i, k, o) :: pl) ((t, .bool false) :: fr) ds l) : PlanS P ro N E ops Q R tbl sw sp ((i, k, o) :: pl) fr ds l := by
  cases b with
  | true => exact .weak (flook_over hc) (h1 rfl)
  | false => exact .weak (flook_over hc) (h2 rfl)
end
end Go.Proofs.Ytmmohklaiffkmaa
