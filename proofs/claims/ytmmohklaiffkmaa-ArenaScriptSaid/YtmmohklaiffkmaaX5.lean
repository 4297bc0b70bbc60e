/- Small laws that many chapters want: effects under guards, blocks in another order. Laws of my own, no program's. -/
import Derived.Test.YtmmohklaiffkmaaU0
import Derived.Test.YtmmohklaiffkmaaX3
import Derived.Test.YtmmohklaiffkmaaS15
set_option linter.unusedVariables false
set_option linter.unusedSimpArgs false
namespace Go.Proofs.Ytmmohklaiffkmaa
open Go.RowKit

section
variable {P : Program} {ro : Option Nat} {N : Nat} {E : World} {ops : Array Oper} {Q : Exit → Act → World → Prop} {R l : List Chunk} {tbl : List (List Nat)} {sp : Spec} {pl : List PlanOp} {fr : Fr} {ds : List Deferred} {i : Nat} {o : Oper} {K : Value → List Chunk → Prop}
theorem pl_geS {d : Nat} (h : OpE P ro N fr l o K) (hw : gst ops fr o.guard = some true) (hd : o.dst = some d) (hb : Nat.blt d N = true) (hR : ∀ v l', K v l' → (∀ c, c ∈ R → c ∈ l')) (hS : ∀ v l', K v l' → ∀ x, x ∈ sp → ancOf tbl i x.1 = false → ∀ c, c ∈ x.2 → c ∈ l') (hk : ∀ v l', K v l' → PlanS P ro N E ops Q R tbl none sp pl ((d, v) :: fr) ds l') : PlanS P ro N E ops Q R tbl none sp ((i, false, o) :: pl) fr ds l := by
  rcases gst_some hw with ⟨h1, _⟩ | ⟨j, b, oj, dj, b', h1, h2, h3, h4, h5⟩
  · exact pl_eS h h1 hd hb hR hS hk
  · have : b' = b := by simpa using h5
    subst this
    exact .ge h h1 h2 h3 h4 (by rw [hd]; exact hb) hR hS fun v l' hkv => by rw [hd]; exact hk v l' hkv
end
theorem sing_mem {c : Chunk} {l : List Chunk} (h : c ∈ l) : ∀ x, x ∈ [c] → x ∈ l := fun x hx => by rw [List.mem_singleton.1 hx]; exact h
theorem Keep.in_mid (A B C : List Chunk) : Keep (A ++ (B ++ C)) (B ++ (A ++ C)) := Keep.of_perm (List.perm_append_comm_assoc A B C)
theorem keep_new (x : Chunk) (c2 cs G : List Chunk) : Keep (c2 ++ (x :: (cs ++ G))) ((x :: c2) ++ G) :=
  ⟨cs, by
    have h1 : (c2 ++ (x :: (cs ++ G))).Perm (x :: (c2 ++ (cs ++ G))) := List.perm_middle
    have h2 : (c2 ++ (cs ++ G)).Perm (cs ++ (c2 ++ G)) := List.perm_append_comm_assoc c2 cs G
    exact (h1.trans ((h2.cons x).trans List.perm_middle.symm))⟩
theorem keep_mid2 (A B l : List Chunk) (x : Chunk) : Keep (A ++ (B ++ (x :: l))) (A ++ (B ++ l)) :=
  ⟨[x], (((List.perm_middle (l₁ := B)).append_left A).trans List.perm_middle).trans (.refl _)⟩
theorem keep_in2 (x : Chunk) (A B l : List Chunk) : Keep (x :: (A ++ (B ++ l))) (A ++ (B ++ (x :: l))) :=
  .of_perm (((List.perm_middle (l₁ := B)).append_left A).trans List.perm_middle).symm
theorem num_any (x : Int) (l : List Chunk) : Fn Try.prog 17 [.int .i64 x] l fun v l' => v = .int .i64 x ∧ l' = l := by
  refine fn_of_body Try.func17 rfl rfl fun E => ?_
  simp only [argF, Try.ntmps17]
  repeat (first | (show OpsS _ _ _ _ _ _ (_ :: _) _ _ _; first | refine ozq ?_) | refine c_seq ?_ | refine p_then ?_ | refine c_region ?_ | refine s_nil ?_ | refine c_ret ?_ | refine p_then_ret ?_ | refine p_end ?_)
  exact k_ret [] rfl .refl (by (repeat (first | apply ResS.nil | (apply rs_tmp; (· rfl)) | (apply rs_cell1; (· rfl); (· ((repeat (first | with_reducible apply List.mem_cons_self | with_reducible apply List.mem_cons_of_mem)); try with_reducible assumption)); (· rfl)) | (apply rs_cellA; (· rfl); (· ((repeat (first | with_reducible apply List.mem_cons_self | with_reducible apply List.mem_cons_of_mem)); try with_reducible assumption)); (· (repeat (first | with_reducible apply LSub.done | with_reducible apply LSub.take | with_reducible apply LSub.drop))))))) ⟨rfl, rfl⟩
theorem Fn.mvL {P : Program} {f : FuncId} {args : List Value} {A F : List Chunk} {Kv : Value → Prop} {I : List Chunk → Prop} (X : List Chunk) (h : Fn P f args (A ++ (X ++ F)) fun v l' => Kv v ∧ ∃ A', I A' ∧ l' = A' ++ (X ++ F)) :
    Fn P f args (X ++ (A ++ F)) fun v l' => Kv v ∧ ∃ A', I A' ∧ l' = X ++ (A' ++ F) :=
  Fn.re (Keep.in_mid X A F) h fun v l' ⟨h1, A', h2, h3⟩ => ⟨_, by rw [h3]; exact Keep.in_mid A' X F, h1, A', h2, rfl⟩
theorem nodup_of_map {α β : Type} {f : α → β} : ∀ {l : List α}, (l.map f).Nodup → l.Nodup
  | [], _ => List.nodup_nil
  | x :: l, h => by
    rw [List.map_cons, List.nodup_cons] at h
    exact List.nodup_cons.2 ⟨fun hx => h.1 (List.mem_map.2 ⟨x, hx, rfl⟩), nodup_of_map h.2⟩
theorem nd_stamp {α β : Type} {f : α → β} : ∀ {l : List α} {x y : α}, (l.map f).Nodup → x ∈ l → y ∈ l → f x = f y → x = y
  | [], _, _, _, h, _, _ => by cases h
  | z :: l, x, y, h, hx, hy, e => by
    rw [List.map_cons, List.nodup_cons] at h
    rcases List.mem_cons.1 hx with h1 | h1 <;> rcases List.mem_cons.1 hy with h2 | h2
    · rw [h1, h2]
    · exact absurd (List.mem_map.2 ⟨y, h2, by rw [← e, h1]⟩) h.1
    · exact absurd (List.mem_map.2 ⟨x, h1, by rw [e, h2]⟩) h.1
    · exact nd_stamp h.2 h1 h2 e
end Go.Proofs.Ytmmohklaiffkmaa
