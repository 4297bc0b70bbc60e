/- Copies of slices; one element appended. Laws of my own, no program's. -/
import Derived.Test.YtmmohklaiffkmaaS11
set_option linter.unusedVariables false
set_option linter.unusedSimpArgs false
namespace Go.Proofs.Ytmmohklaiffkmaa
open Go.RowKit

theorem OpE.re {P : Program} {ro : Option Nat} {N : Nat} {fr : Fr} {l l2 : List Chunk} {o : Oper} {K K' : Value → List Chunk → Prop} (k : Keep l l2) (h : OpE P ro N fr l2 o K) (hk : ∀ v l', K v l' → ∃ l3, Keep l' l3 ∧ K' v l3) : OpE P ro N fr l o K' :=
  ⟨h.nodef, fun E a W hf hs => (h.val E a W hf (k.sat hs)).mono fun v W' ⟨l', h1, h2⟩ => by
    obtain ⟨l3, h3, h4⟩ := hk v l' h1
    exact ⟨l3, h4, h3.sat h2⟩⟩
theorem Fn.re {P : Program} {f : FuncId} {args : List Value} {l l2 : List Chunk} {K K' : Value → List Chunk → Prop} (k : Keep l l2) (h : Fn P f args l2 K) (hk : ∀ v l', K v l' → ∃ l3, Keep l' l3 ∧ K' v l3) : Fn P f args l K' :=
  ⟨fun E W hs => (h.run E W (k.sat hs)).mono fun e W' he => by
    obtain ⟨v, l', h1, h2, h3⟩ := he
    obtain ⟨l3, h4, h5⟩ := hk v l' h2
    exact ⟨v, l3, h1, h5, h4.sat h3⟩⟩
theorem Fn.mv {P : Program} {f : FuncId} {args : List Value} {x : Chunk} {A F : List Chunk} {Kv : Value → Prop} {I : List Chunk → Prop} (h : Fn P f args (A ++ (x :: F)) fun v l' => Kv v ∧ ∃ A', I A' ∧ l' = A' ++ (x :: F)) :
    Fn P f args (x :: (A ++ F)) fun v l' => Kv v ∧ ∃ A', I A' ∧ l' = x :: (A' ++ F) :=
  Fn.re (Keep.of_perm List.perm_middle.symm) h fun v l' ⟨h1, A', h2, h3⟩ => ⟨_, by rw [h3]; exact Keep.of_perm List.perm_middle, h1, A', h2, rfl⟩
theorem Fn.mv2 {P : Program} {f : FuncId} {args : List Value} {x : Chunk} {A B F : List Chunk} {Kv : Value → Prop} {I : List Chunk → Prop} (h : Fn P f args (B ++ (x :: (A ++ F))) fun v l' => Kv v ∧ ∃ B', I B' ∧ l' = B' ++ (x :: (A ++ F))) :
    Fn P f args (x :: (A ++ (B ++ F))) fun v l' => Kv v ∧ ∃ B', I B' ∧ l' = x :: (A ++ (B' ++ F)) :=
  Fn.re (Keep.of_perm (((List.perm_append_comm_assoc A B F).cons x).trans List.perm_middle.symm)) h fun v l' ⟨h1, B', h2, h3⟩ => ⟨_, by rw [h3]; exact Keep.of_perm (List.perm_middle.trans ((List.perm_append_comm_assoc B' A F).cons x)), h1, B', h2, rfl⟩
theorem keep_swap (x : Chunk) (c0 c2 F : List Chunk) : Keep (c2 ++ x :: (c0 ++ F)) (x :: (c2 ++ F)) :=
  ⟨c0, (List.perm_middle.trans ((List.perm_append_comm_assoc c2 c0 F).cons x)).trans List.perm_middle.symm⟩
theorem keep_mid (c M r Z : List Chunk) : Keep (c ++ (M ++ (r ++ Z))) (M ++ (c ++ Z)) :=
  ⟨r, (((List.perm_append_comm_assoc M r Z).append_left c).trans (List.perm_append_comm_assoc c r _)).trans ((List.perm_append_comm_assoc c M Z).append_left r)⟩
theorem upd_pre {l l' : List Chunk} {b : Nat} {o o' : Obj} (h : Upd l b o o' l') : ∀ (c : List Chunk), Upd (c ++ l) b o o' (c ++ l')
  | [] => h
  | x :: c => .there (upd_pre h c)
section
variable {P : Program} {ro : Option Nat} {N : Nat} {fr : Fr} {R l : List Chunk} {d : Option Nat} {ty : TypeId} {pos : String} {aft : Array Edge} {g : Option (Nat × Bool)} {x y z s : Operand} {v u w : Value} {b : Nat}
/-- append to nil: a copy of its own -/
theorem e_copy {T e k yb n : Nat} {xs zs : List Value} {cs : List Chunk} (hs : ev fr s = some (.slice none 0 0)) (hx : ev fr x = some v) [c : ST P T e k yb] [cz : ZV P e zs] (hzs : zs.length = k) (ho : OwnSl e k v n xs cs) (hsub : ∀ c, c ∈ cs → c ∈ l) (h1 : ∀ u ∈ xs, u.oneCell' = true) (hn : n ≤ 1000000) (hby : yb ≤ 1000) :
    OpE P ro N fr l ⟨d, .call { callee := .builtin .append, args := #[s, x], argTypes := #[T, T] }, ty, pos, aft, g⟩ (fun v' l' => ∃ c2, OwnSl e k v' n xs c2 ∧ l' = c2 ++ l) := by
  obtain ⟨hlen, h⟩ := ho
  rcases h with ⟨rfl, rfl, rfl⟩ | ⟨gb, cap, sp, rfl, rfl, hnc, hcm, hcl⟩
  · refine ((q_appendNil (R := l) hs hx (Nat.le_refl _)).run l fun _ h => h).mono ?_
    rintro _ _ ⟨rfl, rfl⟩
    exact ⟨[], ⟨hlen, .inl ⟨rfl, rfl, rfl⟩⟩, rfl⟩
  · have hb : (0 + n) * yb ≤ 140737488355328 := by
      have := Nat.mul_le_mul hn hby
      rw [Nat.zero_add]; omega
    refine (ce_append (xs := []) (cs := []) (F := l) (news := xs) (zs := zs) (cl := List.toArray (xs ++ sp)) hs hx hzs (OwnSl.nil e k) (hsub _ List.mem_cons_self) (fun j u hj => ?_) hlen h1 (by unfold maxLen; omega) hb).mono ?_
    · have hlt := (List.getElem?_eq_some_iff.1 hj).1
      rw [Nat.zero_add, List.getElem?_toArray, List.getElem?_append_left hlt]; exact hj
    · rintro v' l' ⟨c2, ho2, rfl⟩
      rw [List.nil_append, Nat.zero_add] at ho2
      exact ⟨c2, ho2, rfl⟩
/-- one element appended, its literal dropped; X stands ahead -/
theorem e_appX {T e k yb n bl : Nat} {xs ws zs : List Value} {X cs F : List Chunk} (hx : ev fr s = some v) (hy : ev fr x = some (.slice (some ⟨bl, 0, none⟩) 1 1)) [c : ST P T e k yb] [cz : ZV P e zs] (hzs : zs.length = k) (hown : OwnSl e k v n xs cs) (hw : ws.length = k) (h1 : ∀ u ∈ ws, u.oneCell' = true) (hn : n ≤ 1000000) (hby : yb ≤ 1000) :
    OpE P ro N fr ((bl, .cells (List.toArray ws) e (0, 0)) :: (X ++ (cs ++ F))) ⟨d, .call { callee := .builtin .append, args := #[s, x], argTypes := #[T, T] }, ty, pos, aft, g⟩ (fun v' l' => ∃ c2, OwnSl e k v' (n + 1) (xs ++ ws) c2 ∧ l' = X ++ (c2 ++ F)) := by
  have hpm : ((bl, Obj.cells (List.toArray ws) e (0, 0)) :: (X ++ (cs ++ F))).Perm (cs ++ (((bl, Obj.cells (List.toArray ws) e (0, 0)) :: X) ++ F)) :=
    List.perm_append_comm_assoc ((bl, Obj.cells (List.toArray ws) e (0, 0)) :: X) cs F
  have hb : (n + 1) * yb ≤ 140737488355328 := by
    have := Nat.mul_le_mul (show n + 1 ≤ 1000001 by omega) hby
    omega
  refine OpE.re (Keep.of_perm hpm) (ce_append (m := 1) (xs := xs) (news := ws) (zs := zs) hx hy hzs hown (List.mem_append_right _ List.mem_cons_self) (fun j u hj => by simpa using hj) (by rw [hw, Nat.one_mul]) h1 (by unfold maxLen; omega) hb) ?_
  rintro v' _ ⟨c2, ho, rfl⟩
  exact ⟨_, Keep.trans (Keep.of_perm (List.perm_append_comm_assoc c2 ((bl, Obj.cells (List.toArray ws) e (0, 0)) :: X) F)) (.drop .refl), c2, ho, rfl⟩
/-- one element appended where the literal stands behind the old blocks -/
theorem e_appY {T e k yb n bl : Nat} {xs ws zs : List Value} {cs F : List Chunk} (hx : ev fr s = some v) (hy : ev fr x = some (.slice (some ⟨bl, 0, none⟩) 1 1)) [c : ST P T e k yb] [cz : ZV P e zs] (hzs : zs.length = k) (hown : OwnSl e k v n xs cs) (hw : ws.length = k) (h1 : ∀ u ∈ ws, u.oneCell' = true) (hn : n ≤ 1000000) (hby : yb ≤ 1000) :
    OpE P ro N fr (cs ++ ((bl, .cells (List.toArray ws) e (0, 0)) :: F)) ⟨d, .call { callee := .builtin .append, args := #[s, x], argTypes := #[T, T] }, ty, pos, aft, g⟩ (fun v' l' => ∃ c2, OwnSl e k v' (n + 1) (xs ++ ws) c2 ∧ l' = c2 ++ F) := by
  refine OpE.re (Keep.of_perm List.perm_middle) (e_appX (X := []) (F := F) hx hy hzs hown hw h1 hn hby) ?_
  rintro v' _ ⟨c2, ho, rfl⟩
  exact ⟨_, .refl, c2, ho, rfl⟩
theorem yielded_un {ops : Array Oper} {a : Act} {j d : Nat} {oj : Oper} (hf : FSat N fr a) (hj : ops[j]? = some oj) (hd : oj.dst = some d) (hb : flook fr d = some undef) : yielded ops a.tmps j = none := by
  have := hf.at_ d _ hb
  simp [yielded, hj, hd, this, undef]
/-- an operation whose guard's own operation was passed over is passed over -/
theorem t_hu {ops : Array Oper} {Q : Exit → Act → World → Prop} {rest : List Oper} {ds : List Deferred} {E : World} {o oj : Oper} {d j dj : Nat} {bw : Bool} (hw : o.guard = some (j, bw)) (hj : ops[j]? = some oj) (hjd : oj.dst = some dj) (hb : flook fr dj = some undef) (hd : o.dst = some d) (hbl : Nat.blt d N = true) (hk : OpsS P ro N E ops Q rest ((d, undef) :: fr) ds l) : OpsS P ro N E ops Q (o :: rest) fr ds l :=
  ⟨fun a W hf hds hs => by
    have hy := yielded_un hf hj hjd hb
    refine wpListIn_step fun K' hK' => ?_
    rw [if_neg (by simp [Region.wanted, hw, hy])]
    refine ⟨fun _ _ => trivial, hK' _ _ (hk.run _ _ ?_ ((put_defers _ _ _).trans hds) hs)⟩
    have := hf.put (d := o.dst) undef (by rw [hd]; exact hbl)
    rw [hd] at this ⊢
    exact this⟩
end
end Go.Proofs.Ytmmohklaiffkmaa
