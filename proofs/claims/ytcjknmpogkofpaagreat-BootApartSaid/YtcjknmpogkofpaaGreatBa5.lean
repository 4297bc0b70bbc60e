/- The steps' laws with their usual proofs as default arguments. Laws of my own, no program's. Copies of slices; one element appended. Laws of my own, no program's. The long tactics as default arguments of short laws: what is left of a goal is handed on. Laws of my own, no program's. == of structs and arrays of numbers and bools. Laws of my own, no program's. Slices of flat structs told by an encoding; a literal slice of several structs. Laws of my own, no program's. Pointers compared; maps whose keys are flat structs. Laws of my own, no program's. Maps whose keys are flat structs: the operations. Laws of my own, no program's. Small laws that many chapters want: effects under guards, blocks in another order. Laws of my own, no program's. Shifts and bits; slices made. Laws of my own, no program's. Laws that the statement's proof leans on. -/
import Derived.Test.YtcjknmpogkofpaaGreatBa2
import Derived.Test.YtcjknmpogkofpaaGreatBa4
import Derived.Test.YtcjknmpogkofpaaGreatBa3
import Derived.Test.YtcjknmpogkofpaaGreatBa1
import Derived.LaidEqlPtr
/- The steps' laws with their usual proofs as default arguments. Laws of my own, no program's. -/
set_option linter.unusedVariables false
set_option linter.unusedSimpArgs false
namespace Go.Proofs.YtcjknmpogkofpaaGreat
open Go.RowKit

section
variable {P : Program} {ro : Option Nat} {N : Nat} {E : World} {ops : Array Oper} {Q : Exit → Act → World → Prop} {rest : List Oper} {o : Oper} {fr fr' : Fr} {ds : List Deferred} {l l' : List Chunk} {K : Value → List Chunk → Prop} {v : Value} {d : Nat}
theorem ozq (hk : OpsS P ro N E ops Q rest ((d, v) :: fr) ds l) (h : OpQ P ro N fr l o v := by first | (show OpQ _ _ _ _ _ ⟨_, .move _, _, _, _, _⟩ _; exact q_move rfl) | (show OpQ _ _ _ _ _ ⟨_, .load _ _, _, _, _, _⟩ _; first | exact q_load rfl (by ((repeat (first | with_reducible apply List.mem_cons_self | with_reducible apply List.mem_cons_of_mem)); try with_reducible assumption)) (by (first | with_reducible assumption | ((with_reducible apply cell_get); (repeat (first | with_reducible apply LGet.zero | with_reducible apply LGet.succ))))) | exact q_loadL rfl (by ((repeat (first | with_reducible apply List.mem_cons_self | with_reducible apply List.mem_cons_of_mem)); try with_reducible assumption)) (by (repeat (first | with_reducible apply LSub.done | with_reducible apply LSub.take | with_reducible apply LSub.drop)))) | (show OpQ _ _ _ _ _ ⟨_, .fieldAddr _ _ _, _, _, _, _⟩ _; exact q_fieldAddr rfl (by (first | with_reducible exact Nat.zero_add _ | with_reducible exact Nat.add_zero _ | exact rfl))) | (show OpQ _ _ _ _ _ ⟨_, .nilCheck _, _, _, _, _⟩ _; first | exact q_nilCheck rfl | exact q_nilCheck_f rfl | exact q_nilCheck_y rfl) | (show OpQ _ _ _ _ _ ⟨_, .assign _, _, _, _, _⟩ _; exact q_assign rfl) | (show OpQ _ _ _ _ _ ⟨_, .indexAddr _ _ _, _, _, _, _⟩ _; first | exact q_indexArrN rfl rfl (by omega) (by (first | with_reducible exact Nat.zero_add _ | with_reducible exact Nat.add_zero _ | exact rfl)) | exact q_indexSlN rfl rfl (by omega) (by (first | with_reducible exact Nat.zero_add _ | with_reducible exact Nat.add_zero _ | exact rfl)) | exact q_indexArr rfl rfl (by omega) | exact q_indexSl rfl rfl (by omega)) | (show OpQ _ _ _ _ _ ⟨_, .binOp .eql _ _ _ _, _, _, _, _⟩ _; first | exact q_eql rfl rfl | exact q_eqnil rfl rfl | exact q_eqb rfl rfl Tryz.underlying4 | exact q_eqnilsl rfl rfl) | (show OpQ _ _ _ _ _ ⟨_, .binOp .add _ _ _ _, _, _, _, _⟩ _; exact q_add rfl rfl (rng_i64 (by omega) (by omega))) | (show OpQ _ _ _ _ _ ⟨_, .binOp .lss _ _ _ _, _, _, _, _⟩ _; exact q_lss rfl rfl) | (show OpQ _ _ _ _ _ ⟨_, .pick _ _ _, _, _, _, _⟩ _; first | exact q_pick_t rfl rfl | exact q_pick_f rfl rfl) | (show OpQ _ _ _ _ _ ⟨_, .extract _ _, _, _, _, _⟩ _; exact q_extract rfl rfl) | (show OpQ _ _ _ _ _ ⟨_, .binOp .neq _ _ _ _, _, _, _, _⟩ _; first | exact q_neq rfl rfl | exact q_nenil rfl rfl | exact q_neb rfl rfl Tryz.underlying4 | exact q_nenilsl rfl rfl) | (show OpQ _ _ _ _ _ ⟨_, .binOp .geq _ _ _ _, _, _, _, _⟩ _; exact q_geq rfl rfl) | (show OpQ _ _ _ _ _ ⟨_, .binOp .gtr _ _ _ _, _, _, _, _⟩ _; exact q_gtr rfl rfl) | (show OpQ _ _ _ _ _ ⟨_, .binOp .leq _ _ _ _, _, _, _, _⟩ _; exact q_leq rfl rfl) | (show OpQ _ _ _ _ _ ⟨_, .unOp .not _ _, _, _, _, _⟩ _; exact q_not rfl) | (show OpQ _ _ _ _ _ ⟨_, .binOp .sub _ _ _ _, _, _, _, _⟩ _; exact q_sub rfl rfl (rng_i64 (by omega) (by omega))) | (show OpQ _ _ _ _ _ ⟨_, .call { callee := .builtin .len, args := _, argTypes := _ }, _, _, _, _⟩ _; first | exact q_len_sl rfl | exact q_len_map rfl (by ((repeat (first | with_reducible apply List.mem_cons_self | with_reducible apply List.mem_cons_of_mem)); try with_reducible assumption))) | (show OpQ _ _ _ _ _ ⟨_, .field _ _ _, _, _, _, _⟩ _; first | exact q_field rfl (by (first | with_reducible assumption | ((with_reducible apply cell_get); (repeat (first | with_reducible apply LGet.zero | with_reducible apply LGet.succ))))) | exact q_fieldL rfl (by (repeat (first | with_reducible apply LSub.done | with_reducible apply LSub.take | with_reducible apply LSub.drop)))) | (show OpQ _ _ _ _ _ ⟨_, .build _ _, _, _, _, _⟩ _; exact q_build rfl (by (repeat (first | apply BuildS.nil | (apply BuildS.one; (· infer_instance); (· infer_instance); (· rfl); (· (repeat (first | with_reducible apply LSet.zero | with_reducible apply LSet.succ)))) | (apply BuildS.agg; (· infer_instance); (· infer_instance); (· rfl); (· (repeat (first | with_reducible apply LSetA.done | with_reducible apply LSetA.put | with_reducible apply LSetA.skip)))))))) | (show OpQ _ _ _ _ _ ⟨_, .makeFunc _ _ _, _, _, _, _⟩ _; first | exact q_makeFunc rfl | exact q_makeFunc0) | (show OpQ _ _ _ _ _ ⟨_, .convert _ _ _, _, _, _, _⟩ _; exact q_conv rfl (by exact ⟨by omega, by omega⟩)) | (show OpQ _ _ _ _ _ ⟨_, .binOp .mul _ _ _ _, _, _, _, _⟩ _; exact q_mul rfl rfl (rng_i64 (by omega) (by omega))) | (show OpQ _ _ _ _ _ ⟨_, .binOp .quo _ _ _ _, _, _, _, _⟩ _; exact q_quo rfl rfl (by omega) (by omega) (rng_i64 (by omega) (by omega))) | (show OpQ _ _ _ _ _ ⟨_, .binOp .rem _ _ _ _, _, _, _, _⟩ _; exact q_rem rfl rfl (by omega) (by omega)) | (show OpQ _ _ _ _ _ ⟨_, .lookup _ _ _ _, _, _, _, _⟩ _; first | exact q_lookup rfl rfl (by ((repeat (first | with_reducible apply List.mem_cons_self | with_reducible apply List.mem_cons_of_mem)); try with_reducible assumption)) | exact q_lookup2 rfl rfl (by ((repeat (first | with_reducible apply List.mem_cons_self | with_reducible apply List.mem_cons_of_mem)); try with_reducible assumption))) | fail) (hw : gst ops fr o.guard = some true := by rfl) (hd : o.dst = some d := by rfl) (hb : Nat.blt d N = true := by rfl) : OpsS P ro N E ops Q (o :: rest) fr ds l := t_h h hw hd hb hk
theorem ozs (hk : OpsS P ro N E ops Q rest ((d, undef) :: fr) ds l) (hw : gst ops fr o.guard = some false := by rfl) (hd : o.dst = some d := by rfl) (hb : Nat.blt d N = true := by rfl) : OpsS P ro N E ops Q (o :: rest) fr ds l := t_hs hw hd hb hk
theorem ozs0 (hk : OpsS P ro N E ops Q rest fr ds l) (hw : gst ops fr o.guard = some false := by rfl) (hd : o.dst = none := by rfl) : OpsS P ro N E ops Q (o :: rest) fr ds l := t_hs0 hw hd hk
theorem ozt {j t : Nat} {w : Bool} {oj : Oper} {p : Prop} {ip : Decidable p} (h : OpsS P ro N E ops Q (o :: rest) ((t, .bool true) :: fr) ds l) (hw : o.guard = some (j, w) := by rfl) (hj : ops[j]? = some oj := by rfl) (hjd : oj.dst = some t := by rfl) (hc : flook fr t = some (.bool (@decide p ip)) := by rfl) (hp : p := by omega) : OpsS P ro N E ops Q (o :: rest) fr ds l := s_gif_t hw hj hjd hc hp h
theorem ozf {j t : Nat} {w : Bool} {oj : Oper} {p : Prop} {ip : Decidable p} (h : OpsS P ro N E ops Q (o :: rest) ((t, .bool false) :: fr) ds l) (hw : o.guard = some (j, w) := by rfl) (hj : ops[j]? = some oj := by rfl) (hjd : oj.dst = some t := by rfl) (hc : flook fr t = some (.bool (@decide p ip)) := by rfl) (hp : ¬ p := by omega) : OpsS P ro N E ops Q (o :: rest) fr ds l := s_gif_f hw hj hjd hc hp h
theorem ozn {l2 : List Chunk} (hk : OpsS P ro N E ops Q rest fr ds l2) (h : OpE P ro N fr l o (fun v' l' => v' = undef ∧ l' = l2) := by first | (apply e_storeL; (· rfl); (· rfl); (· first | rfl | assumption); (· ((repeat (first | with_reducible apply List.mem_cons_self | with_reducible apply List.mem_cons_of_mem)); try with_reducible assumption)); (· (repeat (first | with_reducible apply LSet.zero | with_reducible apply LSet.succ))); (· (repeat (first | apply Upd.here | apply Upd.there)))) | (apply e_storeLA; (· rfl); (· rfl); (· rfl); (· simp [Value.oneCell']); (· ((repeat (first | with_reducible apply List.mem_cons_self | with_reducible apply List.mem_cons_of_mem)); try with_reducible assumption)); (· (repeat (first | with_reducible apply LSetA.done | with_reducible apply LSetA.put | with_reducible apply LSetA.skip))); (· (repeat (first | apply Upd.here | apply Upd.there)))) | fail) (hw : o.guard = none := by rfl) (hd : o.dst = none := by rfl) : OpsS P ro N E ops Q (o :: rest) fr ds l := t_n h hw hd fun v l' h => by rw [h.2]; exact hk
variable {R : List Chunk} {tbl : List (List Nat)} {sw : Sw} {sp : Spec} {pl : List PlanOp} {i : Nat} {k : Bool}
theorem pzq (hk : PlanS P ro N E ops Q R tbl sw sp pl ((d, v) :: fr) ds l) (h : OpQ P ro N fr R o v := by first | (show OpQ _ _ _ _ _ ⟨_, .move _, _, _, _, _⟩ _; exact q_move rfl) | (show OpQ _ _ _ _ _ ⟨_, .load _ _, _, _, _, _⟩ _; first | exact q_load rfl (by ((repeat (first | with_reducible apply List.mem_cons_self | with_reducible apply List.mem_cons_of_mem)); try with_reducible assumption)) (by (first | with_reducible assumption | ((with_reducible apply cell_get); (repeat (first | with_reducible apply LGet.zero | with_reducible apply LGet.succ))))) | exact q_loadL rfl (by ((repeat (first | with_reducible apply List.mem_cons_self | with_reducible apply List.mem_cons_of_mem)); try with_reducible assumption)) (by (repeat (first | with_reducible apply LSub.done | with_reducible apply LSub.take | with_reducible apply LSub.drop)))) | (show OpQ _ _ _ _ _ ⟨_, .fieldAddr _ _ _, _, _, _, _⟩ _; exact q_fieldAddr rfl (by (first | with_reducible exact Nat.zero_add _ | with_reducible exact Nat.add_zero _ | exact rfl))) | (show OpQ _ _ _ _ _ ⟨_, .nilCheck _, _, _, _, _⟩ _; first | exact q_nilCheck rfl | exact q_nilCheck_f rfl | exact q_nilCheck_y rfl) | (show OpQ _ _ _ _ _ ⟨_, .assign _, _, _, _, _⟩ _; exact q_assign rfl) | (show OpQ _ _ _ _ _ ⟨_, .indexAddr _ _ _, _, _, _, _⟩ _; first | exact q_indexArrN rfl rfl (by omega) (by (first | with_reducible exact Nat.zero_add _ | with_reducible exact Nat.add_zero _ | exact rfl)) | exact q_indexSlN rfl rfl (by omega) (by (first | with_reducible exact Nat.zero_add _ | with_reducible exact Nat.add_zero _ | exact rfl)) | exact q_indexArr rfl rfl (by omega) | exact q_indexSl rfl rfl (by omega)) | (show OpQ _ _ _ _ _ ⟨_, .binOp .eql _ _ _ _, _, _, _, _⟩ _; first | exact q_eql rfl rfl | exact q_eqnil rfl rfl | exact q_eqb rfl rfl Tryz.underlying4 | exact q_eqnilsl rfl rfl) | (show OpQ _ _ _ _ _ ⟨_, .binOp .add _ _ _ _, _, _, _, _⟩ _; exact q_add rfl rfl (rng_i64 (by omega) (by omega))) | (show OpQ _ _ _ _ _ ⟨_, .binOp .lss _ _ _ _, _, _, _, _⟩ _; exact q_lss rfl rfl) | (show OpQ _ _ _ _ _ ⟨_, .pick _ _ _, _, _, _, _⟩ _; first | exact q_pick_t rfl rfl | exact q_pick_f rfl rfl) | (show OpQ _ _ _ _ _ ⟨_, .extract _ _, _, _, _, _⟩ _; exact q_extract rfl rfl) | (show OpQ _ _ _ _ _ ⟨_, .binOp .neq _ _ _ _, _, _, _, _⟩ _; first | exact q_neq rfl rfl | exact q_nenil rfl rfl | exact q_neb rfl rfl Tryz.underlying4 | exact q_nenilsl rfl rfl) | (show OpQ _ _ _ _ _ ⟨_, .binOp .geq _ _ _ _, _, _, _, _⟩ _; exact q_geq rfl rfl) | (show OpQ _ _ _ _ _ ⟨_, .binOp .gtr _ _ _ _, _, _, _, _⟩ _; exact q_gtr rfl rfl) | (show OpQ _ _ _ _ _ ⟨_, .binOp .leq _ _ _ _, _, _, _, _⟩ _; exact q_leq rfl rfl) | (show OpQ _ _ _ _ _ ⟨_, .unOp .not _ _, _, _, _, _⟩ _; exact q_not rfl) | (show OpQ _ _ _ _ _ ⟨_, .binOp .sub _ _ _ _, _, _, _, _⟩ _; exact q_sub rfl rfl (rng_i64 (by omega) (by omega))) | (show OpQ _ _ _ _ _ ⟨_, .call { callee := .builtin .len, args := _, argTypes := _ }, _, _, _, _⟩ _; first | exact q_len_sl rfl | exact q_len_map rfl (by ((repeat (first | with_reducible apply List.mem_cons_self | with_reducible apply List.mem_cons_of_mem)); try with_reducible assumption))) | (show OpQ _ _ _ _ _ ⟨_, .field _ _ _, _, _, _, _⟩ _; first | exact q_field rfl (by (first | with_reducible assumption | ((with_reducible apply cell_get); (repeat (first | with_reducible apply LGet.zero | with_reducible apply LGet.succ))))) | exact q_fieldL rfl (by (repeat (first | with_reducible apply LSub.done | with_reducible apply LSub.take | with_reducible apply LSub.drop)))) | (show OpQ _ _ _ _ _ ⟨_, .build _ _, _, _, _, _⟩ _; exact q_build rfl (by (repeat (first | apply BuildS.nil | (apply BuildS.one; (· infer_instance); (· infer_instance); (· rfl); (· (repeat (first | with_reducible apply LSet.zero | with_reducible apply LSet.succ)))) | (apply BuildS.agg; (· infer_instance); (· infer_instance); (· rfl); (· (repeat (first | with_reducible apply LSetA.done | with_reducible apply LSetA.put | with_reducible apply LSetA.skip)))))))) | (show OpQ _ _ _ _ _ ⟨_, .makeFunc _ _ _, _, _, _, _⟩ _; first | exact q_makeFunc rfl | exact q_makeFunc0) | (show OpQ _ _ _ _ _ ⟨_, .convert _ _ _, _, _, _, _⟩ _; exact q_conv rfl (by exact ⟨by omega, by omega⟩)) | (show OpQ _ _ _ _ _ ⟨_, .binOp .mul _ _ _ _, _, _, _, _⟩ _; exact q_mul rfl rfl (rng_i64 (by omega) (by omega))) | (show OpQ _ _ _ _ _ ⟨_, .binOp .quo _ _ _ _, _, _, _, _⟩ _; exact q_quo rfl rfl (by omega) (by omega) (rng_i64 (by omega) (by omega))) | (show OpQ _ _ _ _ _ ⟨_, .binOp .rem _ _ _ _, _, _, _, _⟩ _; exact q_rem rfl rfl (by omega) (by omega)) | (show OpQ _ _ _ _ _ ⟨_, .lookup _ _ _ _, _, _, _, _⟩ _; first | exact q_lookup rfl rfl (by ((repeat (first | with_reducible apply List.mem_cons_self | with_reducible apply List.mem_cons_of_mem)); try with_reducible assumption)) | exact q_lookup2 rfl rfl (by ((repeat (first | with_reducible apply List.mem_cons_self | with_reducible apply List.mem_cons_of_mem)); try with_reducible assumption))) | fail) (hw : gst ops fr o.guard = some true := by rfl) (hd : o.dst = some d := by rfl) (hb : Nat.blt d N = true := by rfl) : PlanS P ro N E ops Q R tbl sw sp ((i, true, o) :: pl) fr ds l := pl_h h hw hd hb hk
theorem pzs (hk : PlanS P ro N E ops Q R tbl none [] pl ((d, undef) :: fr) ds l) (hR : ∀ c, c ∈ R → c ∈ l := by exact (List.Sublist.subset (by (repeat (first | with_reducible apply List.Sublist.refl | with_reducible apply List.nil_sublist | with_reducible apply List.Sublist.cons_cons | with_reducible apply List.Sublist.cons))))) (hw : gst ops fr o.guard = some false := by rfl) (hd : o.dst = some d := by rfl) (hb : Nat.blt d N = true := by rfl) : PlanS P ro N E ops Q R tbl none [] ((i, k, o) :: pl) fr ds l := pl_hs hR hw hd hb hk
theorem pzs0 (hk : PlanS P ro N E ops Q R tbl none [] pl fr ds l) (hR : ∀ c, c ∈ R → c ∈ l := by exact (List.Sublist.subset (by (repeat (first | with_reducible apply List.Sublist.refl | with_reducible apply List.nil_sublist | with_reducible apply List.Sublist.cons_cons | with_reducible apply List.Sublist.cons))))) (hw : gst ops fr o.guard = some false := by rfl) (hd : o.dst = none := by rfl) : PlanS P ro N E ops Q R tbl none [] ((i, k, o) :: pl) fr ds l := pl_hs0 hR hw hd hk
theorem pzt {j t : Nat} {w : Bool} {oj : Oper} {p : Prop} {ip : Decidable p} (h : PlanS P ro N E ops Q R tbl sw sp ((i, k, o) :: pl) ((t, .bool true) :: fr) ds l) (hw : o.guard = some (j, w) := by rfl) (hj : ops[j]? = some oj := by rfl) (hjd : oj.dst = some t := by rfl) (hc : flook fr t = some (.bool (@decide p ip)) := by rfl) (hp : p := by omega) : PlanS P ro N E ops Q R tbl sw sp ((i, k, o) :: pl) fr ds l := pl_gif_t hw hj hjd hc hp h
theorem pzf {j t : Nat} {w : Bool} {oj : Oper} {p : Prop} {ip : Decidable p} (h : PlanS P ro N E ops Q R tbl sw sp ((i, k, o) :: pl) ((t, .bool false) :: fr) ds l) (hw : o.guard = some (j, w) := by rfl) (hj : ops[j]? = some oj := by rfl) (hjd : oj.dst = some t := by rfl) (hc : flook fr t = some (.bool (@decide p ip)) := by rfl) (hp : ¬ p := by omega) : PlanS P ro N E ops Q R tbl sw sp ((i, k, o) :: pl) fr ds l := pl_gif_f hw hj hjd hc hp h
theorem pzn {l2 : List Chunk} (hk : PlanS P ro N E ops Q R tbl none [] pl fr ds l2) (h : OpE P ro N fr l o (fun v' l' => v' = undef ∧ l' = l2) := by first | (apply e_storeL; (· rfl); (· rfl); (· first | rfl | assumption); (· ((repeat (first | with_reducible apply List.mem_cons_self | with_reducible apply List.mem_cons_of_mem)); try with_reducible assumption)); (· (repeat (first | with_reducible apply LSet.zero | with_reducible apply LSet.succ))); (· (repeat (first | apply Upd.here | apply Upd.there)))) | (apply e_storeLA; (· rfl); (· rfl); (· rfl); (· simp [Value.oneCell']); (· ((repeat (first | with_reducible apply List.mem_cons_self | with_reducible apply List.mem_cons_of_mem)); try with_reducible assumption)); (· (repeat (first | with_reducible apply LSetA.done | with_reducible apply LSetA.put | with_reducible apply LSetA.skip))); (· (repeat (first | apply Upd.here | apply Upd.there)))) | fail) (hw : o.guard = none := by rfl) (hd : o.dst = none := by rfl) (hR : ∀ c, c ∈ R → c ∈ l2 := by exact (List.Sublist.subset (by (repeat (first | with_reducible apply List.Sublist.refl | with_reducible apply List.nil_sublist | with_reducible apply List.Sublist.cons_cons | with_reducible apply List.Sublist.cons))))) : PlanS P ro N E ops Q R tbl none [] ((i, false, o) :: pl) fr ds l := pl_n h hw hd (fun v l' h => by rw [h.2]; exact hR) fun v l' h => by rw [h.2]; exact hk
theorem pze (hk : PlanS P ro N E ops Q R tbl none [] pl ((d, v) :: fr) ds l) (h : OpQ P ro N fr l o v := by first | (show OpQ _ _ _ _ _ ⟨_, .load _ _, _, _, _, _⟩ _; first | exact q_load rfl (by ((repeat (first | with_reducible apply List.mem_cons_self | with_reducible apply List.mem_cons_of_mem)); try with_reducible assumption)) (by (first | with_reducible assumption | ((with_reducible apply cell_get); (repeat (first | with_reducible apply LGet.zero | with_reducible apply LGet.succ))))) | exact q_loadL rfl (by ((repeat (first | with_reducible apply List.mem_cons_self | with_reducible apply List.mem_cons_of_mem)); try with_reducible assumption)) (by (repeat (first | with_reducible apply LSub.done | with_reducible apply LSub.take | with_reducible apply LSub.drop)))) | fail) (hw : o.guard = none := by rfl) (hd : o.dst = some d := by rfl) (hb : Nat.blt d N = true := by rfl) (hR : ∀ c, c ∈ R → c ∈ l := by exact (List.Sublist.subset (by (repeat (first | with_reducible apply List.Sublist.refl | with_reducible apply List.nil_sublist | with_reducible apply List.Sublist.cons_cons | with_reducible apply List.Sublist.cons))))) : PlanS P ro N E ops Q R tbl none [] ((i, false, o) :: pl) fr ds l := pl_qe h hw hd hb hR hk
end
end Go.Proofs.YtcjknmpogkofpaaGreat

/- Copies of slices; one element appended. Laws of my own, no program's. -/
set_option linter.unusedVariables false
set_option linter.unusedSimpArgs false
namespace Go.Proofs.YtcjknmpogkofpaaGreat
open Go.RowKit

theorem OpE.re {P : Program} {ro : Option Nat} {N : Nat} {fr : Fr} {l l2 : List Chunk} {o : Oper} {K K' : Value → List Chunk → Prop} (k : Keep l l2) (h : OpE P ro N fr l2 o K) (hk : ∀ v l', K v l' → ∃ l3, Keep l' l3 ∧ K' v l3) : OpE P ro N fr l o K' :=
  ⟨h.nodef, fun E a W hf hs => (h.val E a W hf (k.sat hs)).mono fun v W' ⟨l', h1, h2⟩ => by
    obtain ⟨l3, h3, h4⟩ := hk v l' h1
    exact ⟨l3, h4, h3.sat h2⟩⟩
theorem Fn.re {P : Program} {f : FuncId} {args : List Value} {l l2 : List Chunk} {K K' : Value → List Chunk → Prop} (k : Keep l l2) (h : Fn P f args l2 K) (hk : ∀ v l', K v l' → ∃ l3, Keep l' l3 ∧ K' v l3) : Fn P f args l K' :=
  ⟨fun E W hs => (h.run E W (k.sat hs)).mono fun e W' he => by
    obtain ⟨v, l', h1, h2, h3⟩ := he
    obtain ⟨l3, h4, h5⟩ := hk v l' h2
    exact ⟨v, l3, h1, h5, h4.sat h3⟩⟩
theorem Fn.mv {P : Program} {f : FuncId} {args : List Value} {x : Chunk} {A F : List Chunk} {Kv : Value → Prop} {I : List Chunk → Prop} (h : Fn P f args (A ++ (x :: F)) fun v l' => Kv v ∧ ∃ A', I A' ∧ l' = A' ++ (x :: F)) :
    Fn P f args (x :: (A ++ F)) fun v l' => Kv v ∧ ∃ A', I A' ∧ l' = x :: (A' ++ F) :=
  Fn.re (Keep.of_perm List.perm_middle.symm) h fun v l' ⟨h1, A', h2, h3⟩ => ⟨_, by rw [h3]; exact Keep.of_perm List.perm_middle, h1, A', h2, rfl⟩
theorem Fn.mv2 {P : Program} {f : FuncId} {args : List Value} {x : Chunk} {A B F : List Chunk} {Kv : Value → Prop} {I : List Chunk → Prop} (h : Fn P f args (B ++ (x :: (A ++ F))) fun v l' => Kv v ∧ ∃ B', I B' ∧ l' = B' ++ (x :: (A ++ F))) :
    Fn P f args (x :: (A ++ (B ++ F))) fun v l' => Kv v ∧ ∃ B', I B' ∧ l' = x :: (A ++ (B' ++ F)) :=
  Fn.re (Keep.of_perm (((List.perm_append_comm_assoc A B F).cons x).trans List.perm_middle.symm)) h fun v l' ⟨h1, B', h2, h3⟩ => ⟨_, by rw [h3]; exact Keep.of_perm (List.perm_middle.trans ((List.perm_append_comm_assoc B' A F).cons x)), h1, B', h2, rfl⟩
theorem keep_swap (x : Chunk) (c0 c2 F : List Chunk) : Keep (c2 ++ x :: (c0 ++ F)) (x :: (c2 ++ F)) :=
  ⟨c0, (List.perm_middle.trans ((List.perm_append_comm_assoc c2 c0 F).cons x)).trans List.perm_middle.symm⟩
theorem keep_mid (c M r Z : List Chunk) : Keep (c ++ (M ++ (r ++ Z))) (M ++ (c ++ Z)) :=
  ⟨r, (((List.perm_append_comm_assoc M r Z).append_left c).trans (List.perm_append_comm_assoc c r _)).trans ((List.perm_append_comm_assoc c M Z).append_left r)⟩
theorem upd_pre {l l' : List Chunk} {b : Nat} {o o' : Obj} (h : Upd l b o o' l') : ∀ (c : List Chunk), Upd (c ++ l) b o o' (c ++ l')
  | [] => h
  | x :: c => .there (upd_pre h c)
section
variable {P : Program} {ro : Option Nat} {N : Nat} {fr : Fr} {R l : List Chunk} {d : Option Nat} {ty : TypeId} {pos : String} {aft : Array Edge} {g : Option (Nat × Bool)} {x y z s : Operand} {v u w : Value} {b : Nat}
/-- append to nil: a copy of its own -/
theorem e_copy {T e k yb n : Nat} {xs zs : List Value} {cs : List Chunk} (hs : ev fr s = some (.slice none 0 0)) (hx : ev fr x = some v) [c : ST P T e k yb] [cz : ZV P e zs] (hzs : zs.length = k) (ho : OwnSl e k v n xs cs) (hsub : ∀ c, c ∈ cs → c ∈ l) (h1 : ∀ u ∈ xs, u.oneCell' = true) (hn : n ≤ 1000000) (hby : yb ≤ 1000) :
    OpE P ro N fr l ⟨d, .call { callee := .builtin .append, args := #[s, x], argTypes := #[T, T] }, ty, pos, aft, g⟩ (fun v' l' => ∃ c2, OwnSl e k v' n xs c2 ∧ l' = c2 ++ l) := by
  obtain ⟨hlen, h⟩ := ho
  rcases h with ⟨rfl, rfl, rfl⟩ | ⟨gb, cap, sp, rfl, rfl, hnc, hcm, hcl⟩
  · refine ((q_appendNil (R := l) hs hx (Nat.le_refl _)).run l fun _ h => h).mono ?_
    rintro _ _ ⟨rfl, rfl⟩
    exact ⟨[], ⟨hlen, .inl ⟨rfl, rfl, rfl⟩⟩, rfl⟩
  · have hb : (0 + n) * yb ≤ 140737488355328 := by
      have := Nat.mul_le_mul hn hby
      rw [Nat.zero_add]; omega
    refine (ce_append (xs := []) (cs := []) (F := l) (news := xs) (zs := zs) (cl := List.toArray (xs ++ sp)) hs hx hzs (OwnSl.nil e k) (hsub _ List.mem_cons_self) (fun j u hj => ?_) hlen h1 (by unfold maxLen; omega) hb).mono ?_
    · have hlt := (List.getElem?_eq_some_iff.1 hj).1
      rw [Nat.zero_add, List.getElem?_toArray, List.getElem?_append_left hlt]; exact hj
    · rintro v' l' ⟨c2, ho2, rfl⟩
      rw [List.nil_append, Nat.zero_add] at ho2
      exact ⟨c2, ho2, rfl⟩
/-- one element appended, its literal dropped; X stands ahead -/
theorem e_appX {T e k yb n bl : Nat} {xs ws zs : List Value} {X cs F : List Chunk} (hx : ev fr s = some v) (hy : ev fr x = some (.slice (some ⟨bl, 0, none⟩) 1 1)) [c : ST P T e k yb] [cz : ZV P e zs] (hzs : zs.length = k) (hown : OwnSl e k v n xs cs) (hw : ws.length = k) (h1 : ∀ u ∈ ws, u.oneCell' = true) (hn : n ≤ 1000000) (hby : yb ≤ 1000) :
    OpE P ro N fr ((bl, .cells (List.toArray ws) e (0, 0)) :: (X ++ (cs ++ F))) ⟨d, .call { callee := .builtin .append, args := #[s, x], argTypes := #[T, T] }, ty, pos, aft, g⟩ (fun v' l' => ∃ c2, OwnSl e k v' (n + 1) (xs ++ ws) c2 ∧ l' = X ++ (c2 ++ F)) := by
  have hpm : ((bl, Obj.cells (List.toArray ws) e (0, 0)) :: (X ++ (cs ++ F))).Perm (cs ++ (((bl, Obj.cells (List.toArray ws) e (0, 0)) :: X) ++ F)) :=
    List.perm_append_comm_assoc ((bl, Obj.cells (List.toArray ws) e (0, 0)) :: X) cs F
  have hb : (n + 1) * yb ≤ 140737488355328 := by
    have := Nat.mul_le_mul (show n + 1 ≤ 1000001 by omega) hby
    omega
  refine OpE.re (Keep.of_perm hpm) (ce_append (m := 1) (xs := xs) (news := ws) (zs := zs) hx hy hzs hown (List.mem_append_right _ List.mem_cons_self) (fun j u hj => by simpa using hj) (by rw [hw, Nat.one_mul]) h1 (by unfold maxLen; omega) hb) ?_
  rintro v' _ ⟨c2, ho, rfl⟩
  exact ⟨_, Keep.trans (Keep.of_perm (List.perm_append_comm_assoc c2 ((bl, Obj.cells (List.toArray ws) e (0, 0)) :: X) F)) (.drop .refl), c2, ho, rfl⟩
/-- one element appended where the literal stands behind the old blocks -/
theorem e_appY {T e k yb n bl : Nat} {xs ws zs : List Value} {cs F : List Chunk} (hx : ev fr s = some v) (hy : ev fr x = some (.slice (some ⟨bl, 0, none⟩) 1 1)) [c : ST P T e k yb] [cz : ZV P e zs] (hzs : zs.length = k) (hown : OwnSl e k v n xs cs) (hw : ws.length = k) (h1 : ∀ u ∈ ws, u.oneCell' = true) (hn : n ≤ 1000000) (hby : yb ≤ 1000) :
    OpE P ro N fr (cs ++ ((bl, .cells (List.toArray ws) e (0, 0)) :: F)) ⟨d, .call { callee := .builtin .append, args := #[s, x], argTypes := #[T, T] }, ty, pos, aft, g⟩ (fun v' l' => ∃ c2, OwnSl e k v' (n + 1) (xs ++ ws) c2 ∧ l' = c2 ++ F) := by
  refine OpE.re (Keep.of_perm List.perm_middle) (e_appX (X := []) (F := F) hx hy hzs hown hw h1 hn hby) ?_
  rintro v' _ ⟨c2, ho, rfl⟩
  exact ⟨_, .refl, c2, ho, rfl⟩
theorem yielded_un {ops : Array Oper} {a : Act} {j d : Nat} {oj : Oper} (hf : FSat N fr a) (hj : ops[j]? = some oj) (hd : oj.dst = some d) (hb : flook fr d = some undef) : yielded ops a.tmps j = none := by
  have := hf.at_ d _ hb
  simp [yielded, hj, hd, this, undef]
/-- an operation whose guard's own operation was passed over is passed over -/
theorem t_hu {ops : Array Oper} {Q : Exit → Act → World → Prop} {rest : List Oper} {ds : List Deferred} {E : World} {o oj : Oper} {d j dj : Nat} {bw : Bool} (hw : o.guard = some (j, bw)) (hj : ops[j]? = some oj) (hjd : oj.dst = some dj) (hb : flook fr dj = some undef) (hd : o.dst = some d) (hbl : Nat.blt d N = true) (hk : OpsS P ro N E ops Q rest ((d, undef) :: fr) ds l) : OpsS P ro N E ops Q (o :: rest) fr ds l :=
  ⟨fun a W hf hds hs => by
    have hy := yielded_un hf hj hjd hb
    refine wpListIn_step fun K' hK' => ?_
    rw [if_neg (by simp [Region.wanted, hw, hy])]
    refine ⟨fun _ _ => trivial, hK' _ _ (hk.run _ _ ?_ ((put_defers _ _ _).trans hds) hs)⟩
    have := hf.put (d := o.dst) undef (by rw [hd]; exact hbl)
    rw [hd] at this ⊢
    exact this⟩
end
end Go.Proofs.YtcjknmpogkofpaaGreat

/- The long tactics as default arguments of short laws: what is left of a goal is handed on. Laws of my own, no program's. -/
set_option linter.unusedVariables false
set_option linter.unusedSimpArgs false
namespace Go.Proofs.YtcjknmpogkofpaaGreat
open Go.RowKit

/-- what is left, kept from the sight of 'assumption' -/
structure Bx (H : Prop) : Prop where
  h : H
theorem gz {H G : Prop} (k : H) (h : Bx H → G := by (intro k; (repeat (first | (show OpsS _ _ _ _ _ _ (_ :: _) _ _ _; first | refine ozq ?_ | refine ozs ?_ | refine ozs0 ?_ | refine ozt ?_ | refine ozf ?_ | refine ozn ?_) | refine c_seq ?_ | refine p_then ?_ | refine c_region ?_ | refine s_nil ?_ | refine c_cond_t rfl ?_ | refine c_cond_f rfl ?_ | refine c_block ?_ | refine c_skip ?_ | refine c_exit ?_ | refine p_block ?_ | refine p_then_exit ?_ | refine p_block_here ?_ | refine p_block_on rfl ?_ | refine c_ret ?_ | refine p_then_ret ?_ | refine p_block_ret ?_ | refine c_scope ?_ | refine c_label ?_ | refine p_scope ?_ | refine p_scope_ret ?_ | refine p_scope_exit ?_ | refine p_end ?_ | refine c_if_t rfl (by omega) ?_ | refine c_if_f rfl (by omega) ?_)); exact k.h)) : G := h ⟨k⟩
theorem gzU {H G : Prop} (k : H) (h : Bx H → G := by (intro k; (repeat (first | (show OpsS _ _ _ _ _ _ (_ :: _) _ _ _; first | refine ozq ?_ | refine ozs ?_ | refine ozs0 ?_ | refine ozt ?_ | refine ozf ?_ | refine t_hu rfl rfl rfl rfl rfl rfl ?_ | refine ozn ?_) | refine c_seq ?_ | refine p_then ?_ | refine c_region ?_ | refine s_nil ?_ | refine c_cond_t rfl ?_ | refine c_cond_f rfl ?_ | refine c_block ?_ | refine c_skip ?_ | refine c_exit ?_ | refine p_block ?_ | refine p_then_exit ?_ | refine p_block_here ?_ | refine p_block_on rfl ?_ | refine c_ret ?_ | refine p_then_ret ?_ | refine p_block_ret ?_ | refine c_scope ?_ | refine c_label ?_ | refine p_scope ?_ | refine p_scope_ret ?_ | refine p_scope_exit ?_ | refine p_end ?_ | refine c_if_t rfl (by omega) ?_ | refine c_if_f rfl (by omega) ?_)); exact k.h)) : G := h ⟨k⟩
theorem gzB {H G : Prop} (k : H) (h : Bx H → G := by (intro k; (repeat (fail_if_success (with_reducible show CodeS _ _ _ _ (Code.seq (Code.seq (Code.region _ _ _) (Code.block _ _)) _) _ _ _ _); first | (show OpsS _ _ _ _ _ _ (_ :: _) _ _ _; first | refine ozq ?_ | refine ozs ?_ | refine ozs0 ?_ | refine ozt ?_ | refine ozf ?_ | refine ozn ?_) | refine c_seq ?_ | refine p_then ?_ | refine c_region ?_ | refine s_nil ?_ | refine c_cond_t rfl ?_ | refine c_cond_f rfl ?_ | refine c_block ?_ | refine c_skip ?_ | refine c_exit ?_ | refine p_block ?_ | refine p_then_exit ?_ | refine p_block_here ?_ | refine p_block_on rfl ?_ | refine c_ret ?_ | refine p_then_ret ?_ | refine p_block_ret ?_ | refine c_scope ?_ | refine c_label ?_ | refine p_scope ?_ | refine p_scope_ret ?_ | refine p_scope_exit ?_ | refine p_end ?_ | refine c_if_t rfl (by omega) ?_ | refine c_if_f rfl (by omega) ?_)); exact k.h)) : G := h ⟨k⟩
theorem gzBU {H G : Prop} (k : H) (h : Bx H → G := by (intro k; (repeat (fail_if_success (with_reducible show CodeS _ _ _ _ (Code.seq (Code.seq (Code.region _ _ _) (Code.block _ _)) _) _ _ _ _); first | (show OpsS _ _ _ _ _ _ (_ :: _) _ _ _; first | refine ozq ?_ | refine ozs ?_ | refine ozs0 ?_ | refine ozt ?_ | refine ozf ?_ | refine t_hu rfl rfl rfl rfl rfl rfl ?_ | refine ozn ?_) | refine c_seq ?_ | refine p_then ?_ | refine c_region ?_ | refine s_nil ?_ | refine c_cond_t rfl ?_ | refine c_cond_f rfl ?_ | refine c_block ?_ | refine c_skip ?_ | refine c_exit ?_ | refine p_block ?_ | refine p_then_exit ?_ | refine p_block_here ?_ | refine p_block_on rfl ?_ | refine c_ret ?_ | refine p_then_ret ?_ | refine p_block_ret ?_ | refine c_scope ?_ | refine c_label ?_ | refine p_scope ?_ | refine p_scope_ret ?_ | refine p_scope_exit ?_ | refine p_end ?_ | refine c_if_t rfl (by omega) ?_ | refine c_if_f rfl (by omega) ?_)); exact k.h)) : G := h ⟨k⟩
theorem gzS {H G : Prop} (k : H) (h : Bx H → G := by (intro k; ((first | (show OpsS _ _ _ _ _ _ (_ :: _) _ _ _; first | refine ozq ?_ | refine ozs ?_ | refine ozs0 ?_ | refine ozt ?_ | refine ozf ?_ | refine ozn ?_) | refine c_seq ?_ | refine p_then ?_ | refine c_region ?_ | refine s_nil ?_ | refine c_cond_t rfl ?_ | refine c_cond_f rfl ?_ | refine c_block ?_ | refine c_skip ?_ | refine c_exit ?_ | refine p_block ?_ | refine p_then_exit ?_ | refine p_block_here ?_ | refine p_block_on rfl ?_ | refine c_ret ?_ | refine p_then_ret ?_ | refine p_block_ret ?_ | refine c_scope ?_ | refine c_label ?_ | refine p_scope ?_ | refine p_scope_ret ?_ | refine p_scope_exit ?_ | refine p_end ?_ | refine c_if_t rfl (by omega) ?_ | refine c_if_f rfl (by omega) ?_)); exact k.h)) : G := h ⟨k⟩
theorem gzSU {H G : Prop} (k : H) (h : Bx H → G := by (intro k; ((first | (show OpsS _ _ _ _ _ _ (_ :: _) _ _ _; first | refine ozq ?_ | refine ozs ?_ | refine ozs0 ?_ | refine ozt ?_ | refine ozf ?_ | refine t_hu rfl rfl rfl rfl rfl rfl ?_ | refine ozn ?_) | refine c_seq ?_ | refine p_then ?_ | refine c_region ?_ | refine s_nil ?_ | refine c_cond_t rfl ?_ | refine c_cond_f rfl ?_ | refine c_block ?_ | refine c_skip ?_ | refine c_exit ?_ | refine p_block ?_ | refine p_then_exit ?_ | refine p_block_here ?_ | refine p_block_on rfl ?_ | refine c_ret ?_ | refine p_then_ret ?_ | refine p_block_ret ?_ | refine c_scope ?_ | refine c_label ?_ | refine p_scope ?_ | refine p_scope_ret ?_ | refine p_scope_exit ?_ | refine p_end ?_ | refine c_if_t rfl (by omega) ?_ | refine c_if_f rfl (by omega) ?_)); exact k.h)) : G := h ⟨k⟩
theorem gzQ {H G : Prop} (k : H) (h : Bx H → G := by (intro k; (repeat (first | (show OpsS _ _ _ _ _ _ (_ :: _) _ _ _; first | refine ozq ?_ | refine ozs ?_ | refine ozs0 ?_ | refine ozt ?_ | refine ozf ?_) | refine c_seq ?_ | refine p_then ?_ | refine c_region ?_ | refine s_nil ?_ | refine c_cond_t rfl ?_ | refine c_cond_f rfl ?_ | refine c_block ?_ | refine c_skip ?_ | refine c_exit ?_ | refine p_block ?_ | refine p_then_exit ?_ | refine p_block_here ?_ | refine p_block_on rfl ?_ | refine c_ret ?_ | refine p_then_ret ?_ | refine p_block_ret ?_ | refine c_scope ?_ | refine c_label ?_ | refine p_scope ?_ | refine p_scope_ret ?_ | refine p_scope_exit ?_ | refine p_end ?_ | refine c_if_t rfl (by omega) ?_ | refine c_if_f rfl (by omega) ?_)); exact k.h)) : G := h ⟨k⟩
theorem gzQU {H G : Prop} (k : H) (h : Bx H → G := by (intro k; (repeat (first | (show OpsS _ _ _ _ _ _ (_ :: _) _ _ _; first | refine ozq ?_ | refine ozs ?_ | refine ozs0 ?_ | refine ozt ?_ | refine ozf ?_ | refine t_hu rfl rfl rfl rfl rfl rfl ?_) | refine c_seq ?_ | refine p_then ?_ | refine c_region ?_ | refine s_nil ?_ | refine c_cond_t rfl ?_ | refine c_cond_f rfl ?_ | refine c_block ?_ | refine c_skip ?_ | refine c_exit ?_ | refine p_block ?_ | refine p_then_exit ?_ | refine p_block_here ?_ | refine p_block_on rfl ?_ | refine c_ret ?_ | refine p_then_ret ?_ | refine p_block_ret ?_ | refine c_scope ?_ | refine c_label ?_ | refine p_scope ?_ | refine p_scope_ret ?_ | refine p_scope_exit ?_ | refine p_end ?_ | refine c_if_t rfl (by omega) ?_ | refine c_if_f rfl (by omega) ?_)); exact k.h)) : G := h ⟨k⟩
theorem pz {H G : Prop} (k : H) (h : Bx H → G := by (intro k; (repeat (first | refine pl_nil ?_ | (show PlanS _ _ _ _ _ _ _ _ _ _ ((_, true, _) :: _) _ _ _; first | refine pzq ?_ | refine pzt ?_ | refine pzf ?_) | (show PlanS _ _ _ _ _ _ _ _ none [] ((_, _, _) :: _) _ _ _; first | refine pzs ?_ | refine pzs0 ?_) | (show PlanS _ _ _ _ _ _ _ _ _ _ ((_, _, _) :: _) _ _ _; first | refine pzt ?_ | refine pzf ?_) | (show PlanS _ _ _ _ _ _ _ _ none [] ((_, false, _) :: _) _ _ _; first | refine pzn ?_ | refine pze ?_))); exact k.h)) : G := h ⟨k⟩
theorem pzU {H G : Prop} (k : H) (h : Bx H → G := by (intro k; (repeat (first | refine pl_nil ?_ | (show PlanS _ _ _ _ _ _ _ _ _ _ ((_, true, _) :: _) _ _ _; first | refine pzq ?_ | refine pzt ?_ | refine pzf ?_) | (show PlanS _ _ _ _ _ _ _ _ none [] ((_, _, _) :: _) _ _ _; first | refine pzs ?_ | refine pzs0 ?_ | refine pl_hu (List.Sublist.subset (by (repeat (first | with_reducible apply List.Sublist.refl | with_reducible apply List.nil_sublist | with_reducible apply List.Sublist.cons_cons | with_reducible apply List.Sublist.cons)))) rfl rfl rfl rfl rfl rfl ?_) | (show PlanS _ _ _ _ _ _ _ _ _ _ ((_, _, _) :: _) _ _ _; first | refine pzt ?_ | refine pzf ?_) | (show PlanS _ _ _ _ _ _ _ _ none [] ((_, false, _) :: _) _ _ _; first | refine pzn ?_ | refine pze ?_))); exact k.h)) : G := h ⟨k⟩
theorem pzS {H G : Prop} (k : H) (h : Bx H → G := by (intro k; ((first | refine pl_nil ?_ | (show PlanS _ _ _ _ _ _ _ _ _ _ ((_, true, _) :: _) _ _ _; first | refine pzq ?_ | refine pzt ?_ | refine pzf ?_) | (show PlanS _ _ _ _ _ _ _ _ none [] ((_, _, _) :: _) _ _ _; first | refine pzs ?_ | refine pzs0 ?_) | (show PlanS _ _ _ _ _ _ _ _ _ _ ((_, _, _) :: _) _ _ _; first | refine pzt ?_ | refine pzf ?_) | (show PlanS _ _ _ _ _ _ _ _ none [] ((_, false, _) :: _) _ _ _; first | refine pzn ?_ | refine pze ?_))); exact k.h)) : G := h ⟨k⟩
theorem pzSU {H G : Prop} (k : H) (h : Bx H → G := by (intro k; ((first | refine pl_nil ?_ | (show PlanS _ _ _ _ _ _ _ _ _ _ ((_, true, _) :: _) _ _ _; first | refine pzq ?_ | refine pzt ?_ | refine pzf ?_) | (show PlanS _ _ _ _ _ _ _ _ none [] ((_, _, _) :: _) _ _ _; first | refine pzs ?_ | refine pzs0 ?_ | refine pl_hu (List.Sublist.subset (by (repeat (first | with_reducible apply List.Sublist.refl | with_reducible apply List.nil_sublist | with_reducible apply List.Sublist.cons_cons | with_reducible apply List.Sublist.cons)))) rfl rfl rfl rfl rfl rfl ?_) | (show PlanS _ _ _ _ _ _ _ _ _ _ ((_, _, _) :: _) _ _ _; first | refine pzt ?_ | refine pzf ?_) | (show PlanS _ _ _ _ _ _ _ _ none [] ((_, false, _) :: _) _ _ _; first | refine pzn ?_ | refine pze ?_))); exact k.h)) : G := h ⟨k⟩
theorem zMem {p : Prop} (h : p := by (((repeat (first | with_reducible apply List.mem_cons_self | with_reducible apply List.mem_cons_of_mem)); try with_reducible assumption))) : p := h
theorem zUpd {p : Prop} (h : p := by ((repeat (first | apply Upd.here | apply Upd.there)))) : p := h
theorem zSubl {p : Prop} (h : p := by ((repeat (first | with_reducible apply List.Sublist.refl | with_reducible apply List.nil_sublist | with_reducible apply List.Sublist.cons_cons | with_reducible apply List.Sublist.cons)))) : p := h
theorem zRes {p : Prop} (h : p := by ((repeat (first | apply ResS.nil | (apply rs_tmp; (· rfl)) | (apply rs_cell1; (· rfl); (· ((repeat (first | with_reducible apply List.mem_cons_self | with_reducible apply List.mem_cons_of_mem)); try with_reducible assumption)); (· rfl)) | (apply rs_cellA; (· rfl); (· ((repeat (first | with_reducible apply List.mem_cons_self | with_reducible apply List.mem_cons_of_mem)); try with_reducible assumption)); (· (repeat (first | with_reducible apply LSub.done | with_reducible apply LSub.take | with_reducible apply LSub.drop)))))))) : p := h
theorem zPick {p : Prop} (h : p := by ((repeat (first | apply Pick.here | apply Pick.there)))) : p := h
theorem zKeep {p : Prop} (h : p := by (((try simp only [List.cons_append, List.nil_append, List.map_cons, List.map_nil]); repeat (first | with_reducible apply Keep.refl | (apply Keep.pick; · (repeat (first | apply Pick.here | apply Pick.there))) | apply Keep.drop)))) : p := h
theorem zLd {p : Prop} (h : p := by (first | exact q_load rfl (.head _) (by (first | with_reducible assumption | ((with_reducible apply cell_get); (repeat (first | with_reducible apply LGet.zero | with_reducible apply LGet.succ))))) | exact q_loadL rfl (.head _) (by (repeat (first | with_reducible apply LSub.done | with_reducible apply LSub.take | with_reducible apply LSub.drop))))) : p := h
theorem zAtt {p : Prop} (h : p := by ((repeat (first | apply Attach.nil | (apply Attach.cons; · rfl))))) : p := h
theorem zHR {l l' : List Chunk} (h : l.Sublist l' := by ((repeat (first | with_reducible apply List.Sublist.refl | with_reducible apply List.nil_sublist | with_reducible apply List.Sublist.cons_cons | with_reducible apply List.Sublist.cons)))) : ∀ c, c ∈ l → c ∈ l' := fun _ hc => h.subset hc
end Go.Proofs.YtcjknmpogkofpaaGreat

/- == of structs and arrays of numbers and bools. Laws of my own, no program's. -/
set_option linter.unusedVariables false
set_option linter.unusedSimpArgs false
namespace Go.Proofs.YtcjknmpogkofpaaGreat
open Go.RowKit

def CellK : Option IntKind → Value → Prop
  | some k, v => ∃ a : Int, v = .int k a
  | none, v => ∃ b : Bool, v = .bool b
def AllK : List (Option IntKind) → List Value → Prop
  | [], cs => cs = []
  | k :: ks, cs => ∃ c r, cs = c :: r ∧ CellK k c ∧ AllK ks r
theorem AllK.len {a : List (Option IntKind)} {x : List Value} (h : AllK a x) : x.length = a.length := by
  induction a generalizing x with
  | nil => cases h; rfl
  | cons q a ih => obtain ⟨c, r, rfl, h1, h2⟩ := h; simp [ih h2]
def aggT (P : Program) (t : TypeId) : Bool := match P.underlying t with
  | some (.struct _) | some (.array _ _) => true
  | _ => false
/-- the kinds of the cells of a type that == compares cell by cell -/
def eqK (P : Program) : Nat → TypeId → Option (List (Option IntKind))
  | 0, _ => none
  | n + 1, t => match P.underlying t with
    | some (.int k) => some [some k]
    | some .bool => some [none]
    | some (.struct fs) => if P.stoodInHeld t then none else
      fs.toList.foldl (fun acc f => acc.bind fun l => (eqK P n f.type).bind fun ks => if f.offset = l.length ∧ f.name ≠ "_" ∧ (P.info? f.type).map (·.size) = some ks.length then some (l ++ ks) else none) (some [])
    | some (.array len e) => (eqK P n e).bind fun ks => if (P.info? e).map (·.size) = some ks.length then some (List.replicate len ks).flatten else none
    | _ => none
def valOf (P : Program) (t : TypeId) (xs : List Value) : Value := if aggT P t then .agg xs.toArray else xs.headD undef

section
variable {P : Program}
variable {t : TypeId} {α : Type} {f : Value → Sem α} {l : List Chunk} {Q : α → List Chunk → Prop}
theorem sl_pieceA {d : TypeDesc} {inf : TypeInfo} (hu : P.underlying t = some d) (ha : isAggD d = true) (hi : P.info? t = some inf) (cs : List Value) (off : Nat) :
    sl P (part t cs.toArray off >>= f) l Q ↔ sl P (f (.agg ((cs.drop off).take inf.size).toArray)) l Q := by
  unfold part
  rw [sl_bind, sl_isAgg hu, ha]
  simp only [if_true]
  rw [sl_sizeOf hi]
  have e : cs.toArray.extract off (off + inf.size) = ((cs.drop off).take inf.size).toArray := by
    apply Array.toList_inj.1
    rw [Array.toList_extract, List.extract_eq_take_drop]
    simp
  rw [e]
  exact Iff.rfl
theorem sl_pieceS {d : TypeDesc} {v : Value} (hu : P.underlying t = some d) (ha : isAggD d = false) (cs : List Value) (off : Nat) (hv : cs[off]? = some v) :
    sl P (part t cs.toArray off >>= f) l Q ↔ sl P (f v) l Q := by
  unfold part
  rw [sl_bind, sl_isAgg hu, ha]
  simp only [Bool.false_eq_true, if_false, List.getElem?_toArray, hv]
  exact Iff.rfl
def eqCell : Value → Value → Bool
  | .int _ a, .int _ b => a == b
  | .bool a, .bool b => a == b
  | _, _ => false
def eqCells : List Value → List Value → Bool
  | x :: xs, y :: ys => eqCell x y && eqCells xs ys
  | _, _ => true
theorem eqCells_append : ∀ (a b c d : List Value), a.length = b.length → eqCells (a ++ c) (b ++ d) = (eqCells a b && eqCells c d)
  | [], [], c, d, _ => by simp [eqCells]
  | x :: a, y :: b, c, d, h => by simp only [List.cons_append, eqCells, eqCells_append a b c d (by simpa using h), Bool.and_assoc]
theorem eqCells_self : ∀ {ks : List (Option IntKind)} {a : List Value}, AllK ks a → eqCells a a = true
  | [], a, h => by cases h; rfl
  | none :: ks, a, h => by obtain ⟨c, r, rfl, ⟨b, rfl⟩, h2⟩ := h; simp [eqCells, eqCell, eqCells_self h2]
  | some k :: ks, a, h => by obtain ⟨c, r, rfl, ⟨b, rfl⟩, h2⟩ := h; simp [eqCells, eqCell, eqCells_self h2]
theorem sl_for {β : Type} (r : β → Bool) (body : β → Option Bool × Unit → Sem (ForInStep (Option Bool × Unit))) (k : Option Bool × Unit → Sem Bool) (k1 : k (none, ()) = pure true) (k2 : k (some false, ()) = pure false) {Q : Bool → List Chunk → Prop} {l : List Chunk} : ∀ (xs : List β), (∀ x ∈ xs, ∀ (Q : ForInStep (Option Bool × Unit) → List Chunk → Prop) l, sl P (body x (none, ())) l Q ↔ Q (if r x then .yield (none, ()) else .done (some false, ())) l) →
    (sl P (forIn xs ((none : Option Bool), ()) body >>= k) l Q ↔ Q (xs.all r) l)
  | [], _ => by simp only [List.forIn_nil, sl_bind, sl_pure, List.all_nil, k1]
  | x :: xs, h => by
    rw [sl_bind, List.forIn_cons, sl_bind, h x List.mem_cons_self, List.all_cons]
    cases hr : r x with
    | true =>
      simp only [if_true, Bool.true_and]
      rw [← sl_bind]
      exact sl_for r body k k1 k2 xs fun y hy => h y (List.mem_cons_of_mem _ hy)
    | false =>
      simp only [Bool.false_eq_true, if_false, Bool.false_and, sl_pure, k2]
theorem AllK.take_left {a b : List (Option IntKind)} {x : List Value} (h : AllK (a ++ b) x) : AllK a (x.take a.length) := by
  induction a generalizing x with
  | nil => simp [AllK]
  | cons k a ih => obtain ⟨c, r, rfl, h1, h2⟩ := h; exact ⟨c, r.take a.length, by simp, h1, ih h2⟩
theorem AllK.drop_left {a b : List (Option IntKind)} {x : List Value} (h : AllK (a ++ b) x) : AllK b (x.drop a.length) := by
  induction a generalizing x with
  | nil => simpa using h
  | cons k a ih => obtain ⟨c, r, rfl, h1, h2⟩ := h; simpa using ih h2
theorem eqCells_split (xs ys : List Value) (m : Nat) (h : xs.length = ys.length) : eqCells xs ys = (eqCells (xs.take m) (ys.take m) && eqCells (xs.drop m) (ys.drop m)) := by
  rw [← eqCells_append _ _ _ _ (by simp [h]), List.take_append_drop, List.take_append_drop]
def sizeT (P : Program) (t : TypeId) : Nat := ((P.info? t).map (·.size)).getD 0
def pieceEq (P : Program) (xs ys : List Value) (f : Field) : Bool := eqCells ((xs.drop f.offset).take (sizeT P f.type)) ((ys.drop f.offset).take (sizeT P f.type))
structure PieceOk (P : Program) (n : Nat) (xs ys : List Value) (f : Field) (kf : List (Option IntKind)) : Prop where
  kinds : eqK P n f.type = some kf
  named : f.name ≠ "_"
  size : (P.info? f.type).map (·.size) = some kf.length
  x : AllK kf ((xs.drop f.offset).take kf.length)
  y : AllK kf ((ys.drop f.offset).take kf.length)
theorem eqK_fields (n : Nat) (xs ys : List Value) : ∀ (fs : List Field) (l ks : List (Option IntKind)),
    fs.foldl (fun acc f => acc.bind fun l => (eqK P n f.type).bind fun ks => if f.offset = l.length ∧ f.name ≠ "_" ∧ (P.info? f.type).map (·.size) = some ks.length then some (l ++ ks) else none) (some l) = some ks →
    ∃ rest, ks = l ++ rest ∧ (AllK ks xs → AllK ks ys → (∀ f ∈ fs, ∃ kf, PieceOk P n xs ys f kf) ∧ eqCells (xs.drop l.length) (ys.drop l.length) = fs.all (pieceEq P xs ys)) := by
  intro fs
  induction fs with
  | nil =>
    intro l ks h
    simp only [List.foldl_nil, Option.some.injEq] at h
    subst h
    refine ⟨[], by simp, fun hx hy => ⟨by simp, ?_⟩⟩
    rw [List.drop_of_length_le (by rw [hx.len]; exact Nat.le_refl _), List.drop_of_length_le (by rw [hy.len]; exact Nat.le_refl _)]
    rfl
  | cons f fs ih =>
    intro l ks h
    simp only [List.foldl_cons, Option.bind_some] at h
    cases hk : eqK P n f.type with
    | none => rw [hk] at h; simp only [Option.bind_none] at h; rw [foldl_none] at h; cases h
    | some kf =>
      rw [hk] at h
      simp only [Option.bind_some] at h
      by_cases hc : f.offset = l.length ∧ f.name ≠ "_" ∧ (P.info? f.type).map (·.size) = some kf.length
      · rw [if_pos hc] at h
        obtain ⟨rest, hr, hrest⟩ := ih _ _ h
        refine ⟨kf ++ rest, by rw [hr, List.append_assoc], fun hx hy => ?_⟩
        obtain ⟨g1, g2⟩ := hrest hx hy
        have hx1 : AllK kf ((xs.drop f.offset).take kf.length) := by rw [hc.1]; rw [hr, List.append_assoc] at hx; exact hx.drop_left.take_left
        have hy1 : AllK kf ((ys.drop f.offset).take kf.length) := by rw [hc.1]; rw [hr, List.append_assoc] at hy; exact hy.drop_left.take_left
        refine ⟨fun g hg => ?_, ?_⟩
        · rcases List.mem_cons.1 hg with rfl | hg
          · exact ⟨kf, hk, hc.2.1, hc.2.2, hx1, hy1⟩
          · exact g1 g hg
        · rw [List.all_cons, ← g2, eqCells_split _ _ kf.length (by simp [hx.len, hy.len])]
          simp only [pieceEq, sizeT, hc.2.2, Option.getD_some, hc.1, List.drop_drop, List.length_append]
      · rw [if_neg hc, foldl_none] at h; cases h
theorem sl_piece {n : Nat} {t : TypeId} {α : Type} {f : Value → Sem α} {l : List Chunk} {Q : α → List Chunk → Prop} {kf : List (Option IntKind)} (h : eqK P n t = some kf) (hs : (P.info? t).map (·.size) = some kf.length) (cs : List Value) (off : Nat) (hx : AllK kf ((cs.drop off).take kf.length)) :
    sl P (part t cs.toArray off >>= f) l Q ↔ sl P (f (valOf P t ((cs.drop off).take kf.length))) l Q := by
  have hi : ∃ inf, P.info? t = some inf ∧ inf.size = kf.length := by
    cases hh : P.info? t with
    | none => rw [hh] at hs; cases hs
    | some inf => rw [hh] at hs; exact ⟨inf, rfl, by simpa using hs⟩
  obtain ⟨inf, hi1, hi2⟩ := hi
  have scal : ∀ {d : TypeDesc} {k : Option IntKind}, P.underlying t = some d → isAggD d = false → aggT P t = false → kf = [k] → (sl P (part t cs.toArray off >>= f) l Q ↔ sl P (f (valOf P t ((cs.drop off).take kf.length))) l Q) := by
    intro d k hu ha hb hkf
    subst hkf
    obtain ⟨c, r, e1, _, e2⟩ := hx
    have hg : cs[off]? = some c := by
      have := congrArg (fun z => z[0]?) e1
      simpa using this
    rw [sl_pieceS hu ha cs off hg]
    unfold valOf
    rw [hb, e1]
    exact Iff.rfl
  have agg : ∀ {d : TypeDesc}, P.underlying t = some d → isAggD d = true → aggT P t = true → (sl P (part t cs.toArray off >>= f) l Q ↔ sl P (f (valOf P t ((cs.drop off).take kf.length))) l Q) := by
    intro d hu ha hb
    rw [sl_pieceA hu ha hi1 cs off, hi2]
    unfold valOf
    rw [hb]
    exact Iff.rfl
  cases n with
  | zero => cases h
  | succ n =>
    unfold eqK at h
    split at h
    · rename_i k hu; cases h; exact scal hu rfl (by unfold aggT; rw [hu]) rfl
    · rename_i hu; cases h; exact scal hu rfl (by unfold aggT; rw [hu]) rfl
    · rename_i fs hu; exact agg hu rfl (by unfold aggT; rw [hu])
    · rename_i len e hu; exact agg hu rfl (by unfold aggT; rw [hu])
    · cases h
theorem eqK_rows (kf : List (Option IntKind)) : ∀ (len : Nat) (xs ys : List Value), AllK (List.replicate len kf).flatten xs → AllK (List.replicate len kf).flatten ys →
    (∀ i, i < len → AllK kf ((xs.drop (i * kf.length)).take kf.length) ∧ AllK kf ((ys.drop (i * kf.length)).take kf.length)) ∧
      eqCells xs ys = (List.range' 0 len).all fun i => eqCells ((xs.drop (i * kf.length)).take kf.length) ((ys.drop (i * kf.length)).take kf.length) := by
  intro len
  induction len with
  | zero => intro xs ys hx hy; cases hx; cases hy; exact ⟨fun i hi => by omega, rfl⟩
  | succ len ih =>
    intro xs ys hx hy
    rw [List.replicate_succ, List.flatten_cons] at hx hy
    obtain ⟨h1, h2⟩ := ih _ _ hx.drop_left hy.drop_left
    have sh : ∀ i (z : List Value), (z.drop kf.length).drop (i * kf.length) = z.drop ((i + 1) * kf.length) := fun i z => by rw [List.drop_drop]; congr 1; rw [Nat.succ_mul]; omega
    refine ⟨fun i hi => ?_, ?_⟩
    · cases i with
      | zero => simpa using And.intro hx.take_left hy.take_left
      | succ i => have := h1 i (by omega); rw [sh, sh] at this; exact this
    · rw [eqCells_split _ _ kf.length (by rw [hx.len, hy.len]), h2, List.range'_succ, List.all_cons]
      congr 1
      · simp
      · have e : List.range' (0 + 1) len = (List.range' 0 len).map (· + 1) := by simp [List.range'_eq_map_range, Function.comp_def, Nat.add_comm]
        rw [e, List.all_map]
        congr 1
        funext i
        simp only [Function.comp, sh]
theorem sl_eqIn : ∀ (n d : Nat) (t : TypeId) (ks : List (Option IntKind)), eqK P n t = some ks → n ≤ d → ∀ (xs ys : List Value), AllK ks xs → AllK ks ys → ∀ (Q : Bool → List Chunk → Prop) (l : List Chunk),
    (sl P (Op.equalIn d t (valOf P t xs) (valOf P t ys)) l Q ↔ Q (eqCells xs ys) l) := by
  intro n
  induction n with
  | zero => intro d t ks h; cases h
  | succ n ih =>
    intro d t ks h hd xs ys hx hy Q l
    obtain ⟨d, rfl⟩ : ∃ e, d = e + 1 := ⟨d - 1, by omega⟩
    unfold eqK at h
    split at h
    · rename_i k hu
      cases h
      obtain ⟨_, _, rfl, ⟨a, rfl⟩, rfl⟩ := hx
      obtain ⟨_, _, rfl, ⟨b, rfl⟩, rfl⟩ := hy
      simp only [valOf, aggT, hu, Bool.false_eq_true, if_false, List.headD_cons]
      unfold Op.equalIn
      rw [sl_under hu]
      simp [eqCells, eqCell, sl_pure]
    · rename_i hu
      cases h
      obtain ⟨_, _, rfl, ⟨a, rfl⟩, rfl⟩ := hx
      obtain ⟨_, _, rfl, ⟨b, rfl⟩, rfl⟩ := hy
      simp only [valOf, aggT, hu, Bool.false_eq_true, if_false, List.headD_cons]
      unfold Op.equalIn
      rw [sl_under hu]
      simp [eqCells, eqCell, sl_pure]
    · rename_i fs hu
      by_cases hst : P.stoodInHeld t = true
      · rw [if_pos hst] at h; cases h
      rw [if_neg hst] at h
      obtain ⟨rest, hr, hrest⟩ := eqK_fields n xs ys fs.toList [] ks h
      obtain ⟨g1, g2⟩ := hrest hx hy
      simp only [List.length_nil, List.drop_zero] at g2
      have hag : aggT P t = true := by unfold aggT; rw [hu]
      simp only [valOf, hag, if_true]
      unfold Op.equalIn
      rw [sl_under hu]
      simp only
      rw [sl_program, Bool.eq_false_iff.2 hst]
      simp only [Bool.false_eq_true, if_false]
      rw [g2, ← Array.forIn_toList]
      refine sl_for (pieceEq P xs ys) _ _ rfl rfl fs.toList fun f hf Q l => ?_
      obtain ⟨kf, ok⟩ := g1 f hf
      rw [if_pos ok.named, sl_piece ok.kinds ok.size xs f.offset ok.x, sl_piece ok.kinds ok.size ys f.offset ok.y, sl_bind, ih d f.type kf ok.kinds (by omega) _ _ ok.x ok.y]
      simp only [pieceEq, sizeT, ok.size, Option.getD_some]
      cases eqCells (List.take kf.length (List.drop f.offset xs)) (List.take kf.length (List.drop f.offset ys)) <;> simp [sl_pure]
    · rename_i len e hu
      obtain ⟨kf, hk, hk2⟩ := Option.bind_eq_some_iff.1 h
      by_cases hs : (P.info? e).map (·.size) = some kf.length
      · rw [if_pos hs] at hk2
        cases hk2
        obtain ⟨g1, g2⟩ := eqK_rows kf len xs ys hx hy
        have hag : aggT P t = true := by unfold aggT; rw [hu]
        have hi : ∃ inf, P.info? e = some inf ∧ inf.size = kf.length := by
          cases hh : P.info? e with
          | none => rw [hh] at hs; cases hs
          | some inf => rw [hh] at hs; exact ⟨inf, rfl, by simpa using hs⟩
        obtain ⟨inf, hi1, hi2⟩ := hi
        simp only [valOf, hag, if_true]
        unfold Op.equalIn
        rw [sl_under hu]
        simp only
        rw [sl_sizeOf hi1, hi2, g2]
        rw [Std.Legacy.Range.forIn_eq_forIn_range']
        have hsz : Std.Legacy.Range.size [:len] = len := by simp [Std.Legacy.Range.size]
        rw [hsz]
        refine sl_for (fun i => eqCells ((xs.drop (i * kf.length)).take kf.length) ((ys.drop (i * kf.length)).take kf.length)) _ _ rfl rfl (List.range' 0 len) fun i hf Q l => ?_
        have hil : i < len := by have := List.mem_range'_1.1 hf; omega
        obtain ⟨o1, o2⟩ := g1 i hil
        rw [sl_piece hk hs xs _ o1, sl_piece hk hs ys _ o2, sl_bind, ih d e kf hk (by omega) _ _ o1 o2]
        cases eqCells (List.take kf.length (List.drop (i * kf.length) xs)) (List.take kf.length (List.drop (i * kf.length) ys)) <;> simp [sl_pure]
      · rw [if_neg hs] at hk2; cases hk2
    · cases h
def eqV (P : Program) (t : TypeId) : Option (List (Option IntKind)) := if aggT P t = true ∧ P.eqGuardType P.depth t = false then eqK P 20 t else none
class EQ (P : Program) (t : Nat) (ks : outParam (List (Option IntKind))) : Prop where out : eqV P t = some ks
theorem eqV_spec {t : TypeId} {ks : List (Option IntKind)} (h : eqV P t = some ks) : aggT P t = true ∧ P.eqGuardType P.depth t = false ∧ eqK P 20 t = some ks := by
  unfold eqV at h
  split at h
  · rename_i hc; exact ⟨hc.1, hc.2, h⟩
  · cases h
variable {ro : Option Nat} {N : Nat} {fr : Fr} {R : List Chunk} {d : Option Nat} {ty : TypeId} {pos : String} {aft : Array Edge} {g : Option (Nat × Bool)} {x y : Operand} {t t2 : TypeId} {xs ys : List Value} {ks : List (Option IntKind)}
theorem sl_eqGuard {op : BinOp} {xa ya : Array Value} {α : Type} {f : Unit → Sem α} {l : List Chunk} {Q : α → List Chunk → Prop} (hg : P.eqGuardType P.depth t = false) : sl P (eqGuard op t x y (.agg xa) (.agg ya) >>= f) l Q ↔ sl P (f ()) l Q := by
  have key : ∀ bb : Bool, sl P ((if (!bb) = true then (pure () : Sem Unit) else do
      let p ← program
      let q ← program
      if (!p.eqGuardType q.depth t) = true then pure () else do
        let r ← Op.eqGuardIn Op.maxDepth t (.agg xa) (.agg ya)
        if r = true then unsupported (Unsupported.noEntry "binop/eql: two nil values of an interface type with methods, in a part of a struct or an array") else pure ()) >>= f) l Q ↔ sl P (f ()) l Q := by
    intro bb
    cases bb with
    | false => exact Iff.rfl
    | true =>
      rw [sl_bind]
      simp only [Bool.not_true, Bool.false_eq_true, if_false]
      rw [sl_program, sl_program, hg]
      exact Iff.rfl
  unfold eqGuard
  split
  · exact key true
  · exact key true
  · exact key false
theorem q_eqagg [c : EQ P t ks] (hx : ev fr x = some (.agg (List.toArray xs))) (hy : ev fr y = some (.agg (List.toArray ys))) (kx : AllK ks xs) (ky : AllK ks ys) : OpQ P ro N fr R ⟨d, .binOp .eql t x y t2, ty, pos, aft, g⟩ (.bool (eqCells xs ys)) := opQ_of_sl rfl fun ρ l hρ _ => by
  obtain ⟨e1, e2, e3⟩ := eqV_spec c.out
  simp only [execOp, hρ x _ hx, hρ y _ hy]
  rw [sl_bind, sl_eqGuard e2]
  have h := sl_eqIn 20 Op.maxDepth t ks e3 (by decide) xs ys kx ky
  unfold valOf at h
  rw [e1] at h
  simp only [if_true] at h
  simp only [binOp, Op.equal, sl_bind, h, sl_pure]
  exact ⟨trivial, trivial⟩
theorem q_neagg [c : EQ P t ks] (hx : ev fr x = some (.agg (List.toArray xs))) (hy : ev fr y = some (.agg (List.toArray ys))) (kx : AllK ks xs) (ky : AllK ks ys) : OpQ P ro N fr R ⟨d, .binOp .neq t x y t2, ty, pos, aft, g⟩ (.bool (!eqCells xs ys)) := opQ_of_sl rfl fun ρ l hρ _ => by
  obtain ⟨e1, e2, e3⟩ := eqV_spec c.out
  simp only [execOp, hρ x _ hx, hρ y _ hy]
  rw [sl_bind, sl_eqGuard e2]
  have h := sl_eqIn 20 Op.maxDepth t ks e3 (by decide) xs ys kx ky
  unfold valOf at h
  rw [e1] at h
  simp only [if_true] at h
  simp only [binOp, Op.equal, sl_bind, h, sl_pure]
  exact ⟨trivial, trivial⟩
theorem q_eqself [c : EQ P t ks] (hx : ev fr x = some (.agg (List.toArray xs))) (hy : ev fr y = some (.agg (List.toArray xs))) (kx : AllK ks xs) : OpQ P ro N fr R ⟨d, .binOp .eql t x y t2, ty, pos, aft, g⟩ (.bool true) := by
  have := q_eqagg (P := P) (ro := ro) (N := N) (R := R) (d := d) (ty := ty) (pos := pos) (aft := aft) (g := g) (t2 := t2) (c := c) hx hy kx kx
  rwa [eqCells_self kx] at this
theorem q_neself [c : EQ P t ks] (hx : ev fr x = some (.agg (List.toArray xs))) (hy : ev fr y = some (.agg (List.toArray xs))) (kx : AllK ks xs) : OpQ P ro N fr R ⟨d, .binOp .neq t x y t2, ty, pos, aft, g⟩ (.bool false) := by
  have := q_neagg (P := P) (ro := ro) (N := N) (R := R) (d := d) (ty := ty) (pos := pos) (aft := aft) (g := g) (t2 := t2) (c := c) hx hy kx kx
  rwa [eqCells_self kx] at this
end
def allKb : List (Option IntKind) → List Value → Bool
  | [], [] => true
  | some k :: ks, .int k' _ :: cs => decide (k = k') && allKb ks cs
  | none :: ks, .bool _ :: cs => allKb ks cs
  | _, _ => false
theorem allK_of : ∀ {ks : List (Option IntKind)} {cs : List Value}, allKb ks cs = true → AllK ks cs
  | [], [], _ => rfl
  | some k :: ks, .int k' a :: cs, h => by
    simp only [allKb, Bool.and_eq_true, decide_eq_true_eq] at h
    exact ⟨_, _, rfl, ⟨a, by rw [h.1]⟩, allK_of h.2⟩
  | none :: ks, .bool b :: cs, h => ⟨_, _, rfl, ⟨b, rfl⟩, allK_of h⟩
end Go.Proofs.YtcjknmpogkofpaaGreat

/- Slices of flat structs told by an encoding; a literal slice of several structs. Laws of my own, no program's. -/
set_option linter.unusedVariables false
set_option linter.unusedSimpArgs false
namespace Go.Proofs.YtcjknmpogkofpaaGreat
open Go.RowKit

/-- v is a slice whose rows enc x can be read in l -/
def RowSl {α : Type} (l : List Chunk) (v : Value) (k : Nat) (enc : α → List Value) (xs : List α) : Prop :=
  ∃ a cap, v = .slice a xs.length cap ∧ (0 < xs.length → ∃ b off cs t fz, a = some ⟨b, off, none⟩ ∧ (b, Obj.cells cs t fz) ∈ l ∧ ∀ i x, xs[i]? = some x → off + i * k + k ≤ cs.size ∧ cs.extract (off + i * k) (off + i * k + k) = List.toArray (enc x))
theorem flat_row {α : Type} {enc : α → List Value} {k : Nat} (hk : ∀ x, (enc x).length = k) (sp : List Value) : ∀ (xs : List α) (i : Nat) (x : α), xs[i]? = some x → ((xs.flatMap enc ++ sp).drop (i * k)).take k = enc x ∧ i * k + k ≤ (xs.flatMap enc ++ sp).length
  | [], i, x, h => by simp at h
  | y :: xs, 0, x, h => by
    cases h
    rw [List.flatMap_cons, Nat.zero_mul, List.drop_zero, List.append_assoc, List.take_left' (hk y)]
    refine ⟨rfl, ?_⟩
    rw [List.length_append, hk]; omega
  | y :: xs, i + 1, x, h => by
    obtain ⟨h1, h2⟩ := flat_row hk sp xs i x (by simpa using h)
    rw [List.flatMap_cons, List.append_assoc, Nat.succ_mul]
    refine ⟨?_, by rw [List.length_append, hk]; omega⟩
    rw [List.drop_append, List.drop_of_length_le (by rw [hk]; omega), hk, List.nil_append, show i * k + k - k = i * k by omega]
    exact h1
theorem OwnSl.rowSl {α : Type} {e k : Nat} {v : Value} {enc : α → List Value} {xs : List α} {cs l : List Chunk} (h : OwnSl e k v xs.length (xs.flatMap enc) cs) (hk : ∀ x, (enc x).length = k) (hs : ∀ c, c ∈ cs → c ∈ l) : RowSl l v k enc xs := by
  rcases h.2 with ⟨rfl, h0, rfl⟩ | ⟨b, cap, sp, rfl, rfl, _⟩
  · exact ⟨none, 0, by rw [h0], fun h => by omega⟩
  · refine ⟨_, cap, rfl, fun h0 => ⟨b, 0, _, e, (0, 0), rfl, hs _ List.mem_cons_self, fun i x hx => ?_⟩⟩
    obtain ⟨h1, h2⟩ := flat_row hk sp xs i x hx
    refine ⟨by rw [Nat.zero_add]; simpa using h2, ?_⟩
    rw [Nat.zero_add, List.extract_toArray, List.extract_eq_take_drop, Nat.add_sub_cancel_left, h1]
section
variable {P : Program} {ro : Option Nat} {N : Nat} {fr : Fr} {l : List Chunk} {d : Option Nat} {ty : TypeId} {pos : String} {aft : Array Edge} {g : Option (Nat × Bool)}
/-- a slice of several structs -/
theorem e_litNk {T e yb n k : Nat} {zs : List Value} {ps : List (Nat × Operand)} {pvs : List (Nat × Value)} {cs : List Value} (hps : evps fr ps = some pvs) (hk : 0 < n * k) (hn : n * k ≤ 16777216) [c : ST P T e k yb] [cz : ZV P e zs] (hzs : zs.length = k) (hfill : Instr.fill (fun i => some (i * k, k)) (List.toArray (List.replicate n zs).flatten) pvs = some (List.toArray cs)) :
    OpE P ro N fr l ⟨d, .buildSlice T n ps.toArray, ty, pos, aft, g⟩ (fun v' l' => ∃ b, (∀ c, c ∈ l → c.1 ≠ b) ∧ v' = .slice (some ⟨b, 0, none⟩) n n ∧ l' = (b, .cells (List.toArray cs) e (0, 0)) :: l) := opE_of_sl rfl fun ρ hρ => by
  simp only [execOp, sl_bind]
  have e : ps.toArray.map (fun (i, x) => (i, ρ x)) = List.toArray pvs := by rw [← hρ.parts hps]; simp
  rw [e]
  exact sl_buildSlice (cs := cs) c.out cz.out hzs hk hn hfill fun b hb => ⟨b, hb, rfl, rfl⟩
end
end Go.Proofs.YtcjknmpogkofpaaGreat

/- Pointers compared; maps whose keys are flat structs. Laws of my own, no program's. -/
set_option linter.unusedVariables false
set_option linter.unusedSimpArgs false
namespace Go.Proofs.YtcjknmpogkofpaaGreat
open Go.RowKit

theorem eqCells_iff : ∀ {ks : List (Option IntKind)} {a b : List Value}, AllK ks a → AllK ks b → (eqCells a b = true ↔ a = b)
  | [], a, b, h, h' => by cases h; cases h'; simp [eqCells]
  | none :: ks, a, b, h, h' => by
    obtain ⟨_, r, rfl, ⟨p, rfl⟩, h2⟩ := h
    obtain ⟨_, r', rfl, ⟨p', rfl⟩, h2'⟩ := h'
    simp [eqCells, eqCell, eqCells_iff h2 h2']
  | some k :: ks, a, b, h, h' => by
    obtain ⟨_, r, rfl, ⟨p, rfl⟩, h2⟩ := h
    obtain ⟨_, r', rfl, ⟨p', rfl⟩, h2'⟩ := h'
    simp [eqCells, eqCell, eqCells_iff h2 h2']
/-- an entry: the key, the value, the stamp -/
abbrev EntS (κ : Type) := κ × Value × Nat
def mkS {κ : Type} (enc : κ → List Value) (x : EntS κ) : MapEntry := { key := .agg (List.toArray (enc x.1)), val := x.2.1, born := x.2.2 }
abbrev mapS {κ : Type} (enc : κ → List Value) (es : List (EntS κ)) (clock : Nat) : Obj := .map (List.toArray (es.map (mkS enc))) clock
theorem modify_mid {α : Type} (f : α → α) (e : α) (B : List α) : ∀ (A : List α), (A ++ e :: B).modify A.length f = A ++ f e :: B
  | [] => rfl
  | x :: A => by rw [List.cons_append, List.length_cons, List.modify_succ_cons, modify_mid f e B A]; rfl
section
variable {κ : Type} [DecidableEq κ]
def findS (a : κ) : List (EntS κ) → Nat → Option (Nat × Value)
  | [], _ => none
  | e :: es, i => if a = e.1 then some (i, e.2.1) else findS a es (i + 1)
def getS (a : κ) (es : List (EntS κ)) : Option Value := (findS a es 0).map Prod.snd
def setS (a : κ) (v : Value) (clock : Nat) (es : List (EntS κ)) : List (EntS κ) × Nat := match findS a es 0 with
  | some (i, _) => (es.modify i fun x => (x.1, v, x.2.2), clock)
  | none => (es ++ [(a, v, clock)], clock + 1)
def delS (a : κ) (es : List (EntS κ)) : List (EntS κ) := match findS a es 0 with
  | some (i, _) => es.eraseIdx i
  | none => es
theorem findS_add (a : κ) : ∀ (es : List (EntS κ)) (i : Nat), findS a es i = (findS a es 0).map fun p => (p.1 + i, p.2)
  | [], i => rfl
  | e :: es, i => by
    unfold findS
    split
    · simp
    · rw [findS_add a es (i + 1), findS_add a es (0 + 1)]
      cases findS a es 0 with
      | none => rfl
      | some p => simp; omega
theorem getS_cons (a : κ) (e : EntS κ) (es : List (EntS κ)) : getS a (e :: es) = if a = e.1 then some e.2.1 else getS a es := by
  unfold getS
  rw [findS]
  split
  · rfl
  · rw [findS_add, Option.map_map]; cases findS a es 0 <;> rfl
theorem findS_some {a : κ} : ∀ {es : List (EntS κ)} {k : Nat} {v : Value}, findS a es 0 = some (k, v) → ∃ A e B, es = A ++ e :: B ∧ A.length = k ∧ e.1 = a ∧ e.2.1 = v ∧ ∀ x ∈ A, x.1 ≠ a
  | [], k, v, h => by cases h
  | e :: es, k, v, h => by
    rw [findS] at h
    split at h
    · rename_i ha
      cases h
      exact ⟨[], e, es, rfl, rfl, ha.symm, rfl, by simp⟩
    · rename_i ha
      rw [findS_add] at h
      cases h2 : findS a es 0 with
      | none => rw [h2] at h; cases h
      | some p =>
        obtain ⟨k', v'⟩ := p
        rw [h2] at h
        cases h
        obtain ⟨A, e', B, h3, h4, h5, h6, h7⟩ := findS_some h2
        refine ⟨e :: A, e', B, by rw [h3]; rfl, by simp [h4], h5, h6, fun x hx => ?_⟩
        rcases List.mem_cons.1 hx with rfl | hx
        · exact fun e' => ha e'.symm
        · exact h7 x hx
theorem findS_none {a : κ} : ∀ {es : List (EntS κ)}, findS a es 0 = none ↔ ∀ e ∈ es, e.1 ≠ a
  | [] => by simp [findS]
  | e :: es => by
    rw [findS]
    split
    · rename_i h; simp [h]
    · rename_i h
      rw [findS_add, Option.map_eq_none_iff, findS_none]
      simp only [List.mem_cons, forall_eq_or_imp]
      exact ⟨fun h2 => ⟨fun e' => h e'.symm, h2⟩, fun h2 => h2.2⟩
theorem getS_append (a : κ) (A B : List (EntS κ)) : getS a (A ++ B) = (getS a A).or (getS a B) := by
  induction A with
  | nil => rfl
  | cons e A ih => rw [List.cons_append, getS_cons, getS_cons, ih]; split <;> rfl
theorem getS_set (a b : κ) (v : Value) (clock : Nat) (es : List (EntS κ)) : getS b (setS a v clock es).1 = if b = a then some v else getS b es := by
  unfold setS
  cases h : findS a es 0 with
  | none =>
    simp only
    rw [getS_append, getS_cons]
    split
    · rename_i e; subst e
      unfold getS; rw [h]; rfl
    · simp [getS, findS]
  | some p =>
    obtain ⟨k, u⟩ := p
    obtain ⟨A, e, B, rfl, rfl, h1, h2, h3⟩ := findS_some h
    simp only
    have hm : (A ++ e :: B).modify A.length (fun x => (x.1, v, x.2.2)) = A ++ (e.1, v, e.2.2) :: B := modify_mid _ e B A
    rw [hm, getS_append, getS_append, getS_cons, getS_cons, h1]
    by_cases e' : b = a
    · have : getS b A = none := by unfold getS; rw [e', findS_none.2 h3]; rfl
      rw [this, if_pos e', if_pos e']; rfl
    · rw [if_neg e', if_neg e', if_neg e']
structure KeysOk (es : List (EntS κ)) (clock : Nat) : Prop where
  keys : (es.map (·.1)).Nodup
  stamps : (es.map (·.2.2)).Nodup
  below : ∀ e ∈ es, e.2.2 < clock
theorem KeysOk.set {es : List (EntS κ)} {clock : Nat} (h : KeysOk es clock) (a : κ) (v : Value) : KeysOk (setS a v clock es).1 (setS a v clock es).2 := by
  unfold setS
  cases hf : findS a es 0 with
  | none =>
    have hn := findS_none.1 hf
    simp only
    refine ⟨?_, ?_, fun e he => ?_⟩
    · rw [List.map_append, List.nodup_append]
      exact ⟨h.keys, by simp, fun x hx y hy e => by
        obtain ⟨z, hz, rfl⟩ := List.mem_map.1 hx
        have : y = a := by simpa using hy
        exact hn z hz (by rw [e, this])⟩
    · rw [List.map_append, List.nodup_append]
      exact ⟨h.stamps, by simp, fun x hx y hy e => by
        obtain ⟨z, hz, rfl⟩ := List.mem_map.1 hx
        have h1 : y = clock := by simpa using hy
        have h2 := h.below z hz
        omega⟩
    · rcases List.mem_append.1 he with he | he
      · exact Nat.lt_succ_of_lt (h.below e he)
      · rw [List.mem_singleton.1 he]; exact Nat.lt_succ_self _
  | some p =>
    obtain ⟨k, u⟩ := p
    obtain ⟨A, e, B, rfl, rfl, h1, h2, h3⟩ := findS_some hf
    have hm : (A ++ e :: B).modify A.length (fun x => (x.1, v, x.2.2)) = A ++ (e.1, v, e.2.2) :: B := modify_mid _ e B A
    simp only
    rw [hm]
    refine ⟨by simpa using h.keys, by simpa using h.stamps, fun x hx => ?_⟩
    rcases List.mem_append.1 hx with hx | hx
    · exact h.below x (List.mem_append_left _ hx)
    · rcases List.mem_cons.1 hx with rfl | hx
      · exact h.below e (List.mem_append_right _ List.mem_cons_self)
      · exact h.below x (List.mem_append_right _ (List.mem_cons_of_mem _ hx))
theorem KeysOk.del {es : List (EntS κ)} {clock : Nat} (h : KeysOk es clock) (a : κ) : KeysOk (delS a es) clock := by
  unfold delS
  split
  · have hs : (es.eraseIdx ‹_›).Sublist es := List.eraseIdx_sublist ..
    exact ⟨h.keys.sublist (hs.map _), h.stamps.sublist (hs.map _), fun e he => h.below e (hs.subset he)⟩
  · exact h
theorem getS_del {es : List (EntS κ)} {clock : Nat} (h : KeysOk es clock) (a b : κ) : getS b (delS a es) = if b = a then none else getS b es := by
  unfold delS
  cases hf : findS a es 0 with
  | none =>
    simp only
    split
    · rename_i e; subst e; unfold getS; rw [hf]; rfl
    · rfl
  | some p =>
    obtain ⟨k, u⟩ := p
    obtain ⟨A, e, B, rfl, rfl, h1, h2, h3⟩ := findS_some hf
    have hk := h.keys
    rw [List.map_append, List.map_cons, List.nodup_append] at hk
    obtain ⟨_, hk2, _⟩ := hk
    rw [List.nodup_cons] at hk2
    have he : (A ++ e :: B).eraseIdx A.length = A ++ B := by
      rw [List.eraseIdx_append_of_length_le (Nat.le_refl _), Nat.sub_self]; rfl
    simp only
    rw [he, getS_append, getS_append, getS_cons, h1]
    by_cases e' : b = a
    · rw [if_pos e']
      have n1 : getS b A = none := by unfold getS; rw [e', findS_none.2 h3]; rfl
      have n2 : getS b B = none := by
        unfold getS
        rw [e', findS_none.2 fun x hx hxe => hk2.1 (List.mem_map.2 ⟨x, hx, by rw [hxe, h1]⟩)]; rfl
      rw [n1, n2]; rfl
    · rw [if_neg e', if_neg e']
end
section
variable {P : Program} {ro : Option Nat} {N : Nat} {fr : Fr} {R l : List Chunk} {d : Option Nat} {ty : TypeId} {pos : String} {aft : Array Edge} {g : Option (Nat × Bool)} {x y z : Operand} {v u w : Value} {b m n : Nat} {t t2 T kt et : TypeId}
/-- pointers to blocks -/
theorem run_eqp {tp te : TypeId} {j : TypeInfo} {p q : Addr} {ca cb : Array Value} {ta tb : TypeId} {W : World} (hp : P.underlying tp = some (.pointer te)) (hte : P.info? te = some j) (hsz : j.size ≠ 0) (ha : W.heap[p.block]? = some (.cells ca ta (0, 0))) (hb : W.heap[q.block]? = some (.cells cb tb (0, 0))) :
    (binOp .eql tp (.pointer (some p)) (.pointer (some q))).run P W = .ok (.bool (decide (p = q))) W := by
  by_cases h : p = q
  · subst h; rw [run_eql_ptr_same W p hp hte, decide_eq_true rfl]
  · rw [run_eql_ptr_other W hp hte hsz h ha hb, decide_eq_false h]
theorem run_nep {tp te : TypeId} {j : TypeInfo} {p q : Addr} {ca cb : Array Value} {ta tb : TypeId} {W : World} (hp : P.underlying tp = some (.pointer te)) (hte : P.info? te = some j) (hsz : j.size ≠ 0) (ha : W.heap[p.block]? = some (.cells ca ta (0, 0))) (hb : W.heap[q.block]? = some (.cells cb tb (0, 0))) :
    (binOp .neq tp (.pointer (some p)) (.pointer (some q))).run P W = .ok (.bool (!decide (p = q))) W := by
  have h : ∀ d : Nat, (Op.equalIn (d + 1) tp (.pointer (some p)) (.pointer (some q))).run P W = .ok (decide (p = q)) W := fun d => by
    by_cases h : p = q
    · subst h; simp [Op.equalIn, run_underlying hp, sizeOf, typeInfo, hte, run_sameAddr_same]
    · simp [Op.equalIn, run_underlying hp, sizeOf, typeInfo, hte, hsz, run_sameAddr_other W h ha hb, h]
  simp only [binOp]
  simp [Op.equal, Op.maxDepth, h 9999]
theorem q_eqptr {e : Nat} {p q : Addr} {ca cb : Array Value} {ta tb : TypeId} (hx : ev fr x = some (.pointer (some p))) (hy : ev fr y = some (.pointer (some q))) [c : PT P t e] [oc : AG P e n] (hsz : n ≠ 0) (ha : (p.block, Obj.cells ca ta (0, 0)) ∈ R) (hb : (q.block, Obj.cells cb tb (0, 0)) ∈ R) :
    OpQ P ro N fr R ⟨d, .binOp .eql t x y t2, ty, pos, aft, g⟩ (.bool (decide (p = q))) := ⟨fun l hR => ⟨rfl, fun E a W hf hs => by
  have hρ := hf.agrees
  obtain ⟨uu, inf, _, _, hi, hz⟩ := agV_spec oc.out
  have hex : execOp a.eval ⟨d, .binOp .eql t x y t2, ty, pos, aft, g⟩ = (do pure (.value (← binOp .eql t (.pointer (some p)) (.pointer (some q)))) : Sem Next) := by
    simp only [execOp, hρ x _ hx, hρ y _ hy, eqGuard_ptr, pure_bind]
  unfold OpVal
  rw [hex, Sem.run_bind, run_eqp (ptV_spec c.out) hi (by rw [hz]; exact hsz) (hs.has _ (hR _ ha)) (hs.has _ (hR _ hb))]
  exact ⟨l, ⟨rfl, rfl⟩, hs⟩⟩⟩
theorem q_neptr {e : Nat} {p q : Addr} {ca cb : Array Value} {ta tb : TypeId} (hx : ev fr x = some (.pointer (some p))) (hy : ev fr y = some (.pointer (some q))) [c : PT P t e] [oc : AG P e n] (hsz : n ≠ 0) (ha : (p.block, Obj.cells ca ta (0, 0)) ∈ R) (hb : (q.block, Obj.cells cb tb (0, 0)) ∈ R) :
    OpQ P ro N fr R ⟨d, .binOp .neq t x y t2, ty, pos, aft, g⟩ (.bool (!decide (p = q))) := ⟨fun l hR => ⟨rfl, fun E a W hf hs => by
  have hρ := hf.agrees
  obtain ⟨uu, inf, _, _, hi, hz⟩ := agV_spec oc.out
  have hex : execOp a.eval ⟨d, .binOp .neq t x y t2, ty, pos, aft, g⟩ = (do pure (.value (← binOp .neq t (.pointer (some p)) (.pointer (some q)))) : Sem Next) := by
    simp only [execOp, hρ x _ hx, hρ y _ hy, eqGuard_ptr, pure_bind]
  unfold OpVal
  rw [hex, Sem.run_bind, run_nep (ptV_spec c.out) hi (by rw [hz]; exact hsz) (hs.has _ (hR _ ha)) (hs.has _ (hR _ hb))]
  exact ⟨l, ⟨rfl, rfl⟩, hs⟩⟩⟩
end
end Go.Proofs.YtcjknmpogkofpaaGreat

/- Maps whose keys are flat structs: the operations. Laws of my own, no program's. -/
set_option linter.unusedVariables false
set_option linter.unusedSimpArgs false
set_option linter.unusedSectionVars false
namespace Go.Proofs.YtcjknmpogkofpaaGreat
open Go.RowKit

section
variable {P : Program} {ro : Option Nat} {N : Nat} {fr : Fr} {R l : List Chunk} {d : Option Nat} {ty : TypeId} {pos : String} {aft : Array Edge} {g : Option (Nat × Bool)} {x y z : Operand} {v u w : Value} {b m n : Nat} {t t2 T kt et : TypeId}
theorem sl_forU {β : Type} (body : β → PUnit → Sem (ForInStep PUnit)) {Q : PUnit → List Chunk → Prop} {l : List Chunk} : ∀ (xs : List β), (∀ x ∈ xs, ∀ (Q : ForInStep PUnit → List Chunk → Prop) l, sl P (body x ()) l Q ↔ Q (.yield ()) l) → (sl P (forIn xs PUnit.unit body) l Q ↔ Q () l)
  | [], _ => by simp only [List.forIn_nil, sl_pure]
  | x :: xs, h => by
    rw [List.forIn_cons, sl_bind, h x List.mem_cons_self]
    exact sl_forU body xs fun y hy => h y (List.mem_cons_of_mem _ hy)
theorem sl_checkIn {empty : Bool} : ∀ (n d : Nat) (t : TypeId) (ks : List (Option IntKind)), eqK P n t = some ks → n ≤ d → ∀ (xs : List Value), AllK ks xs → ∀ (Q : Unit → List Chunk → Prop) (l : List Chunk), (sl P (Instr.checkKey empty d t (valOf P t xs)) l Q ↔ Q () l) := by
  intro n
  induction n with
  | zero => intro d t ks h; cases h
  | succ n ih =>
    intro d t ks h hd xs hx Q l
    obtain ⟨d, rfl⟩ : ∃ e, d = e + 1 := ⟨d - 1, by omega⟩
    unfold eqK at h
    split at h
    · rename_i k hu
      cases h
      obtain ⟨_, _, rfl, ⟨a, rfl⟩, rfl⟩ := hx
      simp only [valOf, aggT, hu, Bool.false_eq_true, if_false, List.headD_cons]
      unfold Instr.checkKey
      rw [sl_under hu]
      exact Iff.rfl
    · rename_i hu
      cases h
      obtain ⟨_, _, rfl, ⟨a, rfl⟩, rfl⟩ := hx
      simp only [valOf, aggT, hu, Bool.false_eq_true, if_false, List.headD_cons]
      unfold Instr.checkKey
      rw [sl_under hu]
      exact Iff.rfl
    · rename_i fs hu
      by_cases hst : P.stoodInHeld t = true
      · rw [if_pos hst] at h; cases h
      rw [if_neg hst] at h
      obtain ⟨rest, hr, hrest⟩ := eqK_fields n xs xs fs.toList [] ks h
      obtain ⟨g1, g2⟩ := hrest hx hx
      have hag : aggT P t = true := by unfold aggT; rw [hu]
      simp only [valOf, hag, if_true]
      unfold Instr.checkKey
      rw [sl_under hu]
      simp only
      rw [← Array.forIn_toList]
      rw [sl_bind]
      refine (sl_forU _ fs.toList fun f hf Q l => ?_).trans Iff.rfl
      obtain ⟨kf, ok⟩ := g1 f hf
      rw [if_pos ok.named, sl_piece ok.kinds ok.size xs f.offset ok.x, sl_bind, ih d f.type kf ok.kinds (by omega) _ ok.x]
      exact Iff.rfl
    · rename_i len e hu
      obtain ⟨kf, hk, hk2⟩ := Option.bind_eq_some_iff.1 h
      by_cases hs : (P.info? e).map (·.size) = some kf.length
      · rw [if_pos hs] at hk2
        cases hk2
        obtain ⟨g1, g2⟩ := eqK_rows kf len xs xs hx hx
        have hag : aggT P t = true := by unfold aggT; rw [hu]
        have hi : ∃ inf, P.info? e = some inf ∧ inf.size = kf.length := by
          cases hh : P.info? e with
          | none => rw [hh] at hs; cases hs
          | some inf => rw [hh] at hs; exact ⟨inf, rfl, by simpa using hs⟩
        obtain ⟨inf, hi1, hi2⟩ := hi
        simp only [valOf, hag, if_true]
        unfold Instr.checkKey
        rw [sl_under hu]
        simp only
        rw [Std.Legacy.Range.forIn_eq_forIn_range']
        have hsz : Std.Legacy.Range.size [:len] = len := by simp [Std.Legacy.Range.size]
        rw [hsz]
        rw [sl_bind]
        refine (sl_forU _ _ fun i hf Q l => ?_).trans Iff.rfl
        have hf : i ∈ List.range' 0 len := hf
        have hil : i < len := by have := List.mem_range'_1.1 hf; omega
        obtain ⟨o1, _⟩ := g1 i hil
        rw [sl_sizeOf hi1, hi2, sl_piece hk hs xs _ o1, sl_bind, ih d e kf hk (by omega) _ o1]
        exact Iff.rfl
      · rw [if_neg hs] at hk2; cases hk2
    · cases h
/-- keys told by their cells -/
structure EncOk {κ : Type} (enc : κ → List Value) (ks : List (Option IntKind)) : Prop where
  kinds : ∀ a, AllK ks (enc a)
  inj : ∀ a b, enc a = enc b → a = b
variable {κ : Type} [DecidableEq κ] {enc : κ → List Value} {ks : List (Option IntKind)} {a : κ} {es : List (EntS κ)} {clock : Nat}
theorem sl_checkKeyS {Q : Unit → List Chunk → Prop} {empty : Bool} (h : eqV P kt = some ks) (he : EncOk enc ks) : sl P (Instr.checkKey empty 10000 kt (.agg (List.toArray (enc a)))) l Q ↔ Q () l := by
  obtain ⟨h1, _, h3⟩ := eqV_spec h
  have := sl_checkIn (empty := empty) 20 10000 kt ks h3 (by decide) (enc a) (he.kinds a) Q l
  unfold valOf at this
  rw [h1] at this
  exact this
theorem sl_equalS {Q : Bool → List Chunk → Prop} (h : eqV P kt = some ks) (he : EncOk enc ks) (a b : κ) : sl P (Op.equal kt (.agg (List.toArray (enc a))) (.agg (List.toArray (enc b)))) l Q ↔ Q (decide (a = b)) l := by
  obtain ⟨h1, _, h3⟩ := eqV_spec h
  have := sl_eqIn 20 Op.maxDepth kt ks h3 (by decide) (enc a) (enc b) (he.kinds a) (he.kinds b) Q l
  unfold valOf at this
  rw [h1] at this
  have e : eqCells (enc a) (enc b) = decide (a = b) := by
    by_cases hab : a = b
    · rw [decide_eq_true hab]; exact (eqCells_iff (he.kinds a) (he.kinds b)).2 (by rw [hab])
    · rw [decide_eq_false hab]
      cases hc : eqCells (enc a) (enc b) with
      | false => rfl
      | true => exact absurd (he.inj a b ((eqCells_iff (he.kinds a) (he.kinds b)).1 hc)) hab
  rw [e] at this
  exact this
theorem sl_findAsking {Q : Option (Nat × Value) → List Chunk → Prop} (h : eqV P kt = some ks) (he : EncOk enc ks) (a : κ) : ∀ (es : List (EntS κ)) (i : Nat), sl P (Instr.findAsking kt (.agg (List.toArray (enc a))) (es.map (mkS enc)) i) l Q ↔ Q (findS a es i) l
  | [], i => Iff.rfl
  | e :: es, i => by
    rw [List.map_cons]
    unfold Instr.findAsking
    simp only [mkS]
    rw [sl_bind, sl_equalS h he, findS]
    by_cases hc : a = e.1
    · rw [decide_eq_true hc, if_pos hc]; exact Iff.rfl
    · rw [decide_eq_false hc, if_neg hc]
      exact sl_findAsking h he a es (i + 1)
theorem sl_findKeyS {Q : Option (Nat × Value) → List Chunk → Prop} (h : eqV P kt = some ks) (he : EncOk enc ks) : sl P (Instr.findKey kt (.agg (List.toArray (enc a))) (es.map (mkS enc))) l Q ↔ Q (findS a es 0) l := by
  obtain ⟨h1, _, _⟩ := eqV_spec h
  unfold Instr.findKey
  unfold aggT at h1
  cases hu : P.underlying kt with
  | none => rw [hu] at h1; cases h1
  | some td =>
    rw [sl_under hu]
    cases es with
    | nil => exact Iff.rfl
    | cons e es =>
      have hn : Instr.findNow td (.agg (List.toArray (enc a))) ((e :: es).map (mkS enc)) 0 = none := by
        rw [List.map_cons]
        unfold Instr.findNow
        rw [hu] at h1
        cases td <;> first | rfl | cases h1
      rw [hn]
      exact sl_findAsking h he a (e :: es) 0
theorem q_lookupS {zv : Value} (hx : ev fr x = some (.map (some m))) (hy : ev fr y = some (.agg (List.toArray (enc a)))) [c : MT P T kt et] [ci : EQ P kt ks] [cz : ZO P et zv] (he : EncOk enc ks) (hm : (m, mapS enc es clock) ∈ R) : OpQ P ro N fr R ⟨d, .lookup T x y false, ty, pos, aft, g⟩ ((getS a es).getD zv) := opQ_of_sl rfl fun ρ l hρ hR => by
  simp only [execOp, hρ x _ hx, hρ y _ hy, sl_bind]
  unfold Instr.lookup
  rw [sl_under (mtV_spec c.out)]
  simp only [sl_bind]
  refine ⟨_, hR _ hm, rfl, ?_⟩
  simp only [sl_pure, sl_pure', sl_bind]
  rw [sl_checkKeyS ci.out he, sl_findKeyS ci.out he]
  unfold getS
  cases h : findS a es 0 with
  | none => simp only [sl_bind]; rw [sl_zero cz.out]; exact ⟨rfl, rfl⟩
  | some p => exact ⟨rfl, rfl⟩
theorem same_cells : ∀ {ks : List (Option IntKind)} {a : List Value} (n : Nat), AllK ks a → (a.zip a).all (fun p => Instr.sameBits (n + 1) p.1 p.2) = true
  | [], a, n, h => by cases h; rfl
  | none :: ks, a, n, h => by obtain ⟨c, r, rfl, ⟨p, rfl⟩, h2⟩ := h; rw [List.zip_cons_cons, List.all_cons, same_cells n h2]; simp [Instr.sameBits]
  | some k :: ks, a, n, h => by obtain ⟨c, r, rfl, ⟨p, rfl⟩, h2⟩ := h; rw [List.zip_cons_cons, List.all_cons, same_cells n h2]; simp [Instr.sameBits]
theorem sl_keyStaysS {Q : Value → List Chunk → Prop} (he : EncOk enc ks) : sl P (Instr.keyThatStays (.agg (List.toArray (enc a))) (.agg (List.toArray (enc a)))) l Q ↔ Q (.agg (List.toArray (enc a))) l := by
  unfold Instr.keyThatStays
  have h : Instr.sameBits 10000 (.agg (List.toArray (enc a))) (.agg (List.toArray (enc a))) = true := by
    unfold Instr.sameBits
    simp only [beq_self_eq_true, Bool.true_and]
    exact same_cells 9998 (he.kinds a)
  rw [if_pos h]
  exact Iff.rfl
theorem modify_keyS (A B : List (EntS κ)) (e : EntS κ) (v : Value) : (List.toArray ((A ++ e :: B).map (mkS enc))).modify A.length (fun x => { key := .agg (List.toArray (enc e.1)), val := v, born := x.born }) = List.toArray ((A ++ (e.1, v, e.2.2) :: B).map (mkS enc)) := by
  apply Array.toList_inj.1
  rw [Array.toList_modify]
  simp only [List.map_append, List.map_cons]
  have := modify_mid (fun x : MapEntry => { key := .agg (List.toArray (enc e.1)), val := v, born := x.born }) (mkS enc e) (B.map (mkS enc)) (A.map (mkS enc))
  rw [List.length_map] at this
  rw [this]; rfl
theorem e_mapUpdateS {l' : List Chunk} (hx : ev fr x = some (.map (some m))) (hy : ev fr y = some (.agg (List.toArray (enc a)))) (hz : ev fr z = some v) [c : MT P T kt et] [ci : EQ P kt ks] (he : EncOk enc ks) (hu : Upd l m (mapS enc es clock) (mapS enc (setS a v clock es).1 (setS a v clock es).2) l') :
    OpE P ro N fr l ⟨d, .mapUpdate T x y z, ty, pos, aft, g⟩ (fun v' l2 => v' = undef ∧ l2 = l') := opE_of_sl rfl fun ρ hρ => by
  simp only [execOp, hρ x _ hx, hρ y _ hy, hρ z _ hz]
  rw [sl_bind]
  unfold Instr.mapUpdate
  rw [sl_under (mtV_spec c.out)]
  simp only [sl_bind]
  refine ⟨_, hu.mem, rfl, ?_⟩
  simp only [sl_pure, sl_pure', sl_bind]
  rw [sl_checkKeyS ci.out he, sl_findKeyS ci.out he]
  unfold setS at hu
  cases h : findS a es 0 with
  | none =>
    rw [h] at hu
    simp only at hu ⊢
    refine ⟨mapS enc es clock, l', ?_, rfl, ⟨rfl, rfl⟩⟩
    have e : (List.toArray (es.map (mkS enc))).push { key := .agg (List.toArray (enc a)), val := v, born := clock } = List.toArray ((es ++ [(a, v, clock)]).map (mkS enc)) := by simp [mkS]
    rw [e]
    exact hu
  | some p =>
    obtain ⟨i, u⟩ := p
    rw [h] at hu
    simp only at hu ⊢
    obtain ⟨A, e, B, rfl, rfl, h1, h2, h3⟩ := findS_some h
    subst h1
    have hk : (((List.toArray ((A ++ e :: B).map (mkS enc)))[A.length]?).map (·.key)).getD (.agg (List.toArray (enc e.1))) = .agg (List.toArray (enc e.1)) := by simp [mkS]
    simp only [sl_bind]
    rw [hk, sl_keyStaysS he]
    refine ⟨mapS enc (A ++ e :: B) clock, l', ?_, rfl, ⟨rfl, rfl⟩⟩
    rw [modify_keyS, ← modify_mid (fun x => (x.1, v, x.2.2)) e B A]
    exact hu
theorem e_deleteS {l' : List Chunk} {T2 : TypeId} (hx : ev fr x = some (.map (some m))) (hy : ev fr y = some (.agg (List.toArray (enc a)))) [c : MT P T kt et] [ci : EQ P kt ks] (he : EncOk enc ks) (hu : Upd l m (mapS enc es clock) (mapS enc (delS a es) clock) l') :
    OpE P ro N fr l ⟨d, .call { callee := .builtin .delete, args := #[x, y], argTypes := #[T, T2] }, ty, pos, aft, g⟩ (fun v' l2 => v' = .tuple #[] ∧ l2 = l') := opE_of_sl rfl fun ρ hρ => by
  simp only [execOp, resolve, sl_bind, sl_pure, invoke, builtin, List.map_toArray, List.map_cons, List.map_nil, hρ x _ hx, hρ y _ hy]
  unfold Builtin.delete_
  simp only [List.getElem?_toArray, List.getElem?_cons_zero, List.getElem?_cons_succ, sl_bind]
  rw [sl_under' (mtV_spec c.out)]
  simp only [sl_bind]
  refine ⟨_, hu.mem, rfl, ?_⟩
  simp only [sl_pure, sl_pure', sl_bind]
  rw [sl_checkKeyS ci.out he, sl_findKeyS ci.out he]
  unfold delS at hu
  cases h : findS a es 0 with
  | none =>
    rw [h] at hu
    exact ⟨mapS enc es clock, l', hu, rfl, ⟨rfl, rfl⟩⟩
  | some p =>
    obtain ⟨i, u⟩ := p
    rw [h] at hu
    refine ⟨mapS enc es clock, l', ?_, rfl, ⟨rfl, rfl⟩⟩
    have e : (List.toArray (es.map (mkS enc))).eraseIdxIfInBounds i = List.toArray ((es.eraseIdx i).map (mkS enc)) := by
      apply Array.toList_inj.1
      simp only [List.eraseIdxIfInBounds_toArray]
      rw [List.eraseIdx_eq_take_drop_succ, List.eraseIdx_eq_take_drop_succ, List.map_append, List.map_take, List.map_drop]
    rw [e]
    exact hu
/-- an entry that is there, looked up to be written -/
theorem e_mapEntryS {A B : List (EntS κ)} {e : EntS κ} {l' : List Chunk} (hx : ev fr x = some (.map (some m))) (hy : ev fr y = some (.agg (List.toArray (enc a)))) [c : MT P T kt et] [ci : EQ P kt ks] (he : EncOk enc ks) (hes : es = A ++ e :: B) (h1 : e.1 = a) (h3 : ∀ x ∈ A, x.1 ≠ a) (hm : (m, mapS enc es clock) ∈ l) :
    OpE P ro N fr l ⟨d, .mapEntry T x y, ty, pos, aft, g⟩ (fun v' l2 => v' = .tuple #[e.2.1, .int .i64 e.2.2] ∧ l2 = l) := opE_of_sl rfl fun ρ hρ => by
  subst h1 hes
  simp only [execOp, hρ x _ hx, hρ y _ hy, sl_bind]
  unfold Instr.mapEntry
  rw [sl_under (mtV_spec c.out)]
  simp only [sl_bind]
  refine ⟨_, hm, rfl, ?_⟩
  simp only [sl_pure, sl_pure', sl_bind]
  have hf : findS e.1 (A ++ e :: B) 0 = some (A.length, e.2.1) := by
    have : ∀ (A : List (EntS κ)) (i : Nat), (∀ x ∈ A, x.1 ≠ e.1) → findS e.1 (A ++ e :: B) i = some (i + A.length, e.2.1) := by
      intro A
      induction A with
      | nil => intro i _; rw [List.nil_append, findS, if_pos rfl]; rfl
      | cons z A ih =>
        intro i hA
        rw [List.cons_append, findS, if_neg (fun h => hA z List.mem_cons_self h.symm), ih (i + 1) fun x hx => hA x (List.mem_cons_of_mem _ hx), List.length_cons]
        congr 2; omega
    rw [this A 0 h3, Nat.zero_add]
  rw [sl_checkKeyS ci.out he, sl_findKeyS ci.out he, hf]
  have hk : (((List.toArray ((A ++ e :: B).map (mkS enc)))[A.length]?).map (·.key)).getD (.agg (List.toArray (enc e.1))) = .agg (List.toArray (enc e.1)) := by simp [mkS]
  have hb : (((List.toArray ((A ++ e :: B).map (mkS enc)))[A.length]?).map (fun x => (x.born : Int))).getD 0 = (e.2.2 : Int) := by simp [mkS]
  simp only [sl_bind]
  rw [hk, sl_keyStaysS he]
  obtain ⟨l2, hl2⟩ : ∃ l2, Upd l m (mapS enc (A ++ e :: B) clock) (mapS enc (A ++ e :: B) clock) l2 := by
    clear hρ
    induction l with
    | nil => cases hm
    | cons c l ih =>
      by_cases hc : c = (m, mapS enc (A ++ e :: B) clock)
      · subst hc; exact ⟨_, .here⟩
      · rcases List.mem_cons.1 hm with h | h
        · exact absurd h.symm hc
        · obtain ⟨l2, h2⟩ := ih h; exact ⟨_, .there h2⟩
  refine ⟨mapS enc (A ++ e :: B) clock, l, ?_, rfl, ?_⟩
  · have e2 : (List.toArray ((A ++ e :: B).map (mkS enc))).modify A.length (fun x => { key := .agg (List.toArray (enc e.1)), val := x.val, born := x.born }) = List.toArray ((A ++ e :: B).map (mkS enc)) := by
      apply Array.toList_inj.1
      rw [Array.toList_modify]
      simp only [List.map_append, List.map_cons]
      have := modify_mid (fun x : MapEntry => { key := .agg (List.toArray (enc e.1)), val := x.val, born := x.born }) (mkS enc e) (B.map (mkS enc)) (A.map (mkS enc))
      rw [List.length_map] at this
      rw [this]; rfl
    rw [e2]
    have := hl2.same
    subst this
    exact hl2
  · simp only [sl_pure, sl_pure']
    refine ⟨?_, rfl⟩
    show Value.tuple _ = _
    congr 3
    first | exact congrArg goInt hb | (unfold goInt; rw [← hb])
theorem e_entryStoreS {A B : List (EntS κ)} {e : EntS κ} {l' : List Chunk} (hx : ev fr x = some (.map (some m))) (hy : ev fr y = some (.int .i64 (e.2.2 : Nat))) (hz : ev fr z = some v) (hes : es = A ++ e :: B) (h3 : ∀ x ∈ A, x.2.2 ≠ e.2.2) (hu : Upd l m (mapS enc es clock) (mapS enc (A ++ (e.1, v, e.2.2) :: B) clock) l') :
    OpE P ro N fr l ⟨d, .entryStore T x y z, ty, pos, aft, g⟩ (fun v' l2 => v' = undef ∧ l2 = l') := opE_of_sl rfl fun ρ hρ => by
  subst hes
  simp only [execOp, hρ x _ hx, hρ y _ hy, hρ z _ hz]
  rw [sl_bind]
  unfold Instr.entryStore
  simp only [sl_bind]
  refine ⟨_, hu.mem, rfl, ?_⟩
  simp only [sl_pure, sl_pure', sl_bind, asInt, asIntOf]
  have hf : (List.toArray ((A ++ e :: B).map (mkS enc))).findIdx? (fun x => (x.born : Int) == (e.2.2 : Int)) = some A.length := by
    rw [List.findIdx?_toArray]
    clear hu hρ
    induction A with
    | nil => simp [mkS, List.findIdx?_cons]
    | cons z A ih =>
      have hz : ¬ z.2.2 = e.2.2 := h3 z List.mem_cons_self
      rw [List.cons_append, List.map_cons, List.findIdx?_cons, ih fun x hx => h3 x (List.mem_cons_of_mem _ hx)]
      have : (((mkS enc z).born : Int) == (e.2.2 : Int)) = false := by simp [mkS]; omega
      rw [this]; rfl
  rw [hf]
  refine ⟨mapS enc (A ++ e :: B) clock, l', ?_, rfl, ⟨rfl, rfl⟩⟩
  have e2 : (List.toArray ((A ++ e :: B).map (mkS enc))).modify A.length (fun x => { key := x.key, val := v, born := x.born }) = List.toArray ((A ++ (e.1, v, e.2.2) :: B).map (mkS enc)) := by
    apply Array.toList_inj.1
    rw [Array.toList_modify]
    simp only [List.map_append, List.map_cons]
    have := modify_mid (fun x : MapEntry => { key := x.key, val := v, born := x.born }) (mkS enc e) (B.map (mkS enc)) (A.map (mkS enc))
    rw [List.length_map] at this
    rw [this]; rfl
  rw [e2]
  exact hu
end
end Go.Proofs.YtcjknmpogkofpaaGreat

/- Small laws that many chapters want: effects under guards, blocks in another order. Laws of my own, no program's. -/
set_option linter.unusedVariables false
set_option linter.unusedSimpArgs false
namespace Go.Proofs.YtcjknmpogkofpaaGreat
open Go.RowKit

section
variable {P : Program} {ro : Option Nat} {N : Nat} {E : World} {ops : Array Oper} {Q : Exit → Act → World → Prop} {R l : List Chunk} {tbl : List (List Nat)} {sp : Spec} {pl : List PlanOp} {fr : Fr} {ds : List Deferred} {i : Nat} {o : Oper} {K : Value → List Chunk → Prop}
theorem pl_geS {d : Nat} (h : OpE P ro N fr l o K) (hw : gst ops fr o.guard = some true) (hd : o.dst = some d) (hb : Nat.blt d N = true) (hR : ∀ v l', K v l' → (∀ c, c ∈ R → c ∈ l')) (hS : ∀ v l', K v l' → ∀ x, x ∈ sp → ancOf tbl i x.1 = false → ∀ c, c ∈ x.2 → c ∈ l') (hk : ∀ v l', K v l' → PlanS P ro N E ops Q R tbl none sp pl ((d, v) :: fr) ds l') : PlanS P ro N E ops Q R tbl none sp ((i, false, o) :: pl) fr ds l := by
  rcases gst_some hw with ⟨h1, _⟩ | ⟨j, b, oj, dj, b', h1, h2, h3, h4, h5⟩
  · exact pl_eS h h1 hd hb hR hS hk
  · have : b' = b := by simpa using h5
    subst this
    exact .ge h h1 h2 h3 h4 (by rw [hd]; exact hb) hR hS fun v l' hkv => by rw [hd]; exact hk v l' hkv
end
theorem sing_mem {c : Chunk} {l : List Chunk} (h : c ∈ l) : ∀ x, x ∈ [c] → x ∈ l := fun x hx => by rw [List.mem_singleton.1 hx]; exact h
theorem Keep.in_mid (A B C : List Chunk) : Keep (A ++ (B ++ C)) (B ++ (A ++ C)) := Keep.of_perm (List.perm_append_comm_assoc A B C)
theorem keep_new (x : Chunk) (c2 cs G : List Chunk) : Keep (c2 ++ (x :: (cs ++ G))) ((x :: c2) ++ G) :=
  ⟨cs, by
    have h1 : (c2 ++ (x :: (cs ++ G))).Perm (x :: (c2 ++ (cs ++ G))) := List.perm_middle
    have h2 : (c2 ++ (cs ++ G)).Perm (cs ++ (c2 ++ G)) := List.perm_append_comm_assoc c2 cs G
    exact (h1.trans ((h2.cons x).trans List.perm_middle.symm))⟩
theorem keep_mid2 (A B l : List Chunk) (x : Chunk) : Keep (A ++ (B ++ (x :: l))) (A ++ (B ++ l)) :=
  ⟨[x], (((List.perm_middle (l₁ := B)).append_left A).trans List.perm_middle).trans (.refl _)⟩
theorem keep_in2 (x : Chunk) (A B l : List Chunk) : Keep (x :: (A ++ (B ++ l))) (A ++ (B ++ (x :: l))) :=
  .of_perm (((List.perm_middle (l₁ := B)).append_left A).trans List.perm_middle).symm
theorem num_any (x : Int) (l : List Chunk) : Fn Tryz.prog 7 [.int .i64 x] l fun v l' => v = .int .i64 x ∧ l' = l := by
  refine fn_of_body Tryz.func7 rfl rfl fun E => ?_
  simp only [argF, Tryz.ntmps7]
  refine gz ?_
  exact k_ret [] rfl .refl (by exact zRes) ⟨rfl, rfl⟩
theorem Fn.mvL {P : Program} {f : FuncId} {args : List Value} {A F : List Chunk} {Kv : Value → Prop} {I : List Chunk → Prop} (X : List Chunk) (h : Fn P f args (A ++ (X ++ F)) fun v l' => Kv v ∧ ∃ A', I A' ∧ l' = A' ++ (X ++ F)) :
    Fn P f args (X ++ (A ++ F)) fun v l' => Kv v ∧ ∃ A', I A' ∧ l' = X ++ (A' ++ F) :=
  Fn.re (Keep.in_mid X A F) h fun v l' ⟨h1, A', h2, h3⟩ => ⟨_, by rw [h3]; exact Keep.in_mid A' X F, h1, A', h2, rfl⟩
theorem nodup_of_map {α β : Type} {f : α → β} : ∀ {l : List α}, (l.map f).Nodup → l.Nodup
  | [], _ => List.nodup_nil
  | x :: l, h => by
    rw [List.map_cons, List.nodup_cons] at h
    exact List.nodup_cons.2 ⟨fun hx => h.1 (List.mem_map.2 ⟨x, hx, rfl⟩), nodup_of_map h.2⟩
theorem nd_stamp {α β : Type} {f : α → β} : ∀ {l : List α} {x y : α}, (l.map f).Nodup → x ∈ l → y ∈ l → f x = f y → x = y
  | [], _, _, _, h, _, _ => by cases h
  | z :: l, x, y, h, hx, hy, e => by
    rw [List.map_cons, List.nodup_cons] at h
    rcases List.mem_cons.1 hx with h1 | h1 <;> rcases List.mem_cons.1 hy with h2 | h2
    · rw [h1, h2]
    · exact absurd (List.mem_map.2 ⟨y, h2, by rw [← e, h1]⟩) h.1
    · exact absurd (List.mem_map.2 ⟨x, h1, by rw [e, h2]⟩) h.1
    · exact nd_stamp h.2 h1 h2 e
end Go.Proofs.YtcjknmpogkofpaaGreat

/- Shifts and bits; slices made. Laws of my own, no program's. -/
set_option linter.unusedVariables false
set_option linter.unusedSimpArgs false
namespace Go.Proofs.YtcjknmpogkofpaaGreat
open Go.RowKit

section
variable {P : Program} {ro : Option Nat} {N : Nat} {fr : Fr} {R l : List Chunk} {d : Option Nat} {ty t t2 : TypeId} {pos : String} {aft : Array Edge} {g : Option (Nat × Bool)} {x y : Operand} {k k' : IntKind} {i : Int} {n a b : Nat}
theorem q_shr (hx : ev fr x = some (.int k i)) (hy : ev fr y = some (.int k' (n : Nat))) (hn : n ≤ k.bits) : OpQ P ro N fr R ⟨d, .binOp .shr t x y t2, ty, pos, aft, g⟩ (.int k (i / 2 ^ n)) :=
  q_bin hx hy (fun _ _ => eqGuard_int _ _ _ _ _) (by
    have h1 : ¬ ((n : Nat) : Int) < 0 := by omega
    have h2 : i.fdiv (2 ^ n) = i / 2 ^ n := Int.fdiv_eq_ediv_of_nonneg _ (by have : (0 : Int) ≤ ((2 ^ n : Nat) : Int) := Int.natCast_nonneg _; simpa using this)
    simp only [binOp, Op.shift, if_neg h1, Int.toNat_natCast, Nat.min_eq_left hn, h2])
theorem q_shl (hx : ev fr x = some (.int k i)) (hy : ev fr y = some (.int k' (n : Nat))) (hn : n ≤ k.bits) : OpQ P ro N fr R ⟨d, .binOp .shl t x y t2, ty, pos, aft, g⟩ (.int k (k.wrap (i * 2 ^ n))) :=
  q_bin hx hy (fun _ _ => eqGuard_int _ _ _ _ _) (by
    have h1 : ¬ ((n : Nat) : Int) < 0 := by omega
    simp only [binOp, Op.shift, if_neg h1, Int.toNat_natCast, Nat.min_eq_left hn])
theorem wrapN {a : Nat} (h : a < 18446744073709551616) : IntKind.u64.wrap (a : Int) = (a : Int) := by
  simp [IntKind.wrap, IntKind.signed, IntKind.bits]; omega
theorem q_and (hx : ev fr x = some (.int .u64 (a : Nat))) (hy : ev fr y = some (.int .u64 (b : Nat))) (ha : a < 18446744073709551616) (hb : b < 18446744073709551616) : OpQ P ro N fr R ⟨d, .binOp .and t x y t2, ty, pos, aft, g⟩ (.int .u64 ((a &&& b : Nat) : Int)) :=
  q_bin hx hy (fun _ _ => eqGuard_int _ _ _ _ _) (by
    have e1 : (BitVec.ofInt IntKind.u64.bits ((a : Nat) : Int)).toNat = a := by
      show (BitVec.ofInt 64 ((a : Nat) : Int)).toNat = a
      rw [BitVec.ofInt_natCast, BitVec.toNat_ofNat, Nat.mod_eq_of_lt ha]
    have e2 : (BitVec.ofInt IntKind.u64.bits ((b : Nat) : Int)).toNat = b := by
      show (BitVec.ofInt 64 ((b : Nat) : Int)).toNat = b
      rw [BitVec.ofInt_natCast, BitVec.toNat_ofNat, Nat.mod_eq_of_lt hb]
    simp only [binOp, Op.intBits, BitVec.toNat_and, e1, e2]
    rw [wrapN (Nat.lt_of_le_of_lt Nat.and_le_left ha)]
    rfl)
theorem row_zeros {zv : Value} {zs : List Value} {n k : Nat} (hzv : zv.cells = List.toArray zs) (hzs : zs.length = k) (hk : 0 < n * k) : (Array.range (n * k)).map (fun j => zv.cells[j % zv.cells.size]!) = List.toArray (List.replicate n zs).flatten := by
  have hk0 : 0 < k := Nat.pos_of_ne_zero fun e => by subst e; simp at hk
  apply Array.toList_inj.1
  apply List.ext_getElem?
  intro j
  rw [hzv]
  have hl : (List.replicate n zs).flatten.length = n * k := by simp [hzs]
  by_cases hj : j < n * k
  · have : (List.replicate n zs).flatten[j]? = zs[j % k]? := by
      clear hl hk hk0
      induction n generalizing j with
      | zero => omega
      | succ n ih =>
        rw [List.replicate_succ, List.flatten_cons]
        by_cases hjk : j < k
        · rw [List.getElem?_append_left (by omega), Nat.mod_eq_of_lt hjk]
        · rw [List.getElem?_append_right (by omega), hzs, ih (j - k) (by have := Nat.succ_mul n k; simp only [Nat.succ_eq_add_one] at this; omega), ← Nat.mod_eq_sub_mod (by omega)]
    simp only [Array.toList_map, Array.toList_range, List.getElem?_map, List.getElem?_range hj, Option.map_some]
    rw [this]
    have hlt : j % k < zs.length := by rw [hzs]; exact Nat.mod_lt _ hk0
    simp [hzs, List.getElem?_eq_getElem hlt, List.getElem!_eq_getElem?_getD]
  · rw [List.getElem?_eq_none (by simp; omega), List.getElem?_eq_none (by rw [hl]; omega)]
theorem e_makeSlice {T e kk yb : Nat} {zs : List Value} {xs : List Value} (hx : ev fr x = some (.int .i64 (n : Nat))) [c : ST P T e kk yb] [cz : ZV P e zs] (hzs : zs.length = kk) (hk : 0 < n * kk) (hn : n ≤ 1000000) (hby : yb ≤ 1000) (hxs : xs = (List.replicate n zs).flatten) :
    OpE P ro N fr l ⟨d, .makeSlice T x x, ty, pos, aft, g⟩ (fun v' l' => ∃ b, (∀ c, c ∈ l → c.1 ≠ b) ∧ v' = .slice (some ⟨b, 0, none⟩) n n ∧ l' = (b, .cells (List.toArray xs) e (0, 0)) :: l) := opE_of_sl rfl fun ρ hρ => by
  subst hxs
  obtain ⟨inf, u1, u2, u3, u4⟩ := stV_spec c.out
  obtain ⟨inf', zv, z1, z2, z3⟩ := zvV_spec cz.out
  rw [u2] at z1; cases z1
  simp only [execOp, hρ x _ hx]
  unfold Instr.makeSlice
  rw [sl_bind, sl_under u1]
  have hw : IntKind.i64.wrap ((n : Nat) : Int) = n := i64_in _ ⟨by omega, by omega⟩
  have hb : inf.bytes * n ≤ 1000000000 := by
    rw [u4]; exact Nat.le_trans (Nat.mul_le_mul hby hn) (by omega)
  have hb2 : ((inf.bytes : Nat) : Int) * ((n : Nat) : Int) ≤ 1000000000 := by rw [← Int.natCast_mul]; omega
  simp only [asInt, asIntOf, pure_bind, hw]
  rw [sl_info u2]
  have ht : (decide (((n : Nat) : Int) < 0) || decide (((inf.bytes : Nat) : Int) * ((n : Nat) : Int) > 2 ^ 48)) = false := by
    rw [decide_eq_false (by omega), decide_eq_false (by omega)]; rfl
  simp only [ht, Bool.false_or]
  rw [show (decide (((n : Nat) : Int) < 0) || decide (((n : Nat) : Int) > ((n : Nat) : Int))) = false by rw [decide_eq_false (by omega), decide_eq_false (by omega)]; rfl]
  simp only [Bool.false_eq_true, if_false, Int.toNat_natCast]
  unfold askRoom roomBytes
  have hr : n * inf.bytes ≤ 1000000000 := by rw [Nat.mul_comm]; exact hb
  rw [if_neg (by omega), sl_bind, sl_pure, sl_sizeOf u2, u3]
  have hk1 : ¬ n * kk = 0 := by omega
  simp only [hk1, if_false, zeroValue, sl_bind]
  rw [← sl_bind, sl_info u2, z2]
  simp only [sl_pure]
  have hzv : zv.cells = List.toArray zs := by rw [← z3]
  rw [row_zeros hzv hzs hk]
  simp only [newRow, sl_bind]
  intro b hb
  exact ⟨b, hb, rfl, rfl⟩
end
end Go.Proofs.YtcjknmpogkofpaaGreat
