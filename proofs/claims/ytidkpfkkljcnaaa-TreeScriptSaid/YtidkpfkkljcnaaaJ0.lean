/- The tree as plain data and its blocks: nodes told by a function of their block; New, of. -/
import Derived.Test.YtidkpfkkljcnaaaU0
import Derived.Test.YtidkpfkkljcnaaaS15
import Derived.Test.YtidkpfkkljcnaaaX0
import Derived.Test.YtidkpfkkljcnaaaX1
import Derived.Test.YtidkpfkkljcnaaaL0
set_option linter.unusedVariables false
set_option linter.unusedSimpArgs false
namespace Go.Proofs.Ytidkpfkkljcnaaa
open Go.RowKit

abbrev SlotT := Int × Int
abbrev encT (s : SlotT) : List Value := [.int .i64 s.1, .int .i64 s.2]
theorem encT_ok : EncOk encT [some .i64, some .i64] := ⟨fun a => ⟨_, _, rfl, ⟨_, rfl⟩, _, _, rfl, ⟨_, rfl⟩, rfl⟩, fun a b h => by
  simp only [encT, List.cons.injEq, Value.int.injEq, true_and, and_true] at h
  exact Prod.ext h.1 h.2⟩
structure NdT where
  sl : SlotT
  dp : Int
  pv : Nat
  nx : Nat
abbrev NdT.cells (x : NdT) : List Value := [.int .i64 x.sl.1, .int .i64 x.sl.2, .int .i64 x.dp, .pointer (some ⟨x.pv, 0, none⟩), .pointer (some ⟨x.nx, 0, none⟩)]
abbrev ndC (p : Nat) (x : NdT) : Chunk := (p, .cells (List.toArray x.cells) 67 (0, 0))
def chs (F : Nat → NdT) (all : List Nat) : List Chunk := all.map fun p => ndC p (F p)
theorem chs_mem {F : Nat → NdT} {all : List Nat} {p : Nat} (h : p ∈ all) : ndC p (F p) ∈ chs F all := List.mem_map.2 ⟨p, h, rfl⟩
theorem chs_congr {F F' : Nat → NdT} {all : List Nat} (h : ∀ p, p ∈ all → F p = F' p) : chs F all = chs F' all := List.map_congr_left fun p hp => by rw [h p hp]
theorem chs_upd {F : Nat → NdT} {all : List Nat} {p : Nat} (x : NdT) (hn : all.Nodup) (hp : p ∈ all) : Upd (chs F all) p (ndC p (F p)).2 (ndC p x).2 (chs (upd F p x) all) := by
  induction all with
  | nil => cases hp
  | cons q all ih =>
    rw [List.nodup_cons] at hn
    by_cases e : q = p
    · subst e
      have h1 : chs (upd F q x) all = chs F all := chs_congr fun r hr => upd_other _ _ _ _ fun e => hn.1 (e ▸ hr)
      show Upd (ndC q (F q) :: chs F all) q _ _ (ndC q (upd F q x q) :: chs (upd F q x) all)
      rw [upd_same, h1]
      exact .here
    · rcases List.mem_cons.1 hp with h | h
      · exact absurd h.symm e
      · show Upd (ndC q (F q) :: chs F all) p _ _ (ndC q (upd F p x q) :: chs (upd F p x) all)
        rw [upd_other _ _ _ _ e]
        exact .there (ih hn.2 h)
instance : EQ Try.prog 29 [some .i64, some .i64] := ⟨by kernel_rfl⟩
abbrev DT := List (SlotT × Int)
/-- one links to the next and back -/
def Adj (F : Nat → NdT) : List Nat → Prop
  | [] => True
  | [_] => True
  | a :: b :: r => (F a).nx = b ∧ (F b).pv = a ∧ Adj F (b :: r)
abbrev trC (b rb m : Nat) : Chunk := (b, .cells (List.toArray [.pointer (some ⟨rb, 0, none⟩), .map (some m)]) 65 (0, 0))
structure TB (b rb m : Nat) (F : Nat → NdT) (all os : List Nat) (es : List (EntS SlotT)) (clock : Nat) (lq : List Chunk) : Prop where
  eq : lq = trC b rb m :: (m, mapS encT es clock) :: chs F all
  nd : all.Nodup
  rin : rb ∈ all
  sub : ∀ p, p ∈ os → p ∈ all
  ond : (rb :: os).Nodup
  adj : Adj F (rb :: (os ++ [rb]))
  snd : (os.map fun p => (F p).sl).Nodup
  keys : KeysOk es clock
  get : ∀ s, getS s es = (os.find? fun p => decide ((F p).sl = s)).map fun p => .pointer (some ⟨p, 0, none⟩)
def dOf (F : Nat → NdT) (os : List Nat) : DT := os.map fun p => ((F p).sl, (F p).dp)
def IsT (b : Nat) (D : DT) (lq : List Chunk) : Prop := ∃ rb m F all os es clock, dOf F os = D ∧ TB b rb m F all os es clock lq
theorem TB.m1 {b rb m : Nat} {F : Nat → NdT} {all os : List Nat} {es : List (EntS SlotT)} {clock : Nat} {lq : List Chunk} (h : TB b rb m F all os es clock lq) : trC b rb m ∈ lq := by rw [h.eq]; exact .head _
theorem TB.m2 {b rb m : Nat} {F : Nat → NdT} {all os : List Nat} {es : List (EntS SlotT)} {clock : Nat} {lq : List Chunk} (h : TB b rb m F all os es clock lq) : (m, mapS encT es clock) ∈ lq := by rw [h.eq]; exact .tail _ (.head _)
theorem TB.m3 {b rb m : Nat} {F : Nat → NdT} {all os : List Nat} {es : List (EntS SlotT)} {clock : Nat} {lq : List Chunk} (h : TB b rb m F all os es clock lq) {p : Nat} (hp : p ∈ all) : ndC p (F p) ∈ lq := by rw [h.eq]; exact .tail _ (.tail _ (chs_mem hp))
/-- the block of a slot -/
def blk (F : Nat → NdT) (os : List Nat) (s : SlotT) : Option Nat := os.find? fun p => decide ((F p).sl = s)
theorem blk_some {F : Nat → NdT} {os : List Nat} {s : SlotT} {p : Nat} (h : blk F os s = some p) : p ∈ os ∧ (F p).sl = s :=
  ⟨List.mem_of_find?_eq_some h, by have := List.find?_some h; simpa using this⟩
def ptrO : Option Nat → Value
  | some p => .pointer (some ⟨p, 0, none⟩)
  | none => .pointer none
set_option pp.deepTerms false
set_option pp.deepTerms.threshold 4
set_option maxHeartbeats 400000
theorem of_any (b rb m : Nat) (F : Nat → NdT) (all os : List Nat) (es : List (EntS SlotT)) (clock : Nat) (lq : List Chunk) (s : SlotT) (hT : TB b rb m F all os es clock lq) (l : List Chunk) (hsub : ∀ c, c ∈ lq → c ∈ l) :
    Fn Try.prog 34 [.pointer (some ⟨b, 0, none⟩), .agg (List.toArray (encT s))] l fun v l' => v = ptrO (blk F os s) ∧ l' = l := by
  have h1 := hsub _ hT.m1
  have h2 := hsub _ hT.m2
  have hg : (getS s es).getD (.pointer none) = ptrO (blk F os s) := by
    rw [hT.get]; unfold blk; cases os.find? fun p => decide ((F p).sl = s) <;> rfl
  refine fn_of_body Try.func34 rfl rfl fun E => ?_
  simp only [argF, Try.ntmps34]
  repeat (first | (show OpsS _ _ _ _ _ _ (_ :: _) _ _ _; first | refine ozq ?_) | refine c_seq ?_ | refine p_then ?_ | refine c_region ?_ | refine s_nil ?_ | refine c_cond_t rfl ?_ | refine c_cond_f rfl ?_ | refine c_skip ?_ | refine c_ret ?_ | refine p_then_ret ?_ | refine p_end ?_ | refine c_if_t rfl (by omega) ?_ | refine c_if_f rfl (by omega) ?_)
  refine t_e (e_boxA rfl) rfl rfl rfl ?_
  rintro _ _ ⟨b3, hb3, rfl, rfl⟩
  repeat (first | (show OpsS _ _ _ _ _ _ (_ :: _) _ _ _; first | refine ozq ?_) | refine c_seq ?_ | refine p_then ?_ | refine c_region ?_ | refine s_nil ?_ | refine c_cond_t rfl ?_ | refine c_cond_f rfl ?_ | refine c_skip ?_ | refine c_ret ?_ | refine p_then_ret ?_ | refine p_end ?_ | refine c_if_t rfl (by omega) ?_ | refine c_if_f rfl (by omega) ?_)
  refine c_draw [(0, true), (1, true), (2, true), (3, true), (4, true), (5, true), (6, true)] [[], [0], [0, 1], [0, 1, 2], [], [0, 1, 2, 3, 4], [0, 1, 2, 3, 4, 5]] _ (by kernel_rfl) (by kernel_rfl) (by (repeat (first | apply Attach.nil | (apply Attach.cons; · rfl)))) (fun _ h => h) ?_
  repeat (first | refine pl_nil ?_ | (show PlanS _ _ _ _ _ _ _ _ _ _ ((_, true, _) :: _) _ _ _; first | refine pzq ?_) | (show PlanS _ _ _ _ _ _ _ _ none [] ((_, false, _) :: _) _ _ _; first | refine pze ?_))
  apply pl_q
  · apply q_lookupS (enc := encT) (a := s) (es := es) (clock := clock) (ks := [some .i64, some .i64])
    · rfl
    · rfl
    · exact encT_ok
    · exact .tail _ h2
  · rfl
  · rfl
  · rfl
  rw [hg]
  repeat (first | refine pl_nil ?_ | (show PlanS _ _ _ _ _ _ _ _ _ _ ((_, true, _) :: _) _ _ _; first | refine pzq ?_) | (show PlanS _ _ _ _ _ _ _ _ none [] ((_, false, _) :: _) _ _ _; first | refine pze ?_))
  repeat (first | (show OpsS _ _ _ _ _ _ (_ :: _) _ _ _; first | refine ozq ?_) | refine c_seq ?_ | refine p_then ?_ | refine c_region ?_ | refine s_nil ?_ | refine c_cond_t rfl ?_ | refine c_cond_f rfl ?_ | refine c_skip ?_ | refine c_ret ?_ | refine p_then_ret ?_ | refine p_end ?_ | refine c_if_t rfl (by omega) ?_ | refine c_if_f rfl (by omega) ?_)
  exact k_ret [] rfl (.drop .refl) (by (repeat (first | apply ResS.nil | (apply rs_tmp; (· rfl)) | (apply rs_cell1; (· rfl); (· ((repeat (first | with_reducible apply List.mem_cons_self | with_reducible apply List.mem_cons_of_mem)); try with_reducible assumption)); (· rfl)) | (apply rs_cellA; (· rfl); (· ((repeat (first | with_reducible apply List.mem_cons_self | with_reducible apply List.mem_cons_of_mem)); try with_reducible assumption)); (· (repeat (first | with_reducible apply LSub.done | with_reducible apply LSub.take | with_reducible apply LSub.drop))))))) ⟨rfl, rfl⟩
theorem of_nil (s : SlotT) (l : List Chunk) : Fn Try.prog 34 [.pointer none, .agg (List.toArray (encT s))] l fun v l' => v = .pointer none ∧ l' = l := by
  refine fn_of_body Try.func34 rfl rfl fun E => ?_
  simp only [argF, Try.ntmps34]
  repeat (first | (show OpsS _ _ _ _ _ _ (_ :: _) _ _ _; first | refine ozq ?_) | refine c_seq ?_ | refine p_then ?_ | refine c_region ?_ | refine s_nil ?_ | refine c_cond_t rfl ?_ | refine c_cond_f rfl ?_ | refine c_skip ?_ | refine c_ret ?_ | refine p_then_ret ?_ | refine p_end ?_ | refine c_if_t rfl (by omega) ?_ | refine c_if_f rfl (by omega) ?_)
  refine t_e (e_boxA rfl) rfl rfl rfl ?_
  rintro _ _ ⟨b3, hb3, rfl, rfl⟩
  repeat (first | (show OpsS _ _ _ _ _ _ (_ :: _) _ _ _; first | refine ozq ?_) | refine c_seq ?_ | refine p_then ?_ | refine c_region ?_ | refine s_nil ?_ | refine c_cond_t rfl ?_ | refine c_cond_f rfl ?_ | refine c_skip ?_ | refine c_ret ?_ | refine p_then_ret ?_ | refine p_end ?_ | refine c_if_t rfl (by omega) ?_ | refine c_if_f rfl (by omega) ?_)
  exact k_ret [] rfl (.drop .refl) (by (repeat (first | apply ResS.nil | (apply rs_tmp; (· rfl)) | (apply rs_cell1; (· rfl); (· ((repeat (first | with_reducible apply List.mem_cons_self | with_reducible apply List.mem_cons_of_mem)); try with_reducible assumption)); (· rfl)) | (apply rs_cellA; (· rfl); (· ((repeat (first | with_reducible apply List.mem_cons_self | with_reducible apply List.mem_cons_of_mem)); try with_reducible assumption)); (· (repeat (first | with_reducible apply LSub.done | with_reducible apply LSub.take | with_reducible apply LSub.drop))))))) ⟨rfl, rfl⟩
theorem new_any (l : List Chunk) : Fn Try.prog 16 [] l fun v l' => ∃ b, v = .pointer (some ⟨b, 0, none⟩) ∧ ∃ lq, IsT b [] lq ∧ l' = lq ++ l := by
  refine fn_of_body Try.func16 rfl rfl fun E => ?_
  simp only [argF, Try.ntmps16]
  repeat (first | (show OpsS _ _ _ _ _ _ (_ :: _) _ _ _; first | refine ozq ?_ | refine ozn ?_) | refine c_seq ?_ | refine p_then ?_ | refine c_region ?_ | refine s_nil ?_ | refine c_ret ?_ | refine p_then_ret ?_ | refine p_end ?_)
  refine t_e (e_boxA rfl) rfl rfl rfl ?_
  rintro _ _ ⟨rb, hrb, rfl, rfl⟩
  repeat (first | (show OpsS _ _ _ _ _ _ (_ :: _) _ _ _; first | refine ozq ?_ | refine ozn ?_) | refine c_seq ?_ | refine p_then ?_ | refine c_region ?_ | refine s_nil ?_ | refine c_ret ?_ | refine p_then_ret ?_ | refine p_end ?_)
  refine t_e e_makeMap rfl rfl rfl ?_
  rintro _ _ ⟨m, hm, rfl, rfl⟩
  repeat (first | (show OpsS _ _ _ _ _ _ (_ :: _) _ _ _; first | refine ozq ?_ | refine ozn ?_) | refine c_seq ?_ | refine p_then ?_ | refine c_region ?_ | refine s_nil ?_ | refine c_ret ?_ | refine p_then_ret ?_ | refine p_end ?_)
  refine t_e (e_boxA rfl) rfl rfl rfl ?_
  rintro _ _ ⟨b, hb, rfl, rfl⟩
  repeat (first | (show OpsS _ _ _ _ _ _ (_ :: _) _ _ _; first | refine ozq ?_ | refine ozn ?_) | refine c_seq ?_ | refine p_then ?_ | refine c_region ?_ | refine s_nil ?_ | refine c_ret ?_ | refine p_then_ret ?_ | refine p_end ?_)
  exact k_ret [] rfl .refl (by (repeat (first | apply ResS.nil | (apply rs_tmp; (· rfl)) | (apply rs_cell1; (· rfl); (· ((repeat (first | with_reducible apply List.mem_cons_self | with_reducible apply List.mem_cons_of_mem)); try with_reducible assumption)); (· rfl)) | (apply rs_cellA; (· rfl); (· ((repeat (first | with_reducible apply List.mem_cons_self | with_reducible apply List.mem_cons_of_mem)); try with_reducible assumption)); (· (repeat (first | with_reducible apply LSub.done | with_reducible apply LSub.take | with_reducible apply LSub.drop))))))) ⟨b, rfl, [trC b rb m, (m, .map #[] 0), ndC rb ⟨(0, 0), 0, rb, rb⟩], ⟨rb, m, fun _ => ⟨(0, 0), 0, rb, rb⟩, [rb], [], [], 0, rfl, ⟨rfl, by simp, by simp, by simp, by simp, ⟨rfl, rfl, trivial⟩, by simp, ⟨by simp, by simp, by simp⟩, fun s => rfl⟩⟩, rfl⟩
end Go.Proofs.Ytidkpfkkljcnaaa
