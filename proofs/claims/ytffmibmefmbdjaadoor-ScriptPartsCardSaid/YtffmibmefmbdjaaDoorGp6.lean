/- script.Parse. strings.Builder, told of the blocks that are held. strings.Builder in blocks that are held. From a contract on all blocks to the form that a statement's last step wants. Rows of any flat struct that came in, as blocks. script.Print. Lines and events: plain laws of reading what was printed, and printing what was read. awake; ScriptStrict. ScriptStrict. What is printed is read again: plain. What is printed is read again: the texts. ScriptBack. What a row's list gives: the library's variables. Events that came in. seisinlaw0.SameEvents, where the lists tell the same. ScriptParts. Laws that the statement's proof leans on. -/
import Derived.Test.YtffmibmefmbdjaaDoorGp4
import Derived.Test.YtffmibmefmbdjaaDoorGp5
import Derived.Lib.AppendStr
import Derived.Lib.Builder
import Derived.Lib.UnsafeStr
import Derived.Laws.Externs
import Derived.BigCall
import Derived.BigGuard
import Derived.Test.YtffmibmefmbdjaaDoorGp3
import Derived.Below
import Derived.Test.YtffmibmefmbdjaaDoorRows
import Derived.Stop.LaidErr
import Derived.Lib.LaidTab
import Derived.WalkSmall
/- script.Parse. -/
set_option linter.unusedVariables false
set_option linter.unusedSimpArgs false
namespace Go.Proofs.YtffmibmefmbdjaaDoor
open Go.RowKit
set_option maxRecDepth 20000
set_option pp.deepTerms false
set_option pp.deepTerms.threshold 4

def trimE : List (List UInt8) → List (List UInt8)
  | [] => []
  | [w] => if w = [] then [] else [w]
  | w :: x :: r => w :: trimE (x :: r)
/-- a text's lines -/
def linesL (s : List UInt8) : List (List UInt8) := trimE (splitL 10 s)
theorem linesL_nil : linesL [] = [] := rfl
theorem linesL_cons {s : List UInt8} (h : s ≠ []) : linesL s = (cutL 10 s).1 :: linesL (cutL 10 s).2.1 := by
  have h0 := splitL_cut 10 s
  unfold linesL
  cases hm : (cutL 10 s).2.2 with
  | true =>
    rw [h0, hm, if_pos rfl]
    cases hb : splitL 10 (cutL 10 s).2.1 with
    | nil => exact absurd hb (splitL_ne _ _)
    | cons x r => rfl
  | false =>
    rw [h0, hm]
    rcases cut_index 10 s with ⟨_, h2⟩ | ⟨i, _, _, h2⟩
    · rw [h2]
      show (if s = [] then [] else [s]) = s :: []
      rw [if_neg h]
    · rw [h2] at hm; cases hm
theorem cut_short {s : List UInt8} (h : s ≠ []) : (cutL 10 s).2.1.length < s.length := by
  obtain ⟨_, _, h3⟩ := cutL_len 10 s
  cases hm : (cutL 10 s).2.2 with
  | true => exact h3 hm
  | false =>
    rcases cut_index 10 s with ⟨_, h2⟩ | ⟨i, _, _, h2⟩
    · rw [h2]; exact List.length_pos_iff.2 h
    · rw [h2] at hm; cases hm
/-- the lines' events, or the number of the first that has none -/
noncomputable def goL : List (List UInt8) → Except Nat (List (List Value))
  | [] => .ok []
  | w :: r => match evOf w with
    | none => .error 1
    | some e => match goL r with
      | .ok es => .ok (e :: es)
      | .error n => .error (n + 1)
def addP (es : List (List Value)) : Except Nat (List (List Value)) → Except Nat (List (List Value))
  | .ok r => .ok (es ++ r)
  | .error n => .error (es.length + n)
theorem goL_step {w : List UInt8} {e : List Value} (h : evOf w = some e) (r : List (List UInt8)) (es : List (List Value)) : addP es (goL (w :: r)) = addP (es ++ [e]) (goL r) := by
  have h1 : goL (w :: r) = match evOf w with | none => .error 1 | some e => match goL r with | .ok es => .ok (e :: es) | .error n => .error (n + 1) := rfl
  rw [h1, h]
  cases goL r with
  | ok x => show Except.ok (es ++ e :: x) = Except.ok (es ++ [e] ++ x); rw [List.append_assoc]; rfl
  | error n => show Except.error (es.length + (n + 1)) = Except.error ((es ++ [e]).length + n); rw [List.length_append]; simp; omega
theorem goL_bad {w : List UInt8} (h : evOf w = none) (r : List (List UInt8)) (es : List (List Value)) : addP es (goL (w :: r)) = .error (es.length + 1) := by
  have h1 : goL (w :: r) = match evOf w with | none => .error 1 | some e => match goL r with | .ok es => .ok (e :: es) | .error n => .error (n + 1) := rfl
  rw [h1, h]; rfl
noncomputable def parseR (s : List UInt8) : List (List Value) × Int × Int :=
  if s.length > 65536 then ([], 0, 11) else match goL (linesL s) with
    | .ok es => (es, 0, 0)
    | .error n => ([], ((n : Nat) : Int), 5)
theorem parseR_ok {s : List UInt8} {es : List (List Value)} (h : ¬ s.length > 65536) (hg : goL (linesL s) = .ok es) : parseR s = (es, 0, 0) := by unfold parseR; rw [if_neg h, hg]
theorem parseR_bad {s : List UInt8} {n : Nat} (h : ¬ s.length > 65536) (hg : goL (linesL s) = .error n) : parseR s = ([], ((n : Nat) : Int), 5) := by unfold parseR; rw [if_neg h, hg]
def ParseQ (r : List (List Value) × Int × Int) (l : List Chunk) (v : Value) (l' : List Chunk) : Prop :=
  ∃ sv c1, v = .tuple #[sv, .int .i64 r.2.1, .int .i64 r.2.2] ∧ OwnSl 43 15 sv r.1.length r.1.flatten c1 ∧ l' = c1 ++ l
theorem isEv_zk {k : Int} : IsEv (zk k) := by
  refine ⟨rfl, fun o ho => ?_, fun o ho => ?_⟩
  · rcases ho with rfl | rfl | rfl | rfl | rfl | rfl <;> rfl
  · have h1 : o = 3 ∨ o = 4 ∨ o = 5 ∨ o = 6 ∨ o = 7 ∨ o = 8 ∨ o = 9 ∨ o = 10 ∨ o = 11 := by omega
    rcases h1 with rfl | rfl | rfl | rfl | rfl | rfl | rfl | rfl | rfl
    all_goals exact ⟨rfl, Int.le_refl 0, (by decide : (0 : Int) < 18446744073709551616)⟩
theorem fldI_set {cs : List Value} {o o' : Nat} {v : Value} : fldI (cs.set o v) o' = if o = o' ∧ o < cs.length then (match v with | .int _ x => x | _ => 0) else fldI cs o' := by
  unfold fldI
  rw [List.getElem?_set]
  by_cases h : o = o'
  · subst h
    by_cases h2 : o < cs.length
    · rw [if_pos rfl, if_pos h2, if_pos ⟨rfl, h2⟩]
      cases v <;> rfl
    · rw [if_pos rfl, if_neg h2, if_neg (fun h => h2 h.2), List.getElem?_eq_none (by omega)]
  · rw [if_neg h, if_neg (fun h2 => h h2.1)]
theorem isEv_set {cs : List Value} (h : IsEv cs) {p : Nat × Bool} {n : Nat} (hp : (p.2 = false ∧ (p.1 = 1 ∨ p.1 = 2 ∨ p.1 = 12 ∨ p.1 = 13 ∨ p.1 = 14)) ∨ (p.2 = true ∧ 3 ≤ p.1 ∧ p.1 ≤ 11)) (hn : n < 18446744073709551616) : IsEv (cs.set p.1 (valP p n)) := by
  have hl := h.len
  refine ⟨by rw [List.length_set]; exact h.len, fun o ho => ?_, fun o ho => ?_⟩
  · rw [fldI_set, List.getElem?_set]
    by_cases e : p.1 = o
    · have hp2 : p.2 = false := by
        rcases hp with h | h
        · exact h.1
        · omega
      rw [if_pos e, if_pos (by omega), if_pos ⟨e, by omega⟩]
      unfold valP; rw [hp2]; rfl
    · rw [if_neg e, if_neg (fun h => e h.1)]; exact h.num o ho
  · rw [fldI_set, List.getElem?_set]
    by_cases e : p.1 = o
    · have hp2 : p.2 = true := by
        rcases hp with h | h
        · omega
        · exact h.1
      rw [if_pos e, if_pos (by omega), if_pos ⟨e, by omega⟩]
      unfold valP; rw [hp2]
      exact ⟨rfl, by show (0 : Int) ≤ (n : Nat); omega, by show ((n : Nat) : Int) < 18446744073709551616; omega⟩
    · rw [if_neg e, if_neg (fun h => e h.1)]; exact h.word o ho
theorem fill_ev : ∀ (ws : List (List UInt8)) (cs : List Value) (ps : List (Nat × Bool)) {r : List Value}, IsEv cs → (∀ p ∈ ps, (p.2 = false ∧ (p.1 = 1 ∨ p.1 = 2 ∨ p.1 = 12 ∨ p.1 = 13 ∨ p.1 = 14)) ∨ (p.2 = true ∧ 3 ≤ p.1 ∧ p.1 ≤ 11)) → fillG cs ps ws = some r → IsEv r
  | [], cs, ps, r, h1, _, h => by rw [fillG_nil] at h; cases h; exact h1
  | w :: ws, cs, [], r, h1, _, h => by cases h
  | w :: ws, cs, p :: ps, r, h1, hp, h => by
    have e : fillG cs (p :: ps) (w :: ws) = match rdL w (limP p) with | some n => fillG (cs.set p.1 (valP p n)) ps ws | none => none := rfl
    rw [e] at h
    cases hr : rdL w (limP p) with
    | none => rw [hr] at h; cases h
    | some n =>
      rw [hr] at h
      exact fill_ev ws _ ps (isEv_set h1 (hp p (.head _)) (rdN_some (rdL_some.1 hr).1).1) (fun q hq => hp q (.tail _ hq)) h
theorem evOf_some {s : List UInt8} {cs : List Value} (h : evOf s = some cs) : ∃ w ws k, splitL 32 s = w :: ws ∧ kindOf w = some k ∧ ws.length = (pts k).length ∧ fillG (zk k) (pts k) ws = some cs := by
  cases hL : splitL 32 s with
  | nil => exact absurd hL (splitL_ne _ _)
  | cons w ws =>
    cases hk : kindOf w with
    | none => rw [evOf_kind hL hk] at h; cases h
    | some k =>
      by_cases hl : ws.length = (pts k).length
      · rw [evOf_fill hL hk hl] at h
        exact ⟨w, ws, k, rfl, hk, hl, h⟩
      · rw [evOf_len hL hk hl] at h; cases h
theorem evOf_ev {s : List UInt8} {cs : List Value} (h : evOf s = some cs) : IsEv cs ∧ ∀ v ∈ cs, v.oneCell' = true := by
  obtain ⟨w, ws, k, _, _, _, hf⟩ := evOf_some h
  exact ⟨fill_ev _ _ _ isEv_zk (fun p hp => pts_mem hp) hf, fill_one _ _ _ (zk_one k) hf⟩

set_option maxHeartbeats 1000000 in
theorem parse_any (s : List UInt8) (hs : s.length ≤ 1000000) (l : List Chunk) (hG : GL l) : Fn Tryd.prog 9 [str s] l (ParseQ (parseR s) l) := by
  refine fn_of_body Tryd.func9 rfl rfl fun E => ?_
  simp only [argF, Tryd.ntmps9]
  by_cases h6 : s.length > 65536
  · refine gz ?_
    refine k_ret [] rfl .refl (by exact zRes) ⟨.slice none 0 0, [], ?_, ?_, rfl⟩
    · unfold parseR; rw [if_pos h6]; rfl
    · unfold parseR; rw [if_pos h6]; exact OwnSl.nil _ _
  · refine gz ?_
    refine k_loop (α := List UInt8 × List (List Value) × Value × List Chunk) (fun x => [(0, str x.1), (5, x.2.2.1), (6, .int .i64 (x.2.1.length + 1 : Nat))]) (fun x => x.2.2.2 ++ l)
      (fun x => OwnSl 43 15 x.2.2.1 x.2.1.length x.2.1.flatten x.2.2.2 ∧ goL (linesL s) = addP x.2.1 (goL (linesL x.1)) ∧ x.2.1.length + x.1.length ≤ s.length) (fun x => x.1.length) (s, [], .slice none 0 0, []) ⟨OwnSl.nil _ _, by cases goL (linesL s) <;> simp [addP], by simp⟩ ⟨rfl, rfl, rfl, trivial⟩ .refl ?_
    rintro ⟨q, es, v, c1⟩ ⟨ho, hg, hb⟩
    simp only at ho hg hb ⊢
    by_cases hq : q = []
    · subst hq
      refine gz ?_
      have hg' : goL (linesL s) = .ok es := by rw [hg]; show Except.ok (es ++ []) = _; rw [List.append_nil]
      refine k_ret [] rfl .refl (by exact zRes) ⟨v, c1, ?_, ?_, rfl⟩
      · rw [parseR_ok h6 hg']; rfl
      · rw [parseR_ok h6 hg']; exact ho
    · have hlc := linesL_cons hq
      have hsh := cut_short hq
      obtain ⟨k1, k2, k3⟩ := cutL_len 10 q
      rw [hlc] at hg
      refine gz ?_
      refine t_e (e_call0 rfl rfl (cut_any q 10 (by omega) _)) rfl rfl rfl ?_
      rintro _ _ ⟨rfl, rfl⟩
      unfold cutV
      refine gz ?_
      refine t_e (e_call0 rfl rfl (lineS_any (cutL 10 q).1 (by omega) _ (hG.app c1))) rfl rfl rfl ?_
      rintro _ _ ⟨hv, rfl⟩
      cases hev : evOf (cutL 10 q).1 with
      | none =>
        rw [lineR_none hev] at hv
        subst hv
        refine gz ?_
        refine t_e e_alloc rfl rfl rfl ?_; rintro _ _ ⟨b10, _, rfl, rfl⟩
        refine gz ?_
        have hg' := hg.trans (goL_bad hev _ es)
        refine k_ret [] rfl (l' := l) (.drop (Keep.dropL c1 .refl)) (by exact zRes) ⟨.slice none 0 0, [], ?_, ?_, rfl⟩
        · rw [parseR_bad h6 hg']; rfl
        · rw [parseR_bad h6 hg']; exact OwnSl.nil _ _
      | some e =>
        have hv2 : lineR (cutL 10 q).1 = .tuple #[.agg (List.toArray e), .bool true] := by unfold lineR; rw [hev]
        rw [hv2] at hv
        subst hv
        obtain ⟨hE1, hE2⟩ := evOf_ev hev
        refine gz ?_
        refine t_e e_alloc rfl rfl rfl ?_; rintro _ _ ⟨b10, _, rfl, rfl⟩
        refine gz ?_
        apply t_n
        · apply e_storeLA
          · rfl
          · rfl
          · exact hE1.len
          · exact hE2
          · exact zMem
          · exact lseta_full zEv e hE1.len.symm
          · exact zUpd
        · rfl
        · rfl
        rintro _ _ ⟨rfl, rfl⟩
        refine gz ?_
        refine t_q (q_loadL rfl (by exact zMem) (lsub15 hE1.len)) rfl rfl rfl ?_
        refine t_e (e_litA (k := 15) (zs := zEv) rfl rfl hE1.len (by decide) (by decide)) rfl rfl rfl ?_
        rintro _ _ ⟨bl, hbl, rfl, rfl⟩
        refine t_e (e_appX (k := 15) (X := [_]) (cs := c1) (F := l) (n := es.length) (xs := es.flatten) (zs := zEv) rfl rfl rfl ho hE1.len hE2 (by omega) (by decide)) rfl rfl rfl ?_
        rintro v2 _ ⟨c2, ho2, rfl⟩
        refine gz ?_
        refine k_next ((cutL 10 q).2.1, es ++ [e], v2, c2) ⟨?_, ?_, ?_⟩ hsh ⟨rfl, rfl, ?_, trivial⟩ (.drop .refl)
        · simp only [List.length_append, List.length_cons, List.length_nil, List.flatten_append, List.flatten_cons, List.flatten_nil, List.append_nil]; exact ho2
        · exact hg.trans (goL_step hev _ es)
        · simp only [List.length_append, List.length_cons, List.length_nil]; omega
        · simp only [List.length_append, List.length_cons, List.length_nil]; rfl
end Go.Proofs.YtffmibmefmbdjaaDoor

/- strings.Builder, told of the blocks that are held. -/
set_option linter.unusedVariables false
set_option linter.unusedSimpArgs false
namespace Go.Proofs.YtffmibmefmbdjaaDoor
open Go.RowKit
set_option maxRecDepth 100000

theorem infoOf {P : Program} {t : TypeId} {z : Option Value} {n m : Nat} (h : (P.info? t).map (fun i => (i.zero, i.size, i.bytes)) = some (z, n, m)) : ∃ i, P.info? t = some i ∧ i.zero = z ∧ i.size = n ∧ i.bytes = m := by
  obtain ⟨i, h1, h2⟩ := Option.map_eq_some_iff.1 h
  exact ⟨i, h1, by cases h2; exact ⟨rfl, rfl, rfl⟩⟩
set_option maxHeartbeats 1000000 in
theorem copyW_used (b : Nat) (w : World) (h0 : w.cell? ⟨b, 0, none⟩ = some (.pointer (some ⟨b, 0, none⟩))) :
    Calls Tryd.prog 34 #[.pointer (some ⟨b, 0, none⟩)] w fun e w' => e = .returned (.tuple #[]) ∧ w' = w := by
  obtain ⟨j, hj, _⟩ := infoOf (show (Tryd.prog.info? 56).map (fun i => (i.zero, i.size, i.bytes)) = some (some (.agg #[.pointer none, .slice none 0 0]), 2, 32) by kernel_rfl)
  go_enter Tryd.func34, Tryd.ntmps34
  go_wp2
  rw [Lib.run_neq_ptr_same w _ Tryd.underlying53 hj]
  go_wp2
  go_end0
  exact ⟨rfl, rfl⟩
set_option maxHeartbeats 1000000 in
theorem copyW_fresh (b : Nat) (w : World) (h0 : w.cell? ⟨b, 0, none⟩ = some (.pointer none)) (hf : w.frozen? ⟨b, 0, none⟩ = false) (hs : w.shape? b = some (56, 2)) :
    Calls Tryd.prog 34 #[.pointer (some ⟨b, 0, none⟩)] w fun e w' => e = .returned (.tuple #[]) ∧ w' = w.setCell ⟨b, 0, none⟩ (.pointer (some ⟨b, 0, none⟩)) := by
  go_enter Tryd.func34, Tryd.ntmps34
  obtain ⟨j, hj, _, hjs, _⟩ := infoOf (show (Tryd.prog.info? 56).map (fun i => (i.zero, i.size, i.bytes)) = some (some (.agg #[.pointer none, .slice none 0 0]), 2, 32) by kernel_rfl)
  go_wp2
  rw [Lib.run_to_unsafe w ⟨b, 0, none⟩ Tryd.underlying53 Tryd.underlying94 hj (by rw [hjs]; decide) hs (Nat.zero_lt_succ 1)]
  simp only [Result.andThen]
  rw [Oper.upon_value]
  go_wp2
  rw [run_callFunc_extern Tryd.func41 (by kernel_rfl) (by kernel_rfl) (by kernel_rfl) (e := Extern.AbiNoEscape.same) (by kernel_rfl)]
  rw [Lib.run_noEscape]
  simp only [Result.andThen]
  rw [Oper.upon_value]
  go_wp2
  rw [Lib.run_from_unsafe w ⟨b, 0, none⟩ Tryd.underlying94 Tryd.underlying53 hj hs (by kernel_rfl)]
  simp only [Result.andThen]
  rw [Oper.upon_value]
  go_wp2
  go_end0
  exact ⟨rfl, rfl⟩
theorem copyW (B b : Nat) (bs : List Value) (w : World) (h : Lib.IsBuilder 56 5 B b bs w) :
    Calls Tryd.prog 34 #[.pointer (some ⟨b, 0, none⟩)] w fun e w' => e = .returned (.tuple #[]) ∧ Lib.BuilderAt 56 5 B b (.pointer (some ⟨b, 0, none⟩)) bs w' ∧ Below B w w' := by
  rcases h with h | h
  · refine (copyW_fresh b w h.cell0 h.frozen0 h.shape).mono ?_
    rintro e w' ⟨rfl, rfl⟩
    exact ⟨rfl, h.used _, (Below.refl B w).setCell (p := ⟨b, 0, none⟩) h.1 _⟩
  · refine (copyW_used b w h.cell0).mono ?_
    rintro e w' ⟨rfl, rfl⟩
    exact ⟨rfl, h, Below.refl B _⟩
set_option maxHeartbeats 2000000 in
theorem writeW (B b : Nat) (bs : List Value) (s : ByteArray) (w : World) (h : Lib.IsBuilder 56 5 B b bs w) (hlen : bs.length + s.size ≤ 140737488355328) (hBw : B ≤ w.heap.size) :
    Calls Tryd.prog 23 #[.pointer (some ⟨b, 0, none⟩), .string s] w fun e w' => e = .returned (.tuple #[.int .i64 s.size, .nilIface]) ∧ Lib.BuilderAt 56 5 B b (.pointer (some ⟨b, 0, none⟩)) (bs ++ Lib.strCells s) w' ∧ Below B w w' := by
  obtain ⟨i0, hi, hz0, hz1, hz2⟩ := infoOf (show (Tryd.prog.info? 5).map (fun i => (i.zero, i.size, i.bytes)) = some (some (.int .u8 0), 1, 1) by kernel_rfl)
  go_enter Tryd.func23, Tryd.ntmps23
  go_wp2_with (go_at_call 34; refine (copyW B b bs _ h).mono ?_)
  rintro e w1 ⟨rfl, h1, hb1⟩
  obtain ⟨hB, v, hbk, hown, hne⟩ := h1
  have c0 : w1.cell? ⟨b, 0, none⟩ = some (.pointer (some ⟨b, 0, none⟩)) := by rw [Lib.cell_of_heap hbk]; rfl
  have c1 : w1.cell? ⟨b, 1, none⟩ = some v := by rw [Lib.cell_of_heap hbk]; rfl
  go_wp2_with (at_builtin; refine Lib.wpList_append_own_string _ rfl _ _ 54 9 rfl B 5 i0 Tryd.underlying54 Tryd.underlying9 hi hz0 hz1 hz2 _ _ _ rfl hown s rfl ?c3 ?c4 ?c5 ?_)
  case c3 => unfold maxLen; omega
  case c4 => omega
  case c5 => have := hb1.size; omega
  intro v' w2 hown' hgrow _
  have hlt : b < w1.heap.size := (Array.getElem?_eq_some_iff.1 hbk).1
  have hb2 : w2.heap[b]? = some (.cells #[.pointer (some ⟨b, 0, none⟩), v] 56 (0, 0)) := by
    rw [hgrow.block b hlt (fun e => hne e.symm)]
    exact hbk
  have d0 : w2.cell? ⟨b, 0, none⟩ = some (.pointer (some ⟨b, 0, none⟩)) := by rw [Lib.cell_of_heap hb2]; rfl
  have d1 : w2.cell? ⟨b, 1, none⟩ = some v := by rw [Lib.cell_of_heap hb2]; rfl
  have f1 : w2.frozen? ⟨b, 1, none⟩ = false := Lib.frozen_of_heap hb2 1
  obtain ⟨ao, n', cap, rfl⟩ : ∃ ao n' cap, v' = .slice ao n' cap := by
    rcases hown'.2 with ⟨hv, _⟩ | ⟨g, cap, cur, hv, _⟩
    · exact ⟨_, _, _, hv⟩
    · exact ⟨_, _, _, hv⟩
  go_wp2
  go_ret2
  refine ⟨rfl, ?_, ?_⟩
  · exact Lib.BuilderAt.put (T := 56) (e := 5) hB hb2 (bs' := bs ++ Lib.strCells s) (by simpa [Lib.strCells_length] using hown') (by decide)
  · exact (hb1.grown hgrow (by have := hb1.size; omega) (fun k hk => (hown.lt k hk).1)).setCell (p := ⟨b, 1, none⟩) hB _
end Go.Proofs.YtffmibmefmbdjaaDoor

/- strings.Builder in blocks that are held. -/
set_option linter.unusedVariables false
set_option linter.unusedSimpArgs false
namespace Go.Proofs.YtffmibmefmbdjaaDoor
open Go.RowKit
set_option maxRecDepth 20000

/-- a builder of one's own, and what it holds -/
def IsBld (b : Nat) (l : List UInt8) (cs : List Chunk) : Prop :=
  ∃ p v c1, cs = (b, .cells #[p, v] 56 (0, 0)) :: c1 ∧ (p = .pointer none ∨ p = .pointer (some ⟨b, 0, none⟩)) ∧ OwnSl 5 1 v l.length (Lib.byteCells l) c1 ∧ ∀ c ∈ c1, b < c.1
theorem IsBld.is {E W : World} {b : Nat} {l : List UInt8} {cs F : List Chunk} (h : IsBld b l cs) (hs : Sat E (cs ++ F) W) : Lib.IsBuilder 56 5 b b (Lib.byteCells l) W := by
  obtain ⟨p, v, c1, rfl, hp, ho, hlt⟩ := h
  have hb := hs.has (b, _) (List.mem_append_left _ (.head _))
  have key : ∀ p, W.heap[b]? = some (.cells #[p, v] 56 (0, 0)) → Lib.BuilderAt 56 5 b b p (Lib.byteCells l) W := fun p hb => by
    refine ⟨Nat.le_refl _, v, hb, ?_, ?_⟩
    · rw [Lib.byteCells_length]
      refine ⟨ho.1, ?_⟩
      rcases ho.2 with ⟨rfl, h0, rfl⟩ | ⟨g, cap, sp, rfl, rfl, h1, h2, h3⟩
      · exact .inl ⟨rfl, h0⟩
      · refine .inr ⟨g, cap, List.toArray (Lib.byteCells l ++ sp), rfl, Nat.le_of_lt (hlt _ (.head _)), hs.has (g, _) (List.mem_append_left _ (.tail _ (.head _))), h1, h2, h3, ?_⟩
        have hl : (Lib.byteCells l).length = l.length * 1 := ho.1
        rw [← hl]
        show (Lib.byteCells l ++ sp).take _ = _
        simp
    · rcases ho.2 with ⟨rfl, h0, rfl⟩ | ⟨g, cap, sp, rfl, rfl, h1, h2, h3⟩
      · simp [Value.ownBlock]
      · have := hlt _ (.head _)
        simp only at this
        simp only [Value.ownBlock, ne_eq, Option.some.injEq]
        omega
  rcases hp with rfl | rfl
  · exact .inl (key _ hb)
  · exact .inr (key _ hb)
theorem IsBld.of {E W W' : World} {b : Nat} {l2 : List UInt8} {cs F : List Chunk} (hs : Sat E (cs ++ F) W) (hF : ∀ c ∈ F, c.1 < b) (hb : Below b W W') (h : Lib.BuilderAt 56 5 b b (.pointer (some ⟨b, 0, none⟩)) (Lib.byteCells l2) W') : ∃ cs', IsBld b l2 cs' ∧ Sat E (cs' ++ F) W' := by
  obtain ⟨_, v, hv, ho, hne⟩ := h
  rw [Lib.byteCells_length] at ho
  have hFs : ∀ c ∈ F, W'.heap[c.1]? = some c.2 := fun c hc => (hb.block _ (hF c hc)).trans (hs.has c (List.mem_append_right _ hc))
  have hFn : (F.map Prod.fst).Nodup := by
    have := hs.nodup
    rw [List.map_append, List.nodup_append] at this
    exact this.2.1
  have hFb : ∀ k, b ≤ k → k ∉ F.map Prod.fst := fun k hk hm => by
    obtain ⟨c, hc, e⟩ := List.mem_map.1 hm
    have := hF c hc
    omega
  rcases ho.2 with ⟨rfl, h0⟩ | ⟨g, cap, cur, rfl, hbg, hg, h1, h2, h3, h4⟩
  · refine ⟨[(b, _)], ⟨_, _, [], rfl, .inr rfl, ⟨ho.1, .inl ⟨rfl, h0, rfl⟩⟩, fun c hc => by cases hc⟩, ⟨hb.os.trans hs.os, hb.tape.trans hs.tape, hb.output.trans hs.output, ?_, ?_⟩⟩
    · show (b :: F.map Prod.fst).Nodup
      exact List.nodup_cons.2 ⟨hFb b (Nat.le_refl _), hFn⟩
    · intro c hc
      rcases List.mem_cons.1 hc with rfl | hc
      · exact hv
      · exact hFs c hc
  · have hgb : g ≠ b := fun e => hne (by simp [Value.ownBlock, e])
    have hcur : List.toArray (Lib.byteCells l2 ++ cur.toList.drop (l2.length * 1)) = cur := by
      rw [← h4, List.take_append_drop]
    refine ⟨[(b, _), (g, .cells cur 5 (0, 0))], ⟨_, _, [(g, .cells cur 5 (0, 0))], rfl, .inr rfl, ⟨ho.1, .inr ⟨g, cap, cur.toList.drop (l2.length * 1), rfl, by rw [hcur], h1, h2, ?_⟩⟩, fun c hc => ?_⟩, ⟨hb.os.trans hs.os, hb.tape.trans hs.tape, hb.output.trans hs.output, ?_, ?_⟩⟩
    · exact (congrArg Array.size hcur).trans h3
    · rw [List.mem_singleton.1 hc]; show b < g; omega
    · show (b :: g :: F.map Prod.fst).Nodup
      refine List.nodup_cons.2 ⟨fun hm => ?_, List.nodup_cons.2 ⟨hFb g hbg, hFn⟩⟩
      rcases List.mem_cons.1 hm with e | hm
      · exact hgb e.symm
      · exact hFb b (Nat.le_refl _) hm
    · intro c hc
      rcases List.mem_cons.1 hc with rfl | hc
      · exact hv
      · rcases List.mem_cons.1 hc with rfl | hc
        · exact hg
        · exact hFs c hc
theorem bldLen_any (b : Nat) (t : List UInt8) (cs F : List Chunk) (h : IsBld b t cs) : Fn Tryd.prog 22 [.pointer (some ⟨b, 0, none⟩)] (cs ++ F) fun v l' => v = .int .i64 (t.length : Nat) ∧ l' = cs ++ F := by
  refine ⟨fun E W hs => (Tryd.Builder_Len b b _ W (h.is hs)).mono ?_⟩
  rintro e w' ⟨rfl, rfl⟩
  rw [Lib.byteCells_length]
  exact ⟨_, _, rfl, ⟨rfl, rfl⟩, hs⟩
theorem bldWrite_any (b : Nat) (t s : List UInt8) (cs F : List Chunk) (h : IsBld b t cs) (hF : ∀ c ∈ F, c.1 < b) (hl : t.length + s.length ≤ 1000000) : Fn Tryd.prog 23 [.pointer (some ⟨b, 0, none⟩), str s] (cs ++ F) fun v l' => ∃ cs', IsBld b (t ++ s) cs' ∧ l' = cs' ++ F := by
  refine ⟨fun E W hs => (writeW b b _ ⟨List.toArray s⟩ W (h.is hs) (by rw [Lib.byteCells_length, ba_size]; omega) ?_).mono ?_⟩
  · obtain ⟨p, v, c1, rfl, _⟩ := h
    exact Nat.le_of_lt (hs.lt (c := (b, _)) (List.mem_append_left _ (.head _)))
  · rintro e w' ⟨rfl, h2, h3⟩
    rw [show Lib.strCells ⟨List.toArray s⟩ = Lib.byteCells s from rfl, ← Lib.byteCells_append] at h2
    obtain ⟨cs', h4, h5⟩ := IsBld.of hs hF h3 h2
    exact ⟨_, _, rfl, ⟨cs', h4, rfl⟩, h5⟩
theorem bldString_any (b : Nat) (t : List UInt8) (cs F : List Chunk) (h : IsBld b t cs) (hF : ∀ c ∈ F, c.1 < b) : Fn Tryd.prog 24 [.pointer (some ⟨b, 0, none⟩)] (cs ++ F) fun v l' => v = str t ∧ l' = F := by
  refine ⟨fun E W hs => (Tryd.Builder_String_any b b t W (h.is hs) ?_).mono ?_⟩
  · obtain ⟨p, v, c1, rfl, _⟩ := h
    exact Nat.le_of_lt (hs.lt (c := (b, _)) (List.mem_append_left _ (.head _)))
  · rintro e w' ⟨rfl, h3⟩
    refine ⟨_, F, rfl, ⟨rfl, rfl⟩, ⟨h3.os.trans hs.os, h3.tape.trans hs.tape, h3.output.trans hs.output, ?_, fun c hc => (h3.block _ (hF c hc)).trans (hs.has c (List.mem_append_right _ hc))⟩⟩
    have := hs.nodup
    rw [List.map_append, List.nodup_append] at this
    exact this.2.1
section
variable {P : Program} {ro : Option Nat} {N : Nat} {fr : Fr} {l : List Chunk} {d : Option Nat} {ty : TypeId} {pos : String} {aft : Array Edge} {g : Option (Nat × Bool)} {t : TypeId}
theorem e_allocLt {zs : List Value} [c : ZV P t zs] : OpE P ro N fr l ⟨d, .alloc t, ty, pos, aft, g⟩ (fun v l' => ∃ b, (∀ c, c ∈ l → c.1 < b) ∧ v = .pointer (some ⟨b, 0, none⟩) ∧ l' = (b, .cells zs.toArray t (0, 0)) :: l) := by
  refine ⟨rfl, fun E a W hf hs => ?_⟩
  obtain ⟨i, zv, h1, h2, h3⟩ := zvV_spec c.out
  have hex : (execOp a.eval ⟨d, .alloc t, ty, pos, aft, g⟩).run P W = .ok (.value (.pointer (some ⟨W.heap.size, 0, none⟩))) (W.alloc (.cells zv.cells t)) := by
    simp [execOp, Instr.alloc, zeroValue, newVar, newRow, typeInfo, h1, h2]
  unfold OpVal
  rw [hex]
  refine ⟨_, ⟨W.heap.size, fun c hc => hs.lt hc, rfl, rfl⟩, ?_⟩
  have := hs.alloc (.cells zv.cells t)
  rw [show zs.toArray = zv.cells by rw [← h3]]
  exact this
end
end Go.Proofs.YtffmibmefmbdjaaDoor

/- From a contract on all blocks to the form that a statement's last step wants. -/
set_option linter.unusedVariables false
set_option linter.unusedSimpArgs false
namespace Go.Proofs.YtffmibmefmbdjaaDoor
open Go.RowKit

/-- a list of numbers that came in -/
def InInts (l : List Chunk) (a : Option Addr) (n : Nat) (g : Nat → Int) : Prop :=
  0 < n → ∃ bB off cs t fz, a = some ⟨bB, off, none⟩ ∧ (bB, Obj.cells cs t fz) ∈ l ∧ ∀ i, i < n → cs[off + i * 1]? = some (.int .i64 (g i))

/-- a list of acts that came in -/
def InActs (l : List Chunk) (a : Option Addr) (n : Nat) (D A B : Nat → Int) : Prop :=
  0 < n → ∃ bB off cs t fz, a = some ⟨bB, off, none⟩ ∧ (bB, Obj.cells cs t fz) ∈ l ∧ ∀ i, i < n → off + i * 3 + 3 ≤ cs.size ∧ cs.extract (off + i * 3) (off + i * 3 + 3) = List.toArray [.int .i64 (D i), .int .i64 (A i), .int .i64 (B i)]

def allOf (W : World) : List Chunk := W.heap.toList.zipIdx.map fun x => (x.2, x.1)
theorem allOf_mem (W : World) (k : Nat) (o : Obj) : (k, o) ∈ allOf W ↔ W.heap[k]? = some o := by
  unfold allOf
  rw [List.mem_map]
  constructor
  · rintro ⟨⟨o', k'⟩, h, e⟩
    cases e
    have := List.mem_zipIdx_iff_getElem?.1 h
    simpa using this
  · intro h
    exact ⟨(o, k), List.mem_zipIdx_iff_getElem?.2 (by simpa using h), rfl⟩
theorem sat_all (W : World) : Sat W (allOf W) W := by
  refine ⟨rfl, rfl, rfl, ?_, fun c hc => (allOf_mem W c.1 c.2).1 hc⟩
  unfold allOf
  rw [List.map_map]
  have : (Prod.fst ∘ fun x : Obj × Nat => (x.2, x.1)) = Prod.snd := rfl
  rw [this, List.zipIdx_map_snd]
  exact List.nodup_range'
theorem law_walk {P : Program} {f : FuncId} {args : List Value} {W : World} (h : Fn P f args (allOf W) fun v l' => v = .bool true ∧ ∃ X, l' = X ++ allOf W) :
    Calls P f args.toArray W fun e W' => e = .returned (.bool true) ∧ Below W.heap.size W W' := by
  refine (h.run W W (sat_all W)).mono ?_
  rintro e W' ⟨v, l', rfl, ⟨rfl, X, rfl⟩, hs⟩
  have hb : ∀ k, k < W.heap.size → W'.heap[k]? = W.heap[k]? := fun k hk => by
    rw [Array.getElem?_eq_getElem hk]
    exact hs.has (k, W.heap[k]) (List.mem_append_right _ ((allOf_mem W k _).2 (Array.getElem?_eq_getElem hk)))
  refine ⟨rfl, ⟨hs.os, hs.tape, hs.output, ?_, hb⟩⟩
  by_cases h0 : W.heap.size = 0
  · omega
  · have h1 := hb (W.heap.size - 1) (by omega)
    rw [Array.getElem?_eq_getElem (xs := W.heap) (by omega)] at h1
    have := (Array.getElem?_eq_some_iff.1 h1).1
    omega
theorem rows_ints {W : World} {a : Option Addr} {n cap : Nat} {rows : List (List Value)} (h : IsRows [some .i64] W a n cap rows) : ∃ g, InInts (allOf W) a n g := by
  have hx : ∀ i, i < n → ∃ x : Int, rows[i]?.getD [] = [.int .i64 x] := fun i hi => by
    have hlt : i < rows.length := by rw [h.size]; exact hi
    obtain ⟨c, r, e1, ⟨x, rfl, _⟩, e2⟩ := h.all rows[i] (List.getElem_mem hlt)
    refine ⟨x, ?_⟩
    rw [List.getElem?_eq_getElem hlt, Option.getD_some, e1, show r = [] from e2]
  refine ⟨fun i => if hi : i < n then Classical.choose (hx i hi) else 0, fun h0 => ?_⟩
  obtain ⟨b, off, rfl, hb, hcell⟩ := h.at_ h0
  have c0 := hcell 0 0 h0 (by simp)
  unfold World.cell? at c0
  split at c0
  · rename_i cs t fz hob
    refine ⟨b, off, cs, t, fz, rfl, (allOf_mem W b _).2 hob, fun i hi => ?_⟩
    have ci := hcell i 0 hi (by simp)
    have hob' : W.heap[b]? = some (.cells cs t fz) := hob
    rw [blk_cell hob', Classical.choose_spec (hx i hi)] at ci
    show cs[off + i * 1]? = some (.int .i64 (if hi : i < n then Classical.choose (hx i hi) else 0))
    rw [dif_pos hi]
    simpa using ci
  · have := hx 0 h0
    obtain ⟨x, hx0⟩ := this
    rw [hx0] at c0
    cases c0
theorem rows_acts {W : World} {a : Option Addr} {n cap : Nat} {rows : List (List Value)} (h : IsRows [some .i64, some .i64, some .i64] W a n cap rows) : ∃ D A B, InActs (allOf W) a n D A B := by
  have hx : ∀ i, i < n → ∃ x : Int × Int × Int, rows[i]?.getD [] = [.int .i64 x.1, .int .i64 x.2.1, .int .i64 x.2.2] := fun i hi => by
    have hlt : i < rows.length := by rw [h.size]; exact hi
    obtain ⟨c, r, e1, ⟨x, rfl, _⟩, c2, r2, e2, ⟨y, rfl, _⟩, c3, r3, e3, ⟨z, rfl, _⟩, e4⟩ := h.all rows[i] (List.getElem_mem hlt)
    refine ⟨(x, y, z), ?_⟩
    rw [List.getElem?_eq_getElem hlt, Option.getD_some, e1, e2, e3, show r3 = [] from e4]
  obtain ⟨g, hg⟩ : ∃ g : Nat → Int × Int × Int, ∀ i, i < n → rows[i]?.getD [] = [.int .i64 (g i).1, .int .i64 (g i).2.1, .int .i64 (g i).2.2] :=
    ⟨fun i => if hi : i < n then Classical.choose (hx i hi) else (0, 0, 0), fun i hi => by dsimp only; rw [dif_pos hi]; exact Classical.choose_spec (hx i hi)⟩
  refine ⟨fun i => (g i).1, fun i => (g i).2.1, fun i => (g i).2.2, fun h0 => ?_⟩
  obtain ⟨b, off, rfl, hb, hcell⟩ := h.at_ h0
  have c0 := hcell 0 0 h0 (by simp)
  unfold World.cell? at c0
  split at c0
  · rename_i cs t fz hob
    have hob' : W.heap[b]? = some (.cells cs t fz) := hob
    refine ⟨b, off, cs, t, fz, rfl, (allOf_mem W b _).2 hob', fun i hi => ?_⟩
    have c1 := hcell i 0 hi (by simp)
    have c2 := hcell i 1 hi (by simp)
    have c3 := hcell i 2 hi (by simp)
    rw [blk_cell hob', hg i hi] at c1 c2 c3
    simp only [List.length_cons, List.length_nil, Nat.reduceAdd, Nat.add_zero, List.getElem?_cons_zero, List.getElem?_cons_succ] at c1 c2 c3
    have hlt := (Array.getElem?_eq_some_iff.1 c3).1
    refine ⟨by omega, ?_⟩
    apply Array.ext_getElem?
    intro j
    rw [Array.getElem?_extract]
    by_cases hj : j < 3
    · rw [if_pos (by omega)]
      match j, hj with
      | 0, _ => simpa using c1
      | 1, _ => simpa using c2
      | 2, _ => simpa using c3
    · rw [if_neg (by omega)]
      simp; omega
  · obtain ⟨x, hx0⟩ := hx 0 h0
    rw [hx0] at c0
    cases c0
end Go.Proofs.YtffmibmefmbdjaaDoor

/- Rows of any flat struct that came in, as blocks. -/
set_option linter.unusedVariables false
set_option linter.unusedSimpArgs false
namespace Go.Proofs.YtffmibmefmbdjaaDoor
open Go.RowKit

def InRows (l : List Chunk) (a : Option Addr) (n k : Nat) (rows : List (List Value)) : Prop :=
  0 < n → ∃ bB off cs t fz, a = some ⟨bB, off, none⟩ ∧ (bB, Obj.cells cs t fz) ∈ l ∧ ∀ i row, rows[i]? = some row → off + i * k + k ≤ cs.size ∧ cs.extract (off + i * k) (off + i * k + k) = List.toArray row ∧ ∀ j v, row[j]? = some v → cs[off + i * k + j]? = some v
theorem rows_in {W : World} {a : Option Addr} {n cap : Nat} {rows : List (List Value)} {ks : List (Option IntKind)} (h : IsRows ks W a n cap rows) (hk : 0 < ks.length) : InRows (allOf W) a n ks.length rows := by
  intro h0
  obtain ⟨b, off, rfl, hb, hcell⟩ := h.at_ h0
  have hr0 : ∃ r0, rows[0]? = some r0 := ⟨_, List.getElem?_eq_getElem (by rw [h.size]; exact h0)⟩
  obtain ⟨r0, hr0⟩ := hr0
  have c0 := hcell 0 0 h0 hk
  rw [hr0, Option.getD_some] at c0
  have hl0 := (h.all r0 (List.mem_of_getElem? hr0)).len
  have e0 : r0[0]? = some (r0[0]'(by omega)) := List.getElem?_eq_getElem (by omega)
  unfold World.cell? at c0
  split at c0
  · rename_i cs t fz hob
    have hob' : W.heap[b]? = some (.cells cs t fz) := hob
    refine ⟨b, off, cs, t, fz, rfl, (allOf_mem W b _).2 hob', fun i row hrow => ?_⟩
    have hi : i < n := by have := (List.getElem?_eq_some_iff.1 hrow).1; rw [h.size] at this; exact this
    have hl := (h.all row (List.mem_of_getElem? hrow)).len
    have hc : ∀ j, j < ks.length → cs[off + i * ks.length + j]? = row[j]? := fun j hj => by
      have := hcell i j hi hj
      rw [blk_cell hob', hrow, Option.getD_some] at this
      exact this
    have hlast := hc (ks.length - 1) (by omega)
    rw [List.getElem?_eq_getElem (show ks.length - 1 < row.length by omega)] at hlast
    have hlt := (Array.getElem?_eq_some_iff.1 hlast).1
    refine ⟨by omega, ?_, fun j v hv => ?_⟩
    · apply Array.ext_getElem?
      intro j
      rw [Array.getElem?_extract]
      by_cases hj : j < ks.length
      · rw [if_pos (by omega), hc j hj, List.getElem?_toArray]
      · rw [if_neg (by omega), List.getElem?_toArray, List.getElem?_eq_none (by omega)]
    · have hj := (List.getElem?_eq_some_iff.1 hv).1
      rw [hc j (by omega)]; exact hv
  · rw [e0] at c0
    cases c0
end Go.Proofs.YtffmibmefmbdjaaDoor

/- script.Print. -/
set_option linter.unusedVariables false
set_option linter.unusedSimpArgs false
namespace Go.Proofs.YtffmibmefmbdjaaDoor
open Go.RowKit
set_option maxRecDepth 20000
set_option pp.deepTerms false
set_option pp.deepTerms.threshold 4

theorem lineGo_len {cs : List Value} (hc : IsEv cs) : ∀ (ps : List (Nat × Bool)) (s : List UInt8), (∀ p ∈ ps, (p.2 = false ∧ (p.1 = 1 ∨ p.1 = 2 ∨ p.1 = 12 ∨ p.1 = 13 ∨ p.1 = 14)) ∨ (p.2 = true ∧ 3 ≤ p.1 ∧ p.1 ≤ 11)) → (lineGo cs s ps).1.length ≤ s.length + 21 * ps.length
  | [], s, _ => by show s.length ≤ _; omega
  | p :: ps, s, hp => by
    have e : lineGo cs s (p :: ps) = if p.2 = false ∧ ¬ (0 ≤ fldI cs p.1 ∧ fldI cs p.1 ≤ 999999) then ([], 3) else lineGo cs (s ++ (32 :: Lib.decDigits (fldI cs p.1).toNat)) ps := rfl
    rw [e]
    by_cases h : p.2 = false ∧ ¬ (0 ≤ fldI cs p.1 ∧ fldI cs p.1 ≤ 999999)
    · rw [if_pos h]; simp
    · rw [if_neg h]
      have h1 := lineGo_len hc ps (s ++ (32 :: Lib.decDigits (fldI cs p.1).toNat)) (fun q hq => hp q (.tail _ hq))
      have h2 : (fldI cs p.1).toNat < 18446744073709551616 := by
        rcases hp p (.head _) with ⟨h3, _⟩ | ⟨h3, h4⟩
        · have : 0 ≤ fldI cs p.1 ∧ fldI cs p.1 ≤ 999999 := Decidable.byContradiction fun h5 => h ⟨h3, h5⟩
          omega
        · have := (hc.word p.1 h4).2; omega
      have h3 := dec_len _ h2
      rw [List.length_append, List.length_cons] at h1
      rw [List.length_cons]
      omega
theorem lineC_len {cs : List Value} (hc : IsEv cs) : (lineC cs).1.length ≤ 176 := by
  unfold lineC
  split
  · have h1 := lineGo_len hc (pts (fldI cs 0)) (nm (fldI cs 0)) (fun p h => pts_mem h)
    have h2 := nm_len (fldI cs 0)
    have h3 := pts_len (fldI cs 0)
    omega
  · simp
def lnOf (e : List Value) : List UInt8 := (lineC e).1 ++ [10]
def prFirst : List (List Value) → Int
  | [] => 0
  | e :: r => if (lineC e).2 ≠ 0 then (lineC e).2 else prFirst r
def txt (es : List (List Value)) : List UInt8 := es.flatMap lnOf
/-- events' text, or the error -/
def printR (es : List (List Value)) : List UInt8 × Int := if prFirst es ≠ 0 then ([], prFirst es) else if (txt es).length > 65536 then ([], 11) else (txt es, 0)
theorem prFirst_at {es : List (List Value)} {i : Nat} {e : List Value} (he : es[i]? = some e) (hn : (lineC e).2 ≠ 0) (h : ∀ j, j < i → ∀ x, es[j]? = some x → (lineC x).2 = 0) : prFirst es = (lineC e).2 := by
  induction es generalizing i with
  | nil => simp at he
  | cons x r ih =>
    cases i with
    | zero =>
      simp only [List.getElem?_cons_zero, Option.some.injEq] at he
      subst he
      exact if_pos hn
    | succ i =>
      have h0 := h 0 (by omega) x rfl
      show (if (lineC x).2 ≠ 0 then (lineC x).2 else prFirst r) = _
      rw [if_neg (by simpa using h0)]
      exact ih (by simpa using he) fun j hj y hy => h (j + 1) (by omega) y (by simpa using hy)
theorem prFirst_no {es : List (List Value)} (h : ∀ (j : Nat) (x : List Value), es[j]? = some x → (lineC x).2 = 0) : prFirst es = 0 := by
  induction es with
  | nil => rfl
  | cons x r ih =>
    have h0 := h 0 x rfl
    show (if (lineC x).2 ≠ 0 then (lineC x).2 else prFirst r) = _
    rw [if_neg (by simpa using h0)]
    exact ih fun j y hy => h (j + 1) y (by simpa using hy)
theorem txt_take {es : List (List Value)} {i : Nat} {e : List Value} (he : es[i]? = some e) : txt (es.take (i + 1)) = txt (es.take i) ++ lnOf e := by
  unfold txt
  rw [List.take_add_one, he, List.flatMap_append]
  simp
theorem txt_le (es : List (List Value)) (i : Nat) : (txt (es.take i)).length ≤ (txt es).length := by
  have : txt es = txt (es.take i) ++ txt (es.drop i) := by unfold txt; rw [← List.flatMap_append, List.take_append_drop]
  rw [this, List.length_append]; omega
set_option maxHeartbeats 1000000 in
theorem print_any (a : Option Addr) (cap : Nat) (es : List (List Value)) (hes : ∀ e ∈ es, IsEv e) (h1s : ∀ e ∈ es, ∀ v ∈ e, v.oneCell' = true) (hn : es.length ≤ 1000000) (l : List Chunk) (hG : GL l) (hR : InRows l a es.length 15 es) :
    Fn Tryd.prog 14 [.slice a es.length cap] l fun v l' => v = lnV (printR es) ∧ l' = l := by
  refine fn_of_body Tryd.func14 rfl rfl fun E => ?_
  simp only [argF, Tryd.ntmps14]
  refine gz ?_
  refine t_e e_allocLt rfl rfl rfl ?_
  rintro _ _ ⟨bB, hB, rfl, rfl⟩
  refine gz ?_
  refine k_loop (α := Nat × Bool × List UInt8 × List Chunk) (fun x => [(4, .pointer (some ⟨bB, 0, none⟩)), (5, .bool x.2.1), (10, .slice a es.length cap), (11, .int .i64 es.length), (12, .int .i64 x.1)]) (fun x => x.2.2.2 ++ l)
    (fun x => x.1 ≤ es.length ∧ IsBld bB x.2.2.1 x.2.2.2 ∧ x.2.2.1.length ≤ 65536 ∧ (∀ j, j < x.1 → ∀ y, es[j]? = some y → (lineC y).2 = 0) ∧ ((x.2.1 = false ∧ x.2.2.1 = txt (es.take x.1)) ∨ (x.2.1 = true ∧ 65536 < (txt (es.take x.1)).length))) (fun x => es.length - x.1)
    (0, false, [], [(bB, .cells (List.toArray [.pointer none, .slice none 0 0]) 56 (0, 0))]) ⟨by omega, ⟨_, _, [], rfl, .inl rfl, OwnSl.nil _ _, fun c hc => by cases hc⟩, by simp, fun j hj => by simp at hj, .inl ⟨rfl, rfl⟩⟩ ⟨rfl, rfl, rfl, rfl, rfl, trivial⟩ .refl ?_
  rintro ⟨i, lg, t, cs⟩ ⟨hi, hb, htl, hj, hst⟩
  simp only at hi hb htl hj hst ⊢
  by_cases hlt : i < es.length
  · obtain ⟨e, he⟩ : ∃ e, es[i]? = some e := ⟨_, List.getElem?_eq_getElem hlt⟩
    have hem := List.mem_of_getElem? he
    have hE := hes e hem
    have h1 := h1s e hem
    obtain ⟨bE, off, ec, et, fz, rfl, hm, hrow⟩ := hR (by omega)
    obtain ⟨r1, r2, _⟩ := hrow i e he
    have hll := lineC_len hE
    have htx := txt_take he
    refine gz ?_
    refine t_q (q_loadA (n := 15) rfl (List.mem_append_right _ hm) r1 r2) rfl rfl rfl ?_
    refine t_e e_alloc rfl rfl rfl ?_; rintro _ _ ⟨b7, _, rfl, rfl⟩
    apply t_n
    · apply e_storeLA
      · rfl
      · rfl
      · exact hE.len
      · exact h1
      · exact zMem
      · exact lseta_full zEv e hE.len.symm
      · exact zUpd
    · rfl
    · rfl
    rintro _ _ ⟨rfl, rfl⟩
    refine gz ?_
    refine t_q (q_loadL rfl (by exact zMem) (lsub15 hE.len)) rfl rfl rfl ?_
    refine t_e (e_call0 rfl rfl (line_any e hE _ ((hG.app cs).cons _))) rfl rfl rfl ?_
    rintro _ _ ⟨rfl, rfl⟩
    unfold lnV
    refine gz ?_
    by_cases hc : (lineC e).2 = 0
    · refine gz ?_
      refine s_keep (.drop .refl) ?_
      refine t_e (e_call0 rfl rfl (bldLen_any bB t cs l hb)) rfl rfl rfl ?_
      rintro _ _ ⟨rfl, rfl⟩
      refine gz ?_
      have hj' : ∀ j, j < i + 1 → ∀ y, es[j]? = some y → (lineC y).2 = 0 := fun j hjk y hy => by
        by_cases ej : j = i
        · subst ej; rw [he] at hy; cases hy; exact hc
        · exact hj j (by omega) y hy
      have hln : (lnOf e).length = (lineC e).1.length + 1 := by unfold lnOf; simp
      by_cases hov : t.length + (lineC e).1.length + 1 > 65536
      · refine gz ?_
        refine k_next (i + 1, true, t, cs) ⟨by omega, hb, htl, hj', .inr ⟨rfl, ?_⟩⟩ (by simp only; omega) ⟨rfl, rfl, rfl, rfl, rfl, trivial⟩ .refl
        simp only
        rw [htx, List.length_append, hln]
        rcases hst with ⟨_, rfl⟩ | ⟨_, h⟩ <;> omega
      · refine gz ?_
        refine t_e (e_call0 rfl rfl (bldWrite_any bB t ((lineC e).1 ++ [10]) cs l hb hB (by simp; omega))) rfl rfl rfl ?_
        rintro _ _ ⟨cs', hb', rfl⟩
        refine gz ?_
        refine k_next (i + 1, lg, t ++ ((lineC e).1 ++ [10]), cs') ⟨by omega, hb', by simp; omega, hj', ?_⟩ (by simp only; omega) ⟨rfl, rfl, rfl, rfl, rfl, trivial⟩ .refl
        simp only
        rw [htx]
        rcases hst with ⟨h2, rfl⟩ | ⟨h2, h⟩
        · exact .inl ⟨h2, rfl⟩
        · exact .inr ⟨h2, by rw [List.length_append]; omega⟩
    · refine gz ?_
      refine k_ret [] rfl (l' := l) (.drop (Keep.dropL cs .refl)) (by exact zRes) ⟨?_, rfl⟩
      unfold printR
      rw [prFirst_at he hc hj, if_pos hc]
      rfl
  · obtain rfl : i = es.length := by omega
    have hpf : prFirst es = 0 := prFirst_no fun j x hx => hj j (List.getElem?_eq_some_iff.1 hx).1 x hx
    rw [List.take_length] at hst
    rcases hst with ⟨rfl, rfl⟩ | ⟨rfl, h⟩
    · refine gz ?_
      refine t_e (e_call0 rfl rfl (bldString_any bB _ cs l hb hB)) rfl rfl rfl ?_
      rintro _ _ ⟨rfl, rfl⟩
      refine gz ?_
      refine k_ret [] rfl .refl (by exact zRes) ⟨?_, rfl⟩
      unfold printR
      rw [hpf, if_neg (by simp), if_neg (by omega)]; rfl
    · refine gz ?_
      refine k_ret [] rfl (l' := l) (Keep.dropL cs .refl) (by exact zRes) ⟨?_, rfl⟩
      unfold printR
      rw [hpf, if_neg (by simp), if_pos h]; rfl
end Go.Proofs.YtffmibmefmbdjaaDoor

/- Lines and events: plain laws of reading what was printed, and printing what was read. -/
set_option linter.unusedVariables false
set_option linter.unusedSimpArgs false
namespace Go.Proofs.YtffmibmefmbdjaaDoor
open Go.RowKit

theorem fldI_set_ne {cs : List Value} {o o' : Nat} {v : Value} (h : o ≠ o') : fldI (cs.set o v) o' = fldI cs o' := by
  rw [fldI_set, if_neg fun h2 => h h2.1]
theorem fldI_set_eq {cs : List Value} {p : Nat × Bool} {n : Nat} (h : p.1 < cs.length) : fldI (cs.set p.1 (valP p n)) p.1 = n := by
  rw [fldI_set, if_pos ⟨rfl, h⟩]
  unfold valP
  cases p.2 <;> rfl
theorem fill_line : ∀ (ws : List (List UInt8)) (cs0 : List Value) (ps : List (Nat × Bool)) (s : List UInt8) {cs : List Value}, fillG cs0 ps ws = some cs → ws.length = ps.length → (ps.map Prod.fst).Nodup → (∀ p ∈ ps, p.1 < cs0.length) →
    (∀ o, o ∉ ps.map Prod.fst → fldI cs o = fldI cs0 o) ∧ lineGo cs s ps = (s ++ ws.flatMap fun w => 32 :: w, 0)
  | [], cs0, [], s, cs, h, _, _, _ => by
    rw [fillG_nil] at h; cases h
    exact ⟨fun o _ => rfl, by show (s, (0 : Int)) = (s ++ [], 0); rw [List.append_nil]⟩
  | [], _, _ :: _, _, _, _, hl, _, _ => by simp at hl
  | _ :: _, _, [], _, _, _, hl, _, _ => by simp at hl
  | w :: ws, cs0, p :: ps, s, cs, h, hl, hn, hlt => by
    have e : fillG cs0 (p :: ps) (w :: ws) = match rdL w (limP p) with | some n => fillG (cs0.set p.1 (valP p n)) ps ws | none => none := rfl
    rw [e] at h
    cases hr : rdL w (limP p) with
    | none => rw [hr] at h; cases h
    | some n =>
      rw [hr] at h
      rw [List.map_cons, List.nodup_cons] at hn
      obtain ⟨h1, h2⟩ := rdL_some.1 hr
      obtain ⟨h3, h4⟩ := rdN_some h1
      obtain ⟨i1, i2⟩ := fill_line ws (cs0.set p.1 (valP p n)) ps (s ++ (32 :: w)) h (by simpa using hl) hn.2 (fun q hq => by rw [List.length_set]; exact hlt q (.tail _ hq))
      have hp : fldI cs p.1 = n := by rw [i1 _ hn.1, fldI_set_eq (hlt p (.head _))]
      refine ⟨fun o ho => ?_, ?_⟩
      · rw [List.map_cons, List.mem_cons, not_or] at ho
        rw [i1 o ho.2, fldI_set_ne fun e => ho.1 e.symm]
      · show (if p.2 = false ∧ ¬ (0 ≤ fldI cs p.1 ∧ fldI cs p.1 ≤ 999999) then ([], 3) else lineGo cs (s ++ (32 :: Lib.decDigits (fldI cs p.1).toNat)) ps) = _
        rw [hp, if_neg, Int.toNat_natCast, h4, i2]
        · rw [List.flatMap_cons, List.append_assoc]
        · rintro ⟨h5, h6⟩
          unfold limP at h2
          rw [h5] at h2
          simp only [Bool.false_eq_true, if_false] at h2
          omega
theorem pts_nodup (k : Int) : ((pts k).map Prod.fst).Nodup := by
  unfold pts
  repeat' split
  all_goals decide
theorem pts_zero (k : Int) : 0 ∉ (pts k).map Prod.fst := by
  unfold pts
  repeat' split
  all_goals decide
theorem pts_lt {k : Int} {p : Nat × Bool} (h : p ∈ pts k) : p.1 < 15 := by
  have := pts_mem h; omega
theorem kind_some {w : List UInt8} {k : Int} (h : kindOf w = some k) : (1 ≤ k ∧ k ≤ 6) ∧ nm k = w := by
  unfold kindOf at h
  repeat' split at h
  all_goals first | (cases h; refine ⟨by omega, ?_⟩; symm; assumption) | cases h
/-- the text of a list of words -/
def joinL (c : UInt8) : List (List UInt8) → List UInt8
  | [] => []
  | w :: ws => w ++ ws.flatMap fun x => c :: x
theorem split_join (c : UInt8) (s : List UInt8) : joinL c (splitL c s) = s := by
  induction s with
  | nil => rfl
  | cons x r ih =>
    have e1 : splitL c (x :: r) = if x = c then [] :: splitL c r else match splitL c r with | w :: ws => (x :: w) :: ws | [] => [[x]] := rfl
    rw [e1]
    cases hr : splitL c r with
    | nil => exact absurd hr (splitL_ne _ _)
    | cons w ws =>
      rw [hr] at ih
      by_cases h : x = c
      · rw [if_pos h]
        show [] ++ (w :: ws).flatMap (fun x => c :: x) = x :: r
        rw [List.flatMap_cons, h, ← ih]; rfl
      · rw [if_neg h, ← ih]; rfl
theorem split_word {c : UInt8} {w : List UInt8} (h : c ∉ w) (t : List UInt8) : splitL c (w ++ c :: t) = w :: splitL c t := by
  induction w with
  | nil => show (if c = c then [] :: splitL c t else _) = _; rw [if_pos rfl]
  | cons x r ih =>
    rw [List.mem_cons, not_or] at h
    have e1 : splitL c (x :: (r ++ c :: t)) = if x = c then [] :: splitL c (r ++ c :: t) else match splitL c (r ++ c :: t) with | w :: ws => (x :: w) :: ws | [] => [[x]] := rfl
    rw [List.cons_append, e1, if_neg fun e => h.1 e.symm, ih h.2]
theorem split_one {c : UInt8} {w : List UInt8} (h : c ∉ w) : splitL c w = [w] := by
  induction w with
  | nil => rfl
  | cons x r ih =>
    rw [List.mem_cons, not_or] at h
    have e1 : splitL c (x :: r) = if x = c then [] :: splitL c r else match splitL c r with | w :: ws => (x :: w) :: ws | [] => [[x]] := rfl
    rw [e1, if_neg fun e => h.1 e.symm, ih h.2]
theorem split_of_join {c : UInt8} : ∀ (ws : List (List UInt8)) (w : List UInt8), c ∉ w → (∀ x ∈ ws, c ∉ x) → splitL c (w ++ ws.flatMap fun x => c :: x) = w :: ws
  | [], w, h, _ => by rw [List.flatMap_nil, List.append_nil]; exact split_one h
  | x :: ws, w, h, hw => by
    rw [List.flatMap_cons]
    show splitL c (w ++ c :: (x ++ ws.flatMap fun x => c :: x)) = _
    rw [split_word h, split_of_join ws x (hw x (.head _)) fun y hy => hw y (.tail _ hy)]
/-- what is read is printed so -/
theorem ev_line {w : List UInt8} {cs : List Value} (h : evOf w = some cs) : lineC cs = (w, 0) ∧ fldI cs 0 ≠ 0 := by
  obtain ⟨w0, ws, k, hL, hk, hl, hf⟩ := evOf_some h
  obtain ⟨hk1, hk2⟩ := kind_some hk
  obtain ⟨i1, i2⟩ := fill_line ws (zk k) (pts k) (nm k) hf hl (pts_nodup k) (fun p hp => pts_lt hp)
  have h0 : fldI cs 0 = k := by rw [i1 0 (pts_zero k)]; rfl
  refine ⟨?_, by rw [h0]; omega⟩
  unfold lineC
  rw [h0, if_pos hk1, i2, hk2]
  have := split_join 32 w
  rw [hL] at this
  exact Prod.ext this rfl
/-- all lines of a text, each with its end: the text, but for an end behind it -/
theorem lines_text : ∀ (n : Nat) (s : List UInt8), s.length = n → (linesL s).flatMap (fun w => w ++ [10]) = s ∨ (linesL s).flatMap (fun w => w ++ [10]) = s ++ [10] := by
  intro n
  induction n using Nat.strongRecOn with
  | ind n ih =>
    intro s hn
    by_cases h : s = []
    · subst h; exact .inl rfl
    · rw [linesL_cons h, List.flatMap_cons]
      rcases cut_index 10 s with ⟨_, h2⟩ | ⟨i, _, hi, h2⟩
      · rw [h2]
        right
        show (s ++ [10]) ++ (linesL []).flatMap _ = _
        rw [linesL_nil]; simp
      · have hsh := cut_short h
        have hs : s = s.take i ++ 10 :: s.drop (i + 1) := by
          have hj := split_join 10 s
          have hc := splitL_cut 10 s
          rw [h2, if_pos rfl] at hc
          rw [hc] at hj
          have hj2 := split_join 10 (s.drop (i + 1))
          cases hd : splitL 10 (s.drop (i + 1)) with
          | nil => exact absurd hd (splitL_ne _ _)
          | cons x r =>
            rw [hd] at hj hj2
            conv => lhs; rw [← hj]
            rw [← hj2]
            show s.take i ++ (x :: r).flatMap (fun x => 10 :: x) = s.take i ++ 10 :: (x ++ r.flatMap fun x => 10 :: x)
            rw [List.flatMap_cons]; rfl
        rw [h2] at hsh ⊢
        have hsh : (s.drop (i + 1)).length < s.length := hsh
        rcases ih _ (by omega) (s.drop (i + 1)) rfl with h3 | h3
        · left
          simp only
          rw [h3]
          conv => rhs; rw [hs]
          simp
        · right
          simp only
          rw [h3]
          conv => rhs; rw [hs]
          simp
theorem goL_ok : ∀ (L : List (List UInt8)) {es : List (List Value)}, goL L = .ok es → es.length = L.length ∧ (∀ e ∈ es, IsEv e ∧ (∀ v ∈ e, v.oneCell' = true) ∧ (lineC e).2 = 0) ∧ txt es = L.flatMap fun w => w ++ [10]
  | [], es, h => by cases h; exact ⟨rfl, fun e he => (by cases he), rfl⟩
  | w :: r, es, h => by
    have h1 : goL (w :: r) = match evOf w with | none => .error 1 | some e => match goL r with | .ok es => .ok (e :: es) | .error n => .error (n + 1) := rfl
    rw [h1] at h
    cases he : evOf w with
    | none => rw [he] at h; cases h
    | some e =>
      rw [he] at h
      cases hr : goL r with
      | error n => rw [hr] at h; cases h
      | ok es2 =>
        rw [hr] at h
        obtain rfl : e :: es2 = es := by cases h; rfl
        obtain ⟨i1, i2, i3⟩ := goL_ok r hr
        obtain ⟨k1, k2⟩ := ev_line he
        obtain ⟨k3, k4⟩ := evOf_ev he
        refine ⟨by simp [i1], fun x hx => ?_, ?_⟩
        · rcases List.mem_cons.1 hx with rfl | hx
          · exact ⟨k3, k4, by rw [k1]⟩
          · exact i2 x hx
        · unfold txt at i3 ⊢
          rw [List.flatMap_cons, List.flatMap_cons, i3]
          show (lineC e).1 ++ [10] ++ _ = _
          rw [k1]
theorem goL_err : ∀ (L : List (List UInt8)) {n : Nat}, goL L = .error n → 1 ≤ n
  | [], n, h => by cases h
  | w :: r, n, h => by
    have h1 : goL (w :: r) = match evOf w with | none => .error 1 | some e => match goL r with | .ok es => .ok (e :: es) | .error n => .error (n + 1) := rfl
    rw [h1] at h
    cases he : evOf w with
    | none => rw [he] at h; cases h; omega
    | some e =>
      rw [he] at h
      cases hr : goL r with
      | error m => rw [hr] at h; cases h; omega
      | ok es2 => rw [hr] at h; cases h
/-- a text that is read is the one that is printed, but for a line's end behind it -/
theorem strict_law {s : List UInt8} (hs : s.length ≤ 20000) {es : List (List Value)} (h : goL (linesL s) = .ok es) : ∃ t, printR es = (t, 0) ∧ (t = s ∨ t = s ++ [10]) := by
  obtain ⟨h1, h2, h3⟩ := goL_ok _ h
  have hp : prFirst es = 0 := prFirst_no fun j x hx => (h2 x (List.mem_of_getElem? hx)).2.2
  have ht := lines_text _ s rfl
  rw [← h3] at ht
  refine ⟨txt es, ?_, ht⟩
  unfold printR
  rw [hp, if_neg (by simp), if_neg]
  rcases ht with ht | ht <;> rw [ht] <;> simp <;> omega
end Go.Proofs.YtffmibmefmbdjaaDoor

/- awake; ScriptStrict. -/
-- GU
set_option linter.unusedVariables false
set_option linter.unusedSimpArgs false
namespace Go.Proofs.YtffmibmefmbdjaaDoor
open Go.RowKit
set_option maxRecDepth 20000
set_option pp.deepTerms false
set_option pp.deepTerms.threshold 4

theorem dec0 : Lib.decDigits 0 = [48] := by rw [Lib.decDigits_one (by omega)]; rfl
theorem dec1 : Lib.decDigits 1 = [49] := by rw [Lib.decDigits_one (by omega)]; rfl
theorem dec7 : Lib.decDigits 7 = [55] := by rw [Lib.decDigits_one (by omega)]; rfl
theorem dec64 : Lib.decDigits 64 = [54, 52] := by rw [dec_step 64 (by omega), show 64 / 10 = 6 from rfl, show 64 % 10 = 4 from rfl, Lib.decDigits_one (by omega), Lib.decDigits_one (by omega)]; rfl
theorem rd0 : rdL [48] 999999 = some 0 := rdL_some.2 ⟨by rw [← dec0]; exact rdN_dec (by omega), by omega⟩
theorem rd1 : rdL [49] 999999 = some 1 := rdL_some.2 ⟨by rw [← dec1]; exact rdN_dec (by omega), by omega⟩
theorem rd08 (m : Nat) : rdL [48, 56] m = none := rdL_none.2 fun n hn _ => by
  obtain ⟨h1, h2⟩ := rdN_some hn
  by_cases h0 : n = 0
  · subst h0; rw [dec0] at h2; cases h2
  · have := dec_head n (by omega)
    rw [h2] at this
    exact this rfl
def awE : List Value := [.int .i64 4, .int .i64 1, .int .i64 0, .int .u64 0, .int .u64 0, .int .u64 0, .int .u64 0, .int .u64 0, .int .u64 0, .int .u64 0, .int .u64 64, .int .u64 7, .int .i64 0, .int .i64 0, .int .i64 0]
theorem isEv_aw : IsEv awE := by
  refine ⟨rfl, fun o ho => ?_, fun o ho => ?_⟩
  · rcases ho with rfl | rfl | rfl | rfl | rfl | rfl <;> rfl
  · have h1 : o = 3 ∨ o = 4 ∨ o = 5 ∨ o = 6 ∨ o = 7 ∨ o = 8 ∨ o = 9 ∨ o = 10 ∨ o = 11 := by omega
    rcases h1 with rfl | rfl | rfl | rfl | rfl | rfl | rfl | rfl | rfl <;> exact ⟨rfl, by decide, by decide⟩
theorem line_aw : lineC awE = ([115, 116, 111, 114, 101, 32, 49, 32, 54, 52, 32, 55], 0) := by
  show lineGo awE (nm 4) (pts 4) = _
  show lineGo awE (nm 4 ++ (32 :: Lib.decDigits 1) ++ (32 :: Lib.decDigits 64) ++ (32 :: Lib.decDigits 7)) [] = _
  rw [dec1, dec64, dec7]; rfl
def awS : List UInt8 := [112, 105, 99, 107, 32, 48, 32, 49, 10, 108, 111, 97, 100, 32, 48, 32, 48, 56]
theorem parse_aw : parseR awS = ([], 2, 5) := by
  have h1 : linesL awS = [[112, 105, 99, 107, 32, 48, 32, 49], [108, 111, 97, 100, 32, 48, 32, 48, 56]] := by decide
  have e1 : evOf [112, 105, 99, 107, 32, 48, 32, 49] ≠ none := by
    rw [evOf_fill (w := [112, 105, 99, 107]) (k := 1) (ws := [[48], [49]]) (by decide) (by decide) (by decide)]
    show (match rdL [48] 999999 with | some n => fillG ((zk 1).set 1 (valP (1, false) n)) [(2, false)] [[49]] | none => none) ≠ none
    rw [rd0]
    show (match rdL [49] 999999 with | some n => fillG (((zk 1).set 1 (valP (1, false) 0)).set 2 (valP (2, false) n)) [] [] | none => none) ≠ none
    rw [rd1]
    show fillG _ [] [] ≠ none
    rw [fillG_nil]; simp
  have e2 : evOf [108, 111, 97, 100, 32, 48, 32, 48, 56] = none := by
    rw [evOf_fill (w := [108, 111, 97, 100]) (k := 3) (ws := [[48], [48, 56]]) (by decide) (by decide) (by decide)]
    show (match rdL [48] 999999 with | some n => fillG ((zk 3).set 1 (valP (1, false) n)) [(10, true)] [[48, 56]] | none => none) = none
    rw [rd0]
    show (match rdL [48, 56] 18446744073709551615 with | some n => fillG (((zk 3).set 1 (valP (1, false) 0)).set 10 (valP (10, true) n)) [] [] | none => none) = none
    rw [rd08]
  obtain ⟨c1, hc1⟩ := Option.ne_none_iff_exists'.1 e1
  have hg : goL (linesL awS) = .error 2 := by
    rw [h1]
    have h3 := goL_step hc1 [[108, 111, 97, 100, 32, 48, 32, 48, 56]] []
    have h4 := goL_bad e2 [] [c1]
    have h5 : ∀ x : Except Nat (List (List Value)), addP [] x = x := fun x => by cases x <;> simp [addP]
    rw [h5] at h3
    rw [h3]
    exact h4
  exact parseR_bad (by decide) hg
set_option maxHeartbeats 1000000 in
theorem awake_any (l : List Chunk) (hG : GL l) : Fn Tryd.prog 8 [] l fun v l' => v = .bool true ∧ l' = l := by
  refine fn_of_body Tryd.func8 rfl rfl fun E => ?_
  simp only [argF, Tryd.ntmps8]
  refine gzU ?_
  refine t_e (e_call0 rfl rfl (line_any awE isEv_aw l hG)) rfl rfl rfl ?_
  rintro _ _ ⟨rfl, rfl⟩
  rw [line_aw]
  unfold lnV
  refine gzU ?_
  refine t_e (e_call0 rfl rfl (parse_any awS (by decide) _ hG)) rfl rfl rfl ?_
  rw [parse_aw]
  rintro _ _ ⟨sv, c1, rfl, ho, rfl⟩
  obtain ⟨p, cap, rfl⟩ := ho.shape
  refine gzU ?_
  rw [decide_eq_true (rfl : ([115, 116, 111, 114, 101, 32, 49, 32, 54, 52, 32, 55] : List UInt8) = [115, 116, 111, 114, 101, 32, 49, 32, 54, 52, 32, 55])]
  refine gzU ?_
  exact k_ret [] rfl (Keep.dropL c1 .refl) (by exact zRes) ⟨rfl, rfl⟩
end Go.Proofs.YtffmibmefmbdjaaDoor

/- ScriptStrict. -/
-- GU
set_option linter.unusedVariables false
set_option linter.unusedSimpArgs false
namespace Go.Proofs.YtffmibmefmbdjaaDoor
open Go.RowKit
set_option maxRecDepth 20000
set_option pp.deepTerms false
set_option pp.deepTerms.threshold 4

theorem OwnSl.inRows {e k : Nat} {v : Value} {es : List (List Value)} {cs : List Chunk} (h : OwnSl e k v es.length es.flatten cs) (hk : ∀ r ∈ es, r.length = k) (l : List Chunk) : ∃ a cap, v = .slice a es.length cap ∧ InRows (cs ++ l) a es.length k es := by
  rcases h.2 with ⟨rfl, h0, rfl⟩ | ⟨b, cap, sp, rfl, rfl, h1, h2, h3⟩
  · exact ⟨none, 0, by rw [h0], fun h => by omega⟩
  · refine ⟨_, cap, rfl, fun h0 => ⟨b, 0, _, e, (0, 0), rfl, List.mem_append_left _ (.head _), fun i row hi => ?_⟩⟩
    have key : ∀ (es : List (List Value)) (i : Nat) (row : List Value), (∀ r ∈ es, r.length = k) → es[i]? = some row → ((es.flatten ++ sp).drop (i * k)).take k = row ∧ i * k + k ≤ (es.flatten ++ sp).length := by
      intro es
      induction es with
      | nil => intro i row _ h; simp at h
      | cons x r ih =>
        intro i row hk hi
        have hx := hk x (.head _)
        cases i with
        | zero =>
          simp only [List.getElem?_cons_zero, Option.some.injEq] at hi
          subst hi
          rw [List.flatten_cons, List.append_assoc, Nat.zero_mul, List.drop_zero, List.take_left' hx, List.length_append]
          exact ⟨rfl, by omega⟩
        | succ i =>
          obtain ⟨a1, a2⟩ := ih i row (fun q hq => hk q (.tail _ hq)) (by simpa using hi)
          rw [List.flatten_cons, List.append_assoc]
          refine ⟨?_, by rw [List.length_append, Nat.succ_mul]; omega⟩
          rw [show (i + 1) * k = x.length + i * k by rw [Nat.succ_mul, hx, Nat.add_comm], ← List.drop_drop, List.drop_left]
          exact a1
    obtain ⟨q1, q2⟩ := key es i row hk hi
    have hrl := hk row (List.mem_of_getElem? hi)
    simp only [Nat.zero_add]
    refine ⟨by simpa using q2, by rw [List.extract_toArray, List.extract_eq_take_drop, Nat.add_sub_cancel_left, q1], fun j v hj => ?_⟩
    have hj2 := (List.getElem?_eq_some_iff.1 hj).1
    rw [← q1, List.getElem?_take, if_pos (by omega), List.getElem?_drop] at hj
    rw [List.getElem?_toArray]
    exact hj
theorem ns10 (s : List UInt8) : ¬ s ++ [10] = s := fun e => by have := congrArg List.length e; simp at this
set_option maxHeartbeats 1000000 in
theorem strict_any (s : List UInt8) (l : List Chunk) (hG : GL l) : Fn Tryd.prog 6 [str s] l fun v l' => v = .bool true ∧ ∃ X, l' = X ++ l := by
  refine fn_of_body Tryd.func6 rfl rfl fun E => ?_
  simp only [argF, Tryd.ntmps6]
  by_cases h2 : s.length > 20000
  · refine gzU ?_
    refine t_e (e_call0 rfl rfl (awake_any l hG)) rfl rfl rfl ?_
    rintro _ _ ⟨rfl, rfl⟩
    refine gzU ?_
    exact k_ret [] rfl .refl (by exact zRes) ⟨rfl, [], rfl⟩
  · have h6 : ¬ s.length > 65536 := by omega
    refine gzU ?_
    refine t_e (e_call0 rfl rfl (parse_any s (by omega) _ hG)) rfl rfl rfl ?_
    rintro _ _ ⟨sv, c1, rfl, ho, rfl⟩
    cases hg : goL (linesL s) with
    | error n =>
      rw [parseR_bad h6 hg] at ho ⊢
      have hn := goL_err _ hg
      obtain ⟨p, cap, rfl⟩ := ho.shape
      simp only [List.length_nil] at ho ⊢
      refine gzU ?_
      refine t_eh (e_call0 rfl rfl (awake_any _ (hG.app c1))) rfl rfl rfl ?_
      rintro _ _ ⟨rfl, rfl⟩
      refine gzU ?_
      exact k_ret [] rfl .refl (by exact zRes) ⟨rfl, c1, rfl⟩
    | ok es =>
      rw [parseR_ok h6 hg] at ho ⊢
      obtain ⟨t, ht, hst⟩ := strict_law (by omega) hg
      obtain ⟨g1, g2, g3⟩ := goL_ok _ hg
      simp only at ho ⊢
      obtain ⟨a, cap, rfl, hR⟩ := ho.inRows (fun r hr => (g2 r hr).1.len) l
      have hn : es.length ≤ 1000000 := by
        have h3 : es.length ≤ (txt es).length := by
          unfold txt
          clear hR ho ht hst g1 g2 g3 hg
          induction es with
          | nil => simp
          | cons x r ih =>
            rw [List.flatMap_cons, List.length_append]
            have h9 : 1 ≤ (lnOf x).length := by unfold lnOf; simp
            rw [List.length_cons]
            have := ih
            omega
        rcases lines_text _ s rfl with h4 | h4 <;> rw [← g3] at h4 <;> rw [h4] at h3 <;> (try rw [List.length_append] at h3) <;> (try simp only [List.length_cons, List.length_nil] at h3) <;> omega
      refine gzU ?_
      refine t_e (e_call0 rfl rfl (print_any a cap es (fun e he => (g2 e he).1) (fun e he => (g2 e he).2.1) hn _ (hG.app c1) hR)) rfl rfl rfl ?_
      rintro _ _ ⟨rfl, rfl⟩
      rw [ht]
      unfold lnV
      simp only
      rcases hst with rfl | rfl
      · refine gzU ?_
        rw [decide_eq_true (rfl : t = t)]
        refine gzU ?_
        refine t_eh (e_call0 rfl rfl (awake_any _ (hG.app c1))) rfl rfl rfl ?_
        rintro _ _ ⟨rfl, rfl⟩
        refine gzU ?_
        exact k_ret [] rfl .refl (by exact zRes) ⟨rfl, c1, rfl⟩
      · refine gzU ?_
        rw [decide_eq_false (ns10 s)]
        refine gzU ?_
        rw [decide_eq_true (rfl : s ++ [10] = s ++ [10])]
        refine gzU ?_
        refine t_eh (e_call0 rfl rfl (awake_any _ (hG.app c1))) rfl rfl rfl ?_
        rintro _ _ ⟨rfl, rfl⟩
        refine gzU ?_
        exact k_ret [] rfl .refl (by exact zRes) ⟨rfl, c1, rfl⟩
end Go.Proofs.YtffmibmefmbdjaaDoor

/- What is printed is read again: plain. -/
set_option linter.unusedVariables false
set_option linter.unusedSimpArgs false
namespace Go.Proofs.YtffmibmefmbdjaaDoor
open Go.RowKit

theorem fill_val : ∀ (ps : List (Nat × Bool)) (cs0 e : List Value), (∀ p ∈ ps, 0 ≤ fldI e p.1 ∧ fldI e p.1 < 18446744073709551616 ∧ (p.2 = false → fldI e p.1 ≤ 999999)) → ∃ cs, fillG cs0 ps (ps.map fun p => Lib.decDigits (fldI e p.1).toNat) = some cs
  | [], cs0, e, _ => ⟨cs0, rfl⟩
  | p :: ps, cs0, e, h => by
    obtain ⟨h1, h2, h3⟩ := h p (.head _)
    obtain ⟨n, hn⟩ : ∃ n : Nat, fldI e p.1 = n := ⟨(fldI e p.1).toNat, by omega⟩
    have hr : rdL (Lib.decDigits (fldI e p.1).toNat) (limP p) = some n := by
      rw [hn, Int.toNat_natCast]
      refine rdL_some.2 ⟨rdN_dec (by omega), ?_⟩
      unfold limP
      cases hp : p.2 with
      | true => simp; omega
      | false => have := h3 hp; simp; omega
    obtain ⟨cs, hcs⟩ := fill_val ps (cs0.set p.1 (valP p n)) e (fun q hq => h q (.tail _ hq))
    refine ⟨cs, ?_⟩
    rw [List.map_cons]
    show (match rdL (Lib.decDigits (fldI e p.1).toNat) (limP p) with | some n => fillG (cs0.set p.1 (valP p n)) ps (ps.map fun p : Nat × Bool => Lib.decDigits (fldI e p.1).toNat) | none => none) = _
    rw [hr]
    exact hcs
theorem fill_num : ∀ (ps : List (Nat × Bool)) (cs0 e : List Value) {cs : List Value}, fillG cs0 ps (ps.map fun p => Lib.decDigits (fldI e p.1).toNat) = some cs → (ps.map Prod.fst).Nodup → (∀ p ∈ ps, p.1 < cs0.length) → (∀ p ∈ ps, 0 ≤ fldI e p.1 ∧ fldI e p.1 < 18446744073709551616) → ∀ p ∈ ps, fldI cs p.1 = fldI e p.1
  | [], _, _, _, _, _, _, _, p, hp => by cases hp
  | p :: ps, cs0, e, cs, h, hn, hlt, hv, q, hq => by
    obtain ⟨v1, v2⟩ := hv p (.head _)
    obtain ⟨n, hnn⟩ : ∃ n : Nat, fldI e p.1 = n := ⟨(fldI e p.1).toNat, by omega⟩
    have e1 : fillG cs0 (p :: ps) ((p :: ps).map fun p => Lib.decDigits (fldI e p.1).toNat) = match rdL (Lib.decDigits (fldI e p.1).toNat) (limP p) with | some n => fillG (cs0.set p.1 (valP p n)) ps (ps.map fun p => Lib.decDigits (fldI e p.1).toNat) | none => none := rfl
    rw [e1] at h
    cases hr : rdL (Lib.decDigits (fldI e p.1).toNat) (limP p) with
    | none => rw [hr] at h; cases h
    | some m =>
      rw [hr] at h
      have hm : m = n := by
        have h1 := (rdL_some.1 hr).1
        rw [hnn, Int.toNat_natCast, rdN_dec (by omega)] at h1
        cases h1; rfl
      subst hm
      rw [List.map_cons, List.nodup_cons] at hn
      rcases List.mem_cons.1 hq with rfl | hq
      · obtain ⟨i1, _⟩ := fill_line _ _ _ [] h (by rw [List.length_map]) hn.2 (fun r hr => by rw [List.length_set]; exact hlt r (.tail _ hr))
        rw [i1 _ hn.1, fldI_set_eq (hlt q (.head _)), hnn]
      · exact fill_num ps _ e h hn.2 (fun r hr => by rw [List.length_set]; exact hlt r (.tail _ hr)) (fun r hr => hv r (.tail _ hr)) q hq
theorem lineGo_ok : ∀ (ps : List (Nat × Bool)) (cs : List Value) (s : List UInt8), (lineGo cs s ps).2 = 0 → (∀ p ∈ ps, p.2 = false → 0 ≤ fldI cs p.1 ∧ fldI cs p.1 ≤ 999999) ∧ (lineGo cs s ps).1 = s ++ ps.flatMap fun p : Nat × Bool => 32 :: Lib.decDigits (fldI cs p.1).toNat
  | [], cs, s, _ => ⟨fun p hp => (by cases hp), by show s = s ++ []; rw [List.append_nil]⟩
  | p :: ps, cs, s, h => by
    have e : lineGo cs s (p :: ps) = if p.2 = false ∧ ¬ (0 ≤ fldI cs p.1 ∧ fldI cs p.1 ≤ 999999) then ([], 3) else lineGo cs (s ++ (32 :: Lib.decDigits (fldI cs p.1).toNat)) ps := rfl
    rw [e] at h ⊢
    by_cases hc : p.2 = false ∧ ¬ (0 ≤ fldI cs p.1 ∧ fldI cs p.1 ≤ 999999)
    · rw [if_pos hc] at h; cases h
    · rw [if_neg hc] at h ⊢
      obtain ⟨i1, i2⟩ := lineGo_ok ps cs _ h
      refine ⟨fun q hq hq2 => ?_, by rw [i2, List.flatMap_cons, List.append_assoc]⟩
      rcases List.mem_cons.1 hq with rfl | hq
      · exact Decidable.byContradiction fun h5 => hc ⟨hq2, h5⟩
      · exact i1 q hq hq2
theorem no_dec {c : UInt8} (h : c.toNat < 48) (n : Nat) : c ∉ Lib.decDigits n := fun hm => by have := dec_digits n c hm; omega
theorem no_nm {c : UInt8} (h : c.toNat < 48) (k : Int) : c ∉ nm k := by
  have key : ∀ x ∈ nm k, 48 ≤ x.toNat := by
    unfold nm
    repeat' split
    all_goals decide
  exact fun hm => by have := key c hm; omega
/-- a good event's line is read as an event of the same line, kind and core -/
theorem line_ev {e : List Value} (hE : IsEv e) (h : (lineC e).2 = 0) : ∃ e', evOf (lineC e).1 = some e' ∧ fldI e' 0 = fldI e 0 ∧ fldI e' 1 = fldI e 1 := by
  by_cases hk : 1 ≤ fldI e 0 ∧ fldI e 0 ≤ 6
  · have hl : lineC e = lineGo e (nm (fldI e 0)) (pts (fldI e 0)) := by unfold lineC; rw [if_pos hk]
    rw [hl] at h ⊢
    obtain ⟨h1, h2⟩ := lineGo_ok _ _ _ h
    have hv : ∀ p ∈ pts (fldI e 0), 0 ≤ fldI e p.1 ∧ fldI e p.1 < 18446744073709551616 ∧ (p.2 = false → fldI e p.1 ≤ 999999) := fun p hp => by
      rcases pts_mem hp with ⟨h3, _⟩ | ⟨h3, h4⟩
      · have := h1 p hp h3; exact ⟨by omega, by omega, fun _ => by omega⟩
      · have := (hE.word p.1 h4).2; exact ⟨this.1, this.2, fun h5 => by rw [h3] at h5; cases h5⟩
    obtain ⟨cs, hcs⟩ := fill_val (pts (fldI e 0)) (zk (fldI e 0)) e hv
    have hsp : splitL 32 (lineGo e (nm (fldI e 0)) (pts (fldI e 0))).1 = nm (fldI e 0) :: (pts (fldI e 0)).map fun p => Lib.decDigits (fldI e p.1).toNat := by
      rw [h2]
      have := split_of_join (c := 32) ((pts (fldI e 0)).map fun p => Lib.decDigits (fldI e p.1).toNat) (nm (fldI e 0)) (no_nm (by decide) _) (fun x hx => by obtain ⟨p, _, rfl⟩ := List.mem_map.1 hx; exact no_dec (by decide) _)
      rw [List.flatMap_map] at this
      exact this
    have hev := evOf_fill hsp (kind_nm hk rfl) (by rw [List.length_map])
    rw [hcs] at hev
    obtain ⟨i1, i2⟩ := fill_line _ _ _ (nm (fldI e 0)) hcs (by rw [List.length_map]) (pts_nodup _) (fun p hp => pts_lt hp)
    refine ⟨cs, hev, by rw [i1 0 (pts_zero _)]; rfl, ?_⟩
    have hm : ((1, false) : Nat × Bool) ∈ pts (fldI e 0) := by
      have h3 : fldI e 0 = 1 ∨ fldI e 0 = 2 ∨ fldI e 0 = 3 ∨ fldI e 0 = 4 ∨ fldI e 0 = 5 ∨ fldI e 0 = 6 := by omega
      rcases h3 with h | h | h | h | h | h <;> rw [h] <;> decide
    have hc1 : fldI cs 1 = fldI e 1 := fill_num _ _ _ hcs (pts_nodup _) (fun p hp => pts_lt hp) (fun p hp => ⟨(hv p hp).1, (hv p hp).2.1⟩) (1, false) hm
    exact hc1
  · unfold lineC at h; rw [if_neg hk] at h; cases h
end Go.Proofs.YtffmibmefmbdjaaDoor

/- What is printed is read again: the texts. -/
set_option linter.unusedVariables false
set_option linter.unusedSimpArgs false
namespace Go.Proofs.YtffmibmefmbdjaaDoor
open Go.RowKit

theorem cut_word {c : UInt8} {w : List UInt8} (h : c ∉ w) (t : List UInt8) : cutL c (w ++ c :: t) = (w, t, true) := by
  induction w with
  | nil => show (if c = c then ([], t, true) else _) = _; rw [if_pos rfl]
  | cons x r ih =>
    rw [List.mem_cons, not_or] at h
    show (if x = c then ([], r ++ c :: t, true) else (x :: (cutL c (r ++ c :: t)).1, (cutL c (r ++ c :: t)).2.1, (cutL c (r ++ c :: t)).2.2)) = _
    rw [if_neg fun e => h.1 e.symm, ih h.2]
theorem line_no10 {e : List Value} (h : (lineC e).2 = 0) : (10 : UInt8) ∉ (lineC e).1 := by
  unfold lineC at h ⊢
  split
  · rename_i hk
    rw [if_pos hk] at h
    obtain ⟨_, h2⟩ := lineGo_ok _ _ _ h
    rw [h2, List.mem_append, List.mem_flatMap]
    rintro (h3 | ⟨p, _, h3⟩)
    · exact no_nm (by decide) _ h3
    · rcases List.mem_cons.1 h3 with h4 | h4
      · revert h4; decide
      · exact no_dec (by decide) _ h4
  · simp
theorem lines_txt : ∀ (es : List (List Value)) (s : List UInt8), (∀ e ∈ es, (lineC e).2 = 0) → linesL (txt es ++ s) = es.map (fun e => (lineC e).1) ++ linesL s
  | [], s, _ => rfl
  | e :: r, s, h => by
    have e1 : txt (e :: r) ++ s = (lineC e).1 ++ 10 :: (txt r ++ s) := by unfold txt lnOf; simp
    rw [e1, linesL_cons (by simp), cut_word (line_no10 (h e (.head _)))]
    show (lineC e).1 :: linesL (txt r ++ s) = _
    rw [lines_txt r s fun x hx => h x (.tail _ hx)]
    rfl
theorem goL_back : ∀ (es : List (List Value)) (L : List (List UInt8)), (∀ e ∈ es, IsEv e ∧ (lineC e).2 = 0) → ∃ es', es'.length = es.length ∧ (∀ (i : Nat) (e e' : List Value), es[i]? = some e → es'[i]? = some e' → lineC e' = ((lineC e).1, 0) ∧ fldI e' 0 = fldI e 0 ∧ fldI e' 1 = fldI e 1) ∧ (∀ e ∈ es', IsEv e ∧ ∀ v ∈ e, v.oneCell' = true) ∧ goL (es.map (fun e => (lineC e).1) ++ L) = addP es' (goL L)
  | [], L, _ => ⟨[], rfl, fun i e e' h => by simp at h, fun e he => (by cases he), by
    show goL L = addP [] (goL L)
    cases goL L <;> simp [addP]⟩
  | e :: r, L, h => by
    obtain ⟨h1, h2⟩ := h e (.head _)
    obtain ⟨e', k1, k2, k3⟩ := line_ev h1 h2
    obtain ⟨es', i1, i2, i3, i4⟩ := goL_back r L fun x hx => h x (.tail _ hx)
    refine ⟨e' :: es', by simp [i1], fun i x x' hx hx' => ?_, fun x hx => ?_, ?_⟩
    · cases i with
      | zero =>
        simp only [List.getElem?_cons_zero, Option.some.injEq] at hx hx'
        subst hx hx'
        exact ⟨(ev_line k1).1, k2, k3⟩
      | succ i => exact i2 i x x' (by simpa using hx) (by simpa using hx')
    · rcases List.mem_cons.1 hx with rfl | hx
      · exact evOf_ev k1
      · exact i3 x hx
    · have h5 : ∀ x : Except Nat (List (List Value)), addP [] x = x := fun x => by cases x <;> simp [addP]
      have h6 := goL_step k1 (r.map (fun e => (lineC e).1) ++ L) []
      rw [h5] at h6
      show goL ((lineC e).1 :: (r.map (fun e => (lineC e).1) ++ L)) = _
      rw [h6, i4]
      cases goL L with
      | ok x => show Except.ok ([e'] ++ (es' ++ x)) = Except.ok (e' :: es' ++ x); rfl
      | error n => show Except.error (1 + (es'.length + n)) = Except.error ((e' :: es').length + n); rw [List.length_cons]; congr 1; omega
end Go.Proofs.YtffmibmefmbdjaaDoor

/- ScriptBack. -/
-- GU
set_option linter.unusedVariables false
set_option linter.unusedSimpArgs false
namespace Go.Proofs.YtffmibmefmbdjaaDoor
open Go.RowKit
set_option maxRecDepth 20000
set_option pp.deepTerms false
set_option pp.deepTerms.threshold 4

theorem printR_ok {es : List (List Value)} (h : (printR es).2 = 0) : prFirst es = 0 ∧ printR es = (txt es, 0) ∧ (txt es).length ≤ 65536 := by
  unfold printR at h ⊢
  by_cases h1 : prFirst es ≠ 0
  · rw [if_pos h1] at h; exact absurd h h1
  · have h1 : prFirst es = 0 := by simpa using h1
    rw [if_neg (by simpa using h1)] at h ⊢
    by_cases h2 : (txt es).length > 65536
    · rw [if_pos h2] at h; cases h
    · rw [if_neg h2]; exact ⟨h1, rfl, by omega⟩
theorem printR_bad {es : List (List Value)} (h : (printR es).2 ≠ 0) : printR es = ([], (printR es).2) := by
  unfold printR at h ⊢
  by_cases h1 : prFirst es ≠ 0
  · rw [if_pos h1]
  · rw [if_neg h1] at h ⊢
    by_cases h2 : (txt es).length > 65536
    · rw [if_pos h2]
    · rw [if_neg h2] at h; exact absurd rfl h
theorem prFirst_all {es : List (List Value)} (h : prFirst es = 0) : ∀ e ∈ es, (lineC e).2 = 0 := by
  induction es with
  | nil => intro e he; cases he
  | cons x r ih =>
    have h1 : (if (lineC x).2 ≠ 0 then (lineC x).2 else prFirst r) = 0 := h
    intro e he
    by_cases hx : (lineC x).2 = 0
    · rw [if_neg (by simpa using hx)] at h1
      rcases List.mem_cons.1 he with rfl | he
      · exact hx
      · exact ih h1 e he
    · rw [if_pos hx] at h1; exact absurd h1 hx
set_option maxHeartbeats 2000000 in
theorem back_any (a : Option Addr) (cap : Nat) (es : List (List Value)) (hes : ∀ e ∈ es, IsEv e) (h1s : ∀ e ∈ es, ∀ v ∈ e, v.oneCell' = true) (l : List Chunk) (hG : GL l) (hR : InRows l a es.length 15 es) :
    Fn Tryd.prog 5 [.slice a es.length cap] l fun v l' => v = .bool true ∧ ∃ X, l' = X ++ l := by
  refine fn_of_body Tryd.func5 rfl rfl fun E => ?_
  simp only [argF, Tryd.ntmps5]
  by_cases h2 : es.length > 200
  · refine gzU ?_
    refine t_e (e_call0 rfl rfl (awake_any l hG)) rfl rfl rfl ?_
    rintro _ _ ⟨rfl, rfl⟩
    refine gzU ?_
    exact k_ret [] rfl .refl (by exact zRes) ⟨rfl, [], rfl⟩
  · refine gzU ?_
    refine t_e (e_call0 rfl rfl (print_any a cap es hes h1s (by omega) _ hG hR)) rfl rfl rfl ?_
    rintro _ lL ⟨rfl, rfl⟩
    by_cases hc : (printR es).2 = 0
    · obtain ⟨p1, p2, p3⟩ := printR_ok hc
      rw [p2]
      unfold lnV
      simp only
      obtain ⟨es', g1, g2, g3, g4⟩ := goL_back es [] (fun e he => ⟨hes e he, prFirst_all p1 e he⟩)
      have hg : goL (linesL (txt es)) = .ok es' := by
        have h5 := lines_txt es [] (prFirst_all p1)
        rw [List.append_nil, linesL_nil] at h5
        rw [h5, g4]
        show Except.ok (es' ++ []) = _
        rw [List.append_nil]
      refine gzU ?_
      refine t_e (e_call0 rfl rfl (parse_any (txt es) (by omega) _ hG)) rfl rfl rfl ?_
      rw [parseR_ok (by omega) hg]
      rintro _ _ ⟨sv, c1, rfl, ho, rfl⟩
      simp only at ho ⊢
      obtain ⟨a2, cap2, rfl, hR2⟩ := ho.inRows (fun r hr => (g3 r hr).1.len) lL
      rw [g1] at hR2 ⊢
      refine gzU ?_
      refine k_loop (α := Nat) (fun i => [(0, .slice a es.length cap), (5, .slice a2 es.length cap2), (8, .int .i64 i)]) (fun i => c1 ++ lL) (fun i => i ≤ es.length) (fun i => es.length - i) 0 (Nat.zero_le _) ⟨rfl, rfl, rfl, trivial⟩ .refl ?_
      rintro i hi
      by_cases hlt : i < es.length
      · obtain ⟨e, he⟩ : ∃ e, es[i]? = some e := ⟨_, List.getElem?_eq_getElem hlt⟩
        obtain ⟨e', he'⟩ : ∃ e', es'[i]? = some e' := ⟨_, List.getElem?_eq_getElem (by omega)⟩
        obtain ⟨k1, k2, k3⟩ := g2 i e e' he he'
        have hE := hes e (List.mem_of_getElem? he)
        obtain ⟨hE', _⟩ := g3 e' (List.mem_of_getElem? he')
        have hcode := prFirst_all p1 e (List.mem_of_getElem? he)
        obtain ⟨bE, off, ec, et, fz, rfl, hm, hrow⟩ := hR (by omega)
        obtain ⟨bE2, off2, ec2, et2, fz2, rfl, hm2, hrow2⟩ := hR2 (by omega)
        obtain ⟨r1, r2, r3⟩ := hrow i e he
        obtain ⟨s1, s2, s3⟩ := hrow2 i e' he'
        refine gzU ?_
        refine t_q (q_loadA (n := 15) rfl (List.mem_append_right _ hm) r1 r2) rfl rfl rfl ?_
        refine t_e (e_call0 rfl rfl (line_any e hE _ (hG.app c1))) rfl rfl rfl ?_
        rintro _ _ ⟨rfl, rfl⟩
        unfold lnV
        refine gzU ?_
        refine t_q (q_loadA (n := 15) rfl hm2 s1 s2) rfl rfl rfl ?_
        refine t_e (e_call0 rfl rfl (line_any e' hE' _ (hG.app c1))) rfl rfl rfl ?_
        rintro _ _ ⟨rfl, rfl⟩
        rw [k1]
        unfold lnV
        simp only
        refine gzU ?_
        have hm' := List.mem_append_right c1 hm
        have f0 := r3 0 _ (hE.num 0 (.inl rfl))
        have f1 := r3 1 _ (hE.num 1 (.inr (.inl rfl)))
        have t0 := s3 0 _ (hE'.num 0 (.inl rfl))
        have t1 := s3 1 _ (hE'.num 1 (.inr (.inl rfl)))
        rw [Nat.add_zero] at f0 t0
        refine c_draw [(0, true), (1, true), (2, true), (3, true), (4, true), (5, true), (6, true), (7, true), (8, true), (9, true), (10, true), (11, true), (12, true), (13, true), (14, true), (15, true), (16, true), (17, true), (18, true), (19, true), (20, true), (21, true), (22, true), (23, true), (24, true), (25, true), (26, true), (27, true), (28, true), (29, true), (30, true), (31, true), (32, true)] [[], [], [0, 1], [0, 1, 2], [0, 1, 2, 3], [0, 1, 2, 3, 4], [0, 1, 2, 3, 4, 5], [0, 1, 2, 3, 4, 5, 6], [0, 1, 2, 3, 4, 5, 6, 7], [0, 1, 2, 3, 4, 5, 6, 7], [0, 1, 2, 3, 4, 5, 6, 7, 8, 9], [0, 1, 2, 3, 4, 5, 6, 7, 8, 9, 10], [0, 1, 2, 3, 4, 5, 6, 7, 8, 9, 10, 11], [0, 1, 2, 3, 4, 5, 6, 7], [0, 1, 2, 3, 4, 5, 6, 7], [0, 1, 2, 3, 4, 5, 6, 7, 13, 14], [0, 1, 2, 3, 4, 5, 6, 7, 13, 14, 15], [0, 1, 2, 3, 4, 5, 6, 7, 13, 14, 15, 16], [0, 1, 2, 3, 4, 5, 6, 7, 8, 9, 10, 11, 12, 13, 14, 15, 16, 17], [0, 1, 2, 3, 4, 5, 6, 7, 8, 9, 10, 11, 12, 13, 14, 15, 16, 17, 18], [0, 1, 2, 3, 4, 5, 6, 7, 8, 9, 10, 11, 12, 13, 14, 15, 16, 17, 18, 19], [0, 1, 2, 3, 4, 5, 6, 7, 8, 9, 10, 11, 12, 13, 14, 15, 16, 17, 18, 19, 20], [0, 1, 2, 3, 4, 5, 6, 7, 8, 9, 10, 11, 12, 13, 14, 15, 16, 17, 18, 19, 20], [0, 1, 2, 3, 4, 5, 6, 7, 8, 9, 10, 11, 12, 13, 14, 15, 16, 17, 18, 19, 20, 21, 22], [0, 1, 2, 3, 4, 5, 6, 7, 8, 9, 10, 11, 12, 13, 14, 15, 16, 17, 18, 19, 20, 21, 22, 23], [0, 1, 2, 3, 4, 5, 6, 7, 8, 9, 10, 11, 12, 13, 14, 15, 16, 17, 18, 19, 20, 21, 22, 23, 24], [0, 1, 2, 3, 4, 5, 6, 7, 8, 9, 10, 11, 12, 13, 14, 15, 16, 17, 18, 19, 20], [0, 1, 2, 3, 4, 5, 6, 7, 8, 9, 10, 11, 12, 13, 14, 15, 16, 17, 18, 19, 20], [0, 1, 2, 3, 4, 5, 6, 7, 8, 9, 10, 11, 12, 13, 14, 15, 16, 17, 18, 19, 20, 26, 27], [0, 1, 2, 3, 4, 5, 6, 7, 8, 9, 10, 11, 12, 13, 14, 15, 16, 17, 18, 19, 20, 26, 27, 28], [0, 1, 2, 3, 4, 5, 6, 7, 8, 9, 10, 11, 12, 13, 14, 15, 16, 17, 18, 19, 20, 26, 27, 28, 29], [0, 1, 2, 3, 4, 5, 6, 7, 8, 9, 10, 11, 12, 13, 14, 15, 16, 17, 18, 19, 20, 21, 22, 23, 24, 25, 26, 27, 28, 29, 30], [0, 1, 2, 3, 4, 5, 6, 7, 8, 9, 10, 11, 12, 13, 14, 15, 16, 17, 18, 19, 20, 21, 22, 23, 24, 25, 26, 27, 28, 29, 30, 31]] _ (by kernel_rfl) (by kernel_rfl) zAtt (fun _ h => h) ?_
        refine pzU ?_
        rw [decide_eq_false (not_not_intro (rfl : (lineC e).1 = (lineC e).1))]
        refine pzU ?_
        refine gzU ?_
        exact k_next (i + 1) (by omega) (by omega) ⟨rfl, rfl, rfl, trivial⟩ .refl
      · obtain rfl : i = es.length := by omega
        refine gzU ?_
        refine t_e (e_call0 rfl rfl (awake_any _ (hG.app c1))) rfl rfl rfl ?_
        rintro _ _ ⟨rfl, rfl⟩
        refine gzU ?_
        exact k_ret [] rfl .refl (by exact zRes) ⟨rfl, c1, rfl⟩
    · rw [printR_bad hc]
      unfold lnV
      simp only
      refine gzU ?_
      rw [decide_eq_true (rfl : ([] : List UInt8) = [])]
      refine gzU ?_
      refine t_eh (e_call0 rfl rfl (awake_any _ hG)) rfl rfl rfl ?_
      rintro _ _ ⟨rfl, rfl⟩
      refine gzU ?_
      exact k_ret [] rfl .refl (by exact zRes) ⟨rfl, [], rfl⟩
end Go.Proofs.YtffmibmefmbdjaaDoor

/- What a row's list gives: the library's variables. -/
set_option linter.unusedVariables false
set_option linter.unusedSimpArgs false
namespace Go.Proofs.YtffmibmefmbdjaaDoor
open Go.RowKit

theorem gTab : Tryd.prog.globalNamed "internal/strconv.uint64pow10" = some 1 := by kernel_rfl
theorem gTabT : (Tryd.prog.globals[1]?).map (·.type) = some 107 := by kernel_rfl
theorem gTabC : Tryd.prog.cellsOf 107 = 20 := by kernel_rfl
theorem gTabE : Tryd.prog.cellsOf 38 = 1 := by kernel_rfl
theorem gES : Tryd.prog.globalNamed "strconv.ErrSyntax" = some 2 := by kernel_rfl
theorem gEST : (Tryd.prog.globals[2]?).map (·.type) = some 59 := by kernel_rfl
theorem gER : Tryd.prog.globalNamed "strconv.ErrRange" = some 3 := by kernel_rfl
theorem gERT : (Tryd.prog.globals[3]?).map (·.type) = some 59 := by kernel_rfl
theorem esC : Tryd.prog.cellsOf 128 = 1 := by kernel_rfl
theorem strC : Tryd.prog.cellsOf 9 = 1 := by kernel_rfl
theorem starES : "*" ++ "errors.errorString" = "*errors.errorString" := by decide
theorem rowES (u : TypeId) (h : Tryd.prog.typeName? 3 u = some "*errors.errorString") : u = 126 :=
  typeName_ptr_named (nm := "errors.errorString") (by rw [starES]; kernel_rfl) (by kernel_rfl) (by decide) u (by rw [starES]; exact h)
theorem var_same {P : Program} {W W' : World} {n : String} {g : Nat} (hg : P.globalNamed n = some g) (hb : W'.heap[g]? = W.heap[g]?) : W'.var? P n = W.var? P n := by
  unfold World.var?
  simp only [hg, Option.bind_some, hb]
theorem tab_list : (Lib.tabData .u64 Lib.pow10Tab : DataW Unit) = Rows.laid_internal_strconv_uint64pow10 := by rfl
theorem gl_laid {W : World} (h : laidMet Tryd.prog [("math/bits.deBruijn32tab", Rows.laid_math_bits_deBruijn32tab), ("math/bits.deBruijn64tab", Rows.laid_math_bits_deBruijn64tab), ("internal/strconv.uint64pow10", Rows.laid_internal_strconv_uint64pow10), ("strconv.ErrRange", Rows.laid_strconv_ErrRange), ("strconv.ErrSyntax", Rows.laid_strconv_ErrSyntax)] W) : GL (allOf W) := by
  have h3 := h.tail.tail
  have ht : Lib.TabIs Tryd.prog W "internal/strconv.uint64pow10" .u64 Lib.pow10Tab := by
    rw [← tab_list] at h3
    exact Lib.tabIs_of_head gTab gTabT Tryd.underlying107 Tryd.underlying38 gTabE gTabC h3
  obtain ⟨a0, s0, hv0, -, -, -⟩ := laid_sentinel h3.tail gER gERT Tryd.underlying59 rowES Tryd.underlying126 Tryd.underlying128 rfl rfl Tryd.underlying9 esC strC
  obtain ⟨a1, s1, hv1, -, -, -⟩ := laid_sentinel h3.tail.tail gES gEST Tryd.underlying59 rowES Tryd.underlying126 Tryd.underlying128 rfl rfl Tryd.underlying9 esC strC
  have c0 : W.cell? ⟨3, 0, none⟩ = some (.iface 126 (.pointer (some a0))) := by have h0 := World.var?_cell gER hv0 0; simpa using h0
  have c1 : W.cell? ⟨2, 0, none⟩ = some (.iface 126 (.pointer (some a1))) := by have h0 := World.var?_cell gES hv1 0; simpa using h0
  have ct : W.cell? ⟨1, 0, none⟩ = some (.int .u64 (Lib.pow10Tab.getD 0 0)) := ht.cell gTab 0 (by rw [Lib.pow10Tab_length]; omega)
  refine ⟨fun W' hw => ?_⟩
  have same : ∀ (g : Nat) (v : Value), W.cell? ⟨g, 0, none⟩ = some v → W'.heap[g]? = W.heap[g]? := fun g v hv => by
    obtain ⟨o, ho, _⟩ := cells_of_cell hv
    exact (hw (g, o) ((allOf_mem W g o).2 ho)).trans ho.symm
  refine ⟨?_, ⟨_, _, (World.cell?_of_block (same _ _ c1)).trans c1⟩, ⟨_, _, (World.cell?_of_block (same _ _ c0)).trans c0⟩⟩
  unfold Lib.TabIs at ht ⊢
  rw [var_same gTab (same _ _ ct)]
  exact ht
end Go.Proofs.YtffmibmefmbdjaaDoor

/- Events that came in. -/
set_option linter.unusedVariables false
set_option linter.unusedSimpArgs false
namespace Go.Proofs.YtffmibmefmbdjaaDoor
open Go.RowKit

abbrev evK : List (Option IntKind) := [some .i64, some .i64, some .i64, some .u64, some .u64, some .u64, some .u64, some .u64, some .u64, some .u64, some .u64, some .u64, some .i64, some .i64, some .i64]
theorem cell_at : ∀ (ks : List (Option IntKind)) (cs : List Value), AllIs ks cs → ∀ (o : Nat) (k : IntKind), ks[o]? = some (some k) → ∃ a, cs[o]? = some (.int k a) ∧ (Lit.int k a).wf = true
  | [], _, _, o, k, h => by simp at h
  | q :: ks, cs, h, o, k, ho => by
    obtain ⟨c, r, rfl, h1, h2⟩ := h
    cases o with
    | zero =>
      simp only [List.getElem?_cons_zero, Option.some.injEq] at ho
      subst ho
      obtain ⟨a, rfl, hw⟩ := h1
      exact ⟨a, rfl, hw⟩
    | succ o => exact cell_at ks r h2 o k (by simpa using ho)
theorem isEv_in {cs : List Value} (h : AllIs evK cs) : IsEv cs := by
  refine ⟨h.len, fun o ho => ?_, fun o ho => ?_⟩
  · obtain ⟨a, h1, _⟩ := cell_at _ _ h o .i64 (by rcases ho with rfl | rfl | rfl | rfl | rfl | rfl <;> rfl)
    unfold fldI
    rw [h1]
  · obtain ⟨a, h1, h2⟩ := cell_at _ _ h o .u64 (by
      have h1 : o = 3 ∨ o = 4 ∨ o = 5 ∨ o = 6 ∨ o = 7 ∨ o = 8 ∨ o = 9 ∨ o = 10 ∨ o = 11 := by omega
      rcases h1 with rfl | rfl | rfl | rfl | rfl | rfl | rfl | rfl | rfl <;> rfl)
    unfold fldI
    rw [h1]
    have e1 : IntKind.u64.min = 0 := rfl
    have e2 : IntKind.u64.max = 18446744073709551615 := rfl
    simp [Lit.wf, e1, e2] at h2
    exact ⟨rfl, (by omega : (0 : Int) ≤ a), (by omega : a < 18446744073709551616)⟩
theorem one_in : ∀ (ks : List (Option IntKind)) (cs : List Value), AllIs ks cs → ∀ v ∈ cs, v.oneCell' = true
  | [], cs, h, v, hv => by cases h; cases hv
  | q :: ks, cs, h, v, hv => by
    obtain ⟨c, r, rfl, h1, h2⟩ := h
    rcases List.mem_cons.1 hv with rfl | hv
    · cases q with
      | none => obtain ⟨b, rfl⟩ := h1; rfl
      | some k => obtain ⟨a, rfl, _⟩ := h1; rfl
    · exact one_in ks r h2 v hv
end Go.Proofs.YtffmibmefmbdjaaDoor

/- seisinlaw0.SameEvents, where the lists tell the same. -/
-- GU
set_option linter.unusedVariables false
set_option linter.unusedSimpArgs false
namespace Go.Proofs.YtffmibmefmbdjaaDoor
open Go.RowKit
set_option maxRecDepth 20000
set_option pp.deepTerms false
set_option pp.deepTerms.threshold 4

section
variable {P : Program} {ro : Option Nat} {N : Nat} {fr : Fr} {R l : List Chunk} {d : Option Nat} {ty : TypeId} {pos : String} {aft : Array Edge} {g : Option (Nat × Bool)} {x : Operand}
theorem q_sliceP {T e k yb : Nat} {lo hi mx : Option Operand} {p : Option Addr} {n cap l0 h0 m0 n' c' : Nat} (hx : ev fr x = some (.slice p n cap)) [c : ST P T e k yb] (hl : Bnd fr lo 0 l0) (hh : Bnd fr hi n h0) (hm : Bnd fr mx cap m0) (hno : mx.isSome = true → hi.isSome = true) (h1 : l0 ≤ h0) (h2 : h0 ≤ m0) (h3 : m0 ≤ cap)
    (hn : h0 - l0 = n') (hc : m0 - l0 = c') : OpQ P ro N fr R ⟨d, .slice T x lo hi mx, ty, pos, aft, g⟩ (.slice (if m0 = l0 then p else p.map (·.add (l0 * k))) n' c') := opQ_of_sl rfl fun ρ l hρ _ => by
  obtain ⟨inf, u1, u2, u3, _⟩ := stV_spec c.out
  subst hn hc
  simp only [execOp, hρ x _ hx]
  rw [sl_bind]
  unfold Instr.sliceAt
  rw [sl_under u1]
  show sl P (Instr.slice T _ _ _ _) l _
  unfold Instr.slice
  rw [sl_under u1]
  simp only [sl_bind]
  rw [sl_sliceBounds hρ hl hh hm hno h1 h2 h3]
  simp only
  rw [sl_sizeOf' u2]
  simp only [sl_pure, u3]
  simp
end
instance : EQ Tryd.prog 43 evK := ⟨by kernel_rfl⟩
theorem allK_at : ∀ (ks : List IntKind) (cs : List Value), cs.length = ks.length → (∀ (o : Nat) (k : IntKind), ks[o]? = some k → ∃ a, cs[o]? = some (.int k a)) → AllK (ks.map some) cs
  | [], cs, h, _ => List.length_eq_zero_iff.1 h
  | k :: ks, [], h, _ => by simp at h
  | k :: ks, c :: r, h, hc => by
    obtain ⟨a, ha⟩ := hc 0 k rfl
    exact ⟨c, r, rfl, ⟨a, by simpa using ha⟩, allK_at ks r (by simpa using h) fun o q ho => hc (o + 1) q (by simpa using ho)⟩
theorem IsEv.allK {cs : List Value} (h : IsEv cs) : AllK evK cs := by
  refine allK_at [.i64, .i64, .i64, .u64, .u64, .u64, .u64, .u64, .u64, .u64, .u64, .u64, .i64, .i64, .i64] cs h.len fun o k ho => ?_
  have hlt : o < 15 := by
    rcases Nat.lt_or_ge o 15 with h | h
    · exact h
    · rw [List.getElem?_eq_none (by simpa using h)] at ho; cases ho
  have h15 : (o = 0 ∨ o = 1 ∨ o = 2 ∨ o = 12 ∨ o = 13 ∨ o = 14) ∨ (o = 3 ∨ o = 4 ∨ o = 5 ∨ o = 6 ∨ o = 7 ∨ o = 8 ∨ o = 9 ∨ o = 10 ∨ o = 11) := by omega
  rcases h15 with h1 | h1
  · have h2 := h.num o h1
    obtain rfl : k = .i64 := by rcases h1 with rfl | rfl | rfl | rfl | rfl | rfl <;> (cases ho; rfl)
    exact ⟨_, h2⟩
  · have h2 := (h.word o (by omega)).1
    obtain rfl : k = .u64 := by rcases h1 with rfl | rfl | rfl | rfl | rfl | rfl | rfl | rfl | rfl <;> (cases ho; rfl)
    exact ⟨_, h2⟩
set_option maxHeartbeats 1000000 in
theorem sameEvents_any (a a' : Option Addr) (ca ca' : Nat) (es : List (List Value)) (hE : ∀ e ∈ es, IsEv e) (hn : es.length ≤ 1000000) (l : List Chunk) (h1 : InRows l a es.length 15 es) (h2 : InRows l a' es.length 15 es) :
    Fn Tryd.prog 11 [.slice a es.length ca, .slice a' es.length ca'] l fun r l' => r = .bool true ∧ l' = l := by
  refine fn_of_body Tryd.func11 rfl rfl fun E => ?_
  simp only [argF, Tryd.ntmps11]
  refine gzU ?_
  refine k_loop (α := Nat) (fun k => [(0, .slice a es.length ca), (1, .slice a' es.length ca'), (5, .int .i64 k)]) (fun k => l) (fun k => k ≤ es.length) (fun k => es.length - k) 0 (Nat.zero_le _) ⟨rfl, rfl, rfl, trivial⟩ .refl ?_
  rintro k hk2
  by_cases hlt : k < es.length
  · obtain ⟨b, off, cs, t, fz, rfl, hm, hc⟩ := h1 (by omega)
    obtain ⟨b', off', cs', t', fz', rfl, hm', hc'⟩ := h2 (by omega)
    obtain ⟨x, e1⟩ : ∃ x, es[k]? = some x := ⟨_, List.getElem?_eq_getElem hlt⟩
    obtain ⟨g1, g2, _⟩ := hc k x e1
    obtain ⟨g1', g2', _⟩ := hc' k x e1
    have hx := (hE x (List.mem_of_getElem? e1)).allK
    refine gzU ?_
    refine c_draw [(0, true), (1, true), (2, true), (3, true), (4, true), (5, true), (6, true), (7, true), (8, true)] [[], [], [0, 1], [0, 1, 2], [], [], [4, 5], [4, 5, 6], [0, 1, 2, 3, 4, 5, 6, 7]] _ (by kernel_rfl) (by kernel_rfl) zAtt (fun _ h => h) ?_
    refine pzU ?_
    apply pl_q
    · exact q_loadA (n := 15) rfl hm g1 g2
    · rfl
    · rfl
    · rfl
    refine pzU ?_
    apply pl_q
    · exact q_loadA (n := 15) rfl hm' g1' g2'
    · rfl
    · rfl
    · rfl
    refine pzU ?_
    apply pl_q
    · exact q_neself rfl rfl hx
    · rfl
    · rfl
    · rfl
    refine pzU ?_
    refine gzU ?_
    exact k_next (k + 1) (by omega) (by omega) ⟨rfl, rfl, rfl, trivial⟩ .refl
  · obtain rfl : k = es.length := by omega
    refine gzU ?_
    exact k_ret [] rfl .refl (by exact zRes) ⟨rfl, rfl⟩
end Go.Proofs.YtffmibmefmbdjaaDoor

/- ScriptParts. -/
-- GU
set_option linter.unusedVariables false
set_option linter.unusedSimpArgs false
namespace Go.Proofs.YtffmibmefmbdjaaDoor
open Go.RowKit
set_option maxRecDepth 20000
set_option pp.deepTerms false
set_option pp.deepTerms.threshold 4

theorem txt_len {es : List (List Value)} (h : ∀ e ∈ es, IsEv e) : (txt es).length ≤ 177 * es.length := by
  induction es with
  | nil => simp [txt]
  | cons x r ih =>
    have h1 := lineC_len (h x (.head _))
    have h2 := ih fun e he => h e (.tail _ he)
    have e1 : (txt (x :: r)).length = (lineC x).1.length + 1 + (txt r).length := by unfold txt lnOf; simp; omega
    rw [e1, List.length_cons]; omega
/-- the rows behind the first m ones -/
theorem InRows.behind {l : List Chunk} {a : Option Addr} {k : Nat} {xs ys : List (List Value)} (h : InRows l a (xs ++ ys).length k (xs ++ ys)) (hk : 0 < k) {cap : Nat} (hc : (xs ++ ys).length ≤ cap) : InRows l (if cap = xs.length then a else a.map (·.add (xs.length * k))) ys.length k ys := by
  intro h0
  obtain ⟨b, off, cs, t, fz, rfl, hm, hr⟩ := h (by rw [List.length_append]; omega)
  rw [List.length_append] at hc
  rw [if_neg (by omega)]
  refine ⟨b, off + xs.length * k, cs, t, fz, by simp [Addr.add], hm, fun i row hi => ?_⟩
  have := hr (xs.length + i) row (by rw [List.getElem?_append_right (by omega)]; simpa using hi)
  rw [Nat.add_mul, ← Nat.add_assoc] at this
  exact this
theorem linesL_len : ∀ (n : Nat) (s : List UInt8), s.length ≤ n → (linesL s).length ≤ s.length
  | _, [], _ => Nat.le_refl 0
  | 0, c :: r, h => by simp at h
  | n + 1, c :: r, h => by
    rw [linesL_cons (by simp)]
    have h1 := cut_short (s := c :: r) (by simp)
    have h2 := linesL_len n (cutL 10 (c :: r)).2.1 (by omega)
    rw [List.length_cons]
    omega
theorem goL_errLe : ∀ (L : List (List UInt8)) {n : Nat}, goL L = .error n → n ≤ L.length
  | [], n, h => by cases h
  | w :: r, n, h => by
    have h1 : goL (w :: r) = match evOf w with | none => .error 1 | some e => match goL r with | .ok es => .ok (e :: es) | .error n => .error (n + 1) := rfl
    rw [h1] at h
    cases he : evOf w with
    | none => rw [he] at h; cases h; simp
    | some e =>
      rw [he] at h
      cases hg : goL r with
      | ok x => rw [hg] at h; cases h
      | error m =>
        rw [hg] at h
        have := goL_errLe r hg
        cases h
        rw [List.length_cons]; omega
set_option maxHeartbeats 2000000 in
theorem scriptParts_any (a : Option Addr) (cap : Nat) (es : List (List Value)) (hes : ∀ e ∈ es, IsEv e) (h1s : ∀ e ∈ es, ∀ v ∈ e, v.oneCell' = true) (s : List UInt8) (l : List Chunk) (hG : GL l) (hR : InRows l a es.length 15 es) :
    Fn Tryd.prog 7 [.slice a es.length cap, str s] l fun v l' => v = .bool true ∧ ∃ X, l' = X ++ l := by
  refine fn_of_body Tryd.func7 rfl rfl fun E => ?_
  simp only [argF, Tryd.ntmps7]
  by_cases h2 : es.length > 100 ∨ s.length > 20000
  · by_cases h3 : es.length > 100
    · refine gzU ?_
      refine t_e (e_call0 rfl rfl (awake_any l hG)) rfl rfl rfl ?_
      rintro _ _ ⟨rfl, rfl⟩
      refine gzU ?_
      exact k_ret [] rfl .refl (by exact zRes) ⟨rfl, [], rfl⟩
    · have h4 : s.length > 20000 := by omega
      refine gzU ?_
      refine t_e (e_call0 rfl rfl (awake_any l hG)) rfl rfl rfl ?_
      rintro _ _ ⟨rfl, rfl⟩
      refine gzU ?_
      exact k_ret [] rfl .refl (by exact zRes) ⟨rfl, [], rfl⟩
  · have h3 : ¬ es.length > 100 := by omega
    have h4 : ¬ s.length > 20000 := by omega
    refine gzU ?_
    refine t_e (e_call0 rfl rfl (print_any a cap es hes h1s (by omega) _ hG hR)) rfl rfl rfl ?_
    rintro _ lL ⟨rfl, rfl⟩
    by_cases hc : (printR es).2 = 0
    · obtain ⟨p1, p2, p3⟩ := printR_ok hc
      rw [p2]
      unfold lnV
      simp only
      have hlen := txt_len hes
      have hl2 : (txt es ++ s).length ≤ 40000 := by rw [List.length_append]; omega
      obtain ⟨es', g1, g2, g3, g4⟩ := goL_back es (linesL s) (fun e he => ⟨hes e he, prFirst_all p1 e he⟩)
      have g5 := lines_txt es s (prFirst_all p1)
      rw [← g5] at g4
      have hll := linesL_len _ s (Nat.le_refl _)
      refine gzU ?_
      refine t_e (e_call0 rfl rfl (parse_any s (by omega) _ hG)) rfl rfl rfl ?_
      rintro _ _ ⟨sv, c1, rfl, ho, rfl⟩
      refine gzU ?_
      refine t_e (e_call0 rfl rfl (parse_any (txt es ++ s) (by omega) _ (hG.app c1))) rfl rfl rfl ?_
      rintro _ _ ⟨sv2, c2, rfl, ho2, rfl⟩
      cases hg : goL (linesL s) with
      | error n =>
        rw [hg] at g4
        rw [parseR_bad (by omega) hg] at ho ⊢
        rw [parseR_bad (by omega) g4] at ho2 ⊢
        obtain ⟨p, cap, rfl⟩ := ho.shape
        obtain ⟨p2, cap2, rfl⟩ := ho2.shape
        simp only [List.length_nil] at ho ho2 ⊢
        have hn := goL_err _ hg
        have hn2 := goL_errLe _ hg
        rw [g1]
        refine gzU ?_
        refine t_eh (e_call0 rfl rfl (awake_any _ ((hG.app c1).app c2))) rfl rfl rfl ?_
        rintro _ _ ⟨rfl, rfl⟩
        refine gzU ?_
        exact k_ret [] rfl .refl (by exact zRes) ⟨rfl, c2 ++ c1, (List.append_assoc c2 c1 lL).symm⟩
      | ok ea =>
        rw [hg] at g4
        have g4 : goL (linesL (txt es ++ s)) = .ok (es' ++ ea) := g4
        rw [parseR_ok (by omega) hg] at ho ⊢
        rw [parseR_ok (by omega) g4] at ho2 ⊢
        obtain ⟨k1, k2, k3⟩ := goL_ok _ hg
        simp only at ho ho2 ⊢
        obtain ⟨a1, cap1, rfl, hR1⟩ := ho.inRows (fun r hr => (k2 r hr).1.len) lL
        obtain ⟨a2, cap2, rfl, hR2⟩ := ho2.inRows (fun r hr => by
          rcases List.mem_append.1 hr with hr | hr
          · exact (g3 r hr).1.len
          · exact (k2 r hr).1.len) (c1 ++ lL)
        have hcap : (es' ++ ea).length ≤ cap2 := by
          rcases ho2.2 with ⟨h, h0, _⟩ | ⟨b, cap, sp, h, _, h2, _⟩
          · simp only [Value.slice.injEq] at h; omega
          · simp only [Value.slice.injEq] at h; omega
        have hR3 := hR2.behind (by decide) hcap
        have hR1' : InRows (c2 ++ (c1 ++ lL)) a1 ea.length 15 ea := fun h0 => by
          obtain ⟨b, off, cs, t, fz, q1, q2, q3⟩ := hR1 h0
          exact ⟨b, off, cs, t, fz, q1, List.mem_append_right _ q2, q3⟩
        rw [g1] at hR3
        have hle : (es' ++ ea).length = es.length + ea.length := by rw [List.length_append, g1]
        rw [hle] at hcap ⊢
        refine gzU ?_
        refine t_gq (q_sliceP (l0 := es.length) (h0 := es.length + ea.length) (m0 := cap2) (n' := ea.length) (c' := cap2 - es.length) rfl (.some rfl (by omega) rfl) .none .none (by simp) (by omega) hcap (by omega) (by omega) rfl) rfl rfl rfl rfl rfl rfl ?_
        refine gzU ?_
        refine t_eh (e_call0 rfl rfl (sameEvents_any _ _ _ _ ea (fun e he => (k2 e he).1) (by omega) _ hR3 hR1')) rfl rfl rfl ?_
        rintro _ _ ⟨rfl, rfl⟩
        refine gzU ?_
        refine t_eh (e_call0 rfl rfl (awake_any _ ((hG.app c1).app c2))) rfl rfl rfl ?_
        rintro _ _ ⟨rfl, rfl⟩
        refine gzU ?_
        exact k_ret [] rfl .refl (by exact zRes) ⟨rfl, c2 ++ c1, (List.append_assoc c2 c1 lL).symm⟩
    · rw [printR_bad hc]
      unfold lnV
      simp only
      refine gzU ?_
      refine t_e (e_call0 rfl rfl (awake_any _ hG)) rfl rfl rfl ?_
      rintro _ _ ⟨rfl, rfl⟩
      refine gzU ?_
      exact k_ret [] rfl .refl (by exact zRes) ⟨rfl, [], rfl⟩
end Go.Proofs.YtffmibmefmbdjaaDoor
