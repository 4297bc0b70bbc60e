/- ref35: Event. ref35: Print; ScriptPrints. OverEvents; ref35: Parse; ScriptReads. Laws that the statement's proof leans on. -/
import Derived.Test.YtffmibmefmbdjaaDoorGr4
import Derived.Test.YtffmibmefmbdjaaDoorGr7
/- ref35: Event. -/
-- GU
set_option linter.unusedVariables false
set_option linter.unusedSimpArgs false
namespace Go.Proofs.YtffmibmefmbdjaaDoor
open Go.RowKit
set_option maxRecDepth 20000
set_option pp.deepTerms false
set_option pp.deepTerms.threshold 4

theorem strIn_sub {l : List Chunk} {gb : Nat} {cells : List Value} {ct : TypeId} {fz : Nat × Nat} {W : List (List UInt8)} (hm : (gb, Obj.cells (List.toArray cells) ct fz) ∈ l) (hc : ∀ (i : Nat) (w : List UInt8), W[i]? = some w → cells[i]? = some (str w)) {p q cap : Nat} (hcap : W.length ≤ cap) : StrIn l (if cap = p then some ⟨gb, 0, none⟩ else (some (⟨gb, 0, none⟩ : Addr)).map (·.add (p * 1))) ((W.take q).drop p) := fun h0 => by
  have h1 : p < W.length := by
    rw [List.length_drop, List.length_take] at h0; omega
  rw [if_neg (by omega)]
  refine ⟨gb, 0 + p * 1, cells, ct, fz, by simp [Addr.add] <;> omega, hm, fun i w hi => ?_⟩
  rw [List.getElem?_drop, List.getElem?_take] at hi
  split at hi
  · rw [List.getElem?_toArray, show 0 + p * 1 + i * 1 = p + i by omega]; exact hc _ _ hi
  · cases hi
def putN (cs : List Value) : List (Nat × Bool) → List Nat → List Value
  | p :: ps, n :: ns => putN (cs.set p.1 (valP p n)) ps ns
  | _, _ => cs
theorem fill_all (f : List UInt8 → Option Nat) : ∀ (ps : List (Nat × Bool)) (ws : List (List UInt8)) (cs : List Value), ws.length = ps.length → (∀ p ∈ ps, ∀ w, rdL w (limP p) = f w) → fillG cs ps ws = (rdAll f ws).map fun ns => putN cs ps ns
  | [], [], cs, _, _ => rfl
  | [], w :: ws, cs, h, _ => by simp at h
  | p :: ps, [], cs, h, _ => by simp at h
  | p :: ps, w :: ws, cs, h, hf => by
    have e : fillG cs (p :: ps) (w :: ws) = match rdL w (limP p) with | some n => fillG (cs.set p.1 (valP p n)) ps ws | none => none := rfl
    have e2 : rdAll f (w :: ws) = match f w with | some n => (rdAll f ws).map (n :: ·) | none => none := rfl
    rw [e, e2, hf p (.head _)]
    cases f w with
    | none => rfl
    | some n =>
      simp only
      rw [fill_all f ps ws _ (by simpa using h) fun q hq => hf q (.tail _ hq)]
      cases rdAll f ws with
      | none => rfl
      | some ns => rfl
theorem rdAll_len {f : List UInt8 → Option Nat} : ∀ {ws : List (List UInt8)} {ns : List Nat}, rdAll f ws = some ns → ns.length = ws.length
  | [], ns, h => by cases h; rfl
  | w :: r, ns, h => by
    have e2 : rdAll f (w :: r) = match f w with | some n => (rdAll f r).map (n :: ·) | none => none := rfl
    rw [e2] at h
    cases hw : f w with
    | none => rw [hw] at h; cases h
    | some n =>
      rw [hw] at h
      simp only at h
      cases hr : rdAll f r with
      | none => rw [hr] at h; cases h
      | some x => rw [hr] at h; cases h; rw [List.length_cons, List.length_cons, rdAll_len hr]
theorem fillG_append (b : List (List UInt8)) (pb : List (Nat × Bool)) : ∀ (a : List (List UInt8)) (cs : List Value) (ps : List (Nat × Bool)), a.length = ps.length → fillG cs (ps ++ pb) (a ++ b) = (fillG cs ps a).bind fun c => fillG c pb b := by
  intro a cs ps h
  have hd : (ps ++ pb).drop a.length = pb := by rw [h, List.drop_left]
  rw [fillG_app, hd]
  congr 1
  induction a generalizing cs ps with
  | nil => rw [fillG_nil, fillG_nil]
  | cons w a ih =>
    cases ps with
    | nil => simp at h
    | cons p ps =>
      have e : fillG cs ((p :: ps) ++ pb) (w :: a) = match rdL w (limP p) with | some n => fillG (cs.set p.1 (valP p n)) (ps ++ pb) a | none => none := rfl
      have e2 : fillG cs (p :: ps) (w :: a) = match rdL w (limP p) with | some n => fillG (cs.set p.1 (valP p n)) ps a | none => none := rfl
      rw [e, e2]
      cases rdL w (limP p) with
      | none => rfl
      | some n => exact ih _ _ (by simpa using h) (by rw [show a.length = ps.length by simpa using h, List.drop_left])
/-- a call's cells while its words come -/
def cC (y0 : Nat) (zf : Nat → Nat) (i : Nat) : List Value :=
  [.int .i64 2, .int .i64 (y0 : Nat), .int .i64 0, .int .u64 (zf 0 : Nat), .int .u64 ((if 0 < i then zf 1 else 0) : Nat), .int .u64 ((if 1 < i then zf 2 else 0) : Nat), .int .u64 ((if 2 < i then zf 3 else 0) : Nat), .int .u64 ((if 3 < i then zf 4 else 0) : Nat), .int .u64 ((if 4 < i then zf 5 else 0) : Nat), .int .u64 ((if 5 < i then zf 6 else 0) : Nat), .int .u64 0, .int .u64 0, .int .i64 0, .int .i64 0, .int .i64 0]
theorem cC_step (y0 : Nat) (zf : Nat → Nat) (i : Nat) (h : i < 6) : (cC y0 zf i).set (3 + 1 + i * 1) (.int .u64 (zf (i + 1) : Nat)) = cC y0 zf (i + 1) := by
  rcases i with _ | _ | _ | _ | _ | _ | i <;> first | rfl | omega
/-- the event of a line of a kind -/
theorem ev_split {s w0 : List UInt8} {ws : List (List UInt8)} {k : Int} (hL : splitL 32 s = w0 :: ws) (hk : kindOf w0 = some k) (n : Nat) (hn : (pnK k).length = n) (hl : ws.length = (pts k).length) : evOf s = (rdAll (fun w => rdL w 999999) (ws.take n)).bind fun ns => (rdAll rdN (ws.drop n)).map fun xs => putN (putN (zk k) (pnK k) ns) (pwK k) xs := by
  subst hn
  rw [evOf_fill hL hk hl]
  have hp := pnw k
  have h1 : (ws.take (pnK k).length).length = (pnK k).length := by
    rw [List.length_take, hl, hp, List.length_append]; omega
  have h2 : (ws.drop (pnK k).length).length = (pwK k).length := by
    rw [List.length_drop, hl, hp, List.length_append]; omega
  have e1 : fillG (zk k) (pts k) ws = fillG (zk k) (pnK k ++ pwK k) (ws.take (pnK k).length ++ ws.drop (pnK k).length) := by rw [List.take_append_drop, ← hp]
  rw [e1, fillG_append _ _ _ _ _ h1, fill_all (fun w => rdL w 999999) _ _ _ h1 fun p hq w => by unfold limP; rw [pn_f hq]; rfl]
  cases rdAll (fun w => rdL w 999999) (ws.take (pnK k).length) with
  | none => rfl
  | some ns =>
    show fillG (putN (zk k) (pnK k) ns) (pwK k) (ws.drop (pnK k).length) = _
    rw [fill_all rdN _ _ _ h2 fun p hq w => by
      unfold limP
      rw [pw_t hq, if_pos rfl]
      unfold rdL
      cases hr : rdN w with
      | none => rfl
      | some n => have := (rdN_some hr).1; simp only [Option.filter]; rw [if_pos (by simp; omega)]]
    rfl
set_option maxHeartbeats 4000000 in
theorem revent_any (s : List UInt8) (hs : s.length ≤ 100000) (l : List Chunk) : Fn Tryd.prog 21 [str s] l fun v l' => v = lineR s ∧ ∃ X, l' = X ++ l := by
  refine fn_of_body Tryd.func21 rfl rfl fun E => ?_
  simp only [argF, Tryd.ntmps21]
  refine gzU ?_
  refine t_e e_alloc rfl rfl rfl ?_; rintro _ _ ⟨b2, _, rfl, rfl⟩
  refine gzU ?_
  refine t_e (e_call0 rfl rfl (split_any s 32 hs _)) rfl rfl rfl ?_
  rintro sv _ ⟨c1, ho, rfl⟩
  obtain ⟨w0, ws, hL⟩ : ∃ w0 ws, splitL 32 s = w0 :: ws := by
    cases h : splitL 32 s with
    | nil => exact absurd h (splitL_ne _ _)
    | cons a b => exact ⟨a, b, rfl⟩
  have hsl := split_len 32 s
  have hww : ∀ w ∈ w0 :: ws, w.length ≤ 100000 := fun w hw => by
    have := splitL_words 32 s w (by rw [hL]; exact hw); omega
  rw [hL] at ho hsl
  rw [List.length_cons] at hsl
  obtain ⟨a1, cap, rfl, hq⟩ := ho.at1
  have hcap : (w0 :: ws).length ≤ cap := by
    rcases ho.2 with ⟨h, h0, _⟩ | ⟨b, cap, sp, h, _, h2, _⟩
    · simp only [Value.slice.injEq] at h; omega
    · simp only [Value.slice.injEq] at h; omega
  obtain ⟨gb, cells, ct, fz, rfl, hm, hc0⟩ := hq (by simp)
  have hc : ∀ (i : Nat) (w : List UInt8), (w0 :: ws)[i]? = some w → cells[i]? = some (str w) := fun i w hw => hc0 i _ (by rw [List.getElem?_map, hw]; rfl)
  have hx0 : (List.toArray cells)[0 * 1]? = some (str w0) := by simpa using hc 0 _ rfl
  have hx0b : (List.toArray cells)[0 + (0 : Int).toNat * 1]? = some (str w0) := hx0
  clear hq hc0 ho
  have hcl : (w0 :: ws).length = ws.length + 1 := rfl
  rw [hcl] at hcap ⊢
  refine s_keep (l' := evC b2 zEv :: (c1 ++ l)) (Keep.of_perm List.perm_middle) ?_
  have hm1 : (gb, Obj.cells (List.toArray cells) ct fz) ∈ c1 ++ l := List.mem_append_left _ hm
  have hm2 : ∀ X : List Chunk, (gb, Obj.cells (List.toArray cells) ct fz) ∈ X ++ (c1 ++ l) := fun X => List.mem_append_right _ hm1
  by_cases he : w0 = ([112, 105, 99, 107] : List UInt8)
  · have hkind : kindOf w0 = some 1 := by rw [he]; decide
    have hn2 : ¬ w0 = ([99, 97, 108, 108] : List UInt8) := by rw [he]; decide
    have hn3 : ¬ w0 = ([108, 111, 97, 100] : List UInt8) := by rw [he]; decide
    have hn4 : ¬ w0 = ([115, 116, 111, 114, 101] : List UInt8) := by rw [he]; decide
    have hn5 : ¬ w0 = ([101, 118, 105, 99, 116] : List UInt8) := by rw [he]; decide
    have hn6 : ¬ w0 = ([112, 114, 101, 102, 101, 116, 99, 104] : List UInt8) := by rw [he]; decide
    by_cases hmn : ws.length < 2
    · have hev : evOf s = none := evOf_len hL hkind (by rw [show (pts 1).length = 2 from rfl]; omega)
      refine gzU ?_
      exact k_ret [] rfl .refl (by exact zRes) ⟨by rw [lineR_none hev]; rfl, _ :: c1, rfl⟩
    · obtain ⟨wA, hwA⟩ : ∃ x, x = ws.take 2 := ⟨_, rfl⟩
      obtain ⟨wB, hwB⟩ : ∃ x, x = ws.drop 2 := ⟨_, rfl⟩
      have hlA : wA.length = 2 := by rw [hwA, List.length_take]; omega
      have hlB : wB.length = ws.length - 2 := by rw [hwB, List.length_drop]
      have hSA : ∀ X : List Chunk, StrIn (X ++ (c1 ++ l)) (if cap = 1 then some ⟨gb, 0, none⟩ else (some (⟨gb, 0, none⟩ : Addr)).map (·.add (1 * 1))) wA := fun X => by
        have := strIn_sub (p := 1) (q := 3) (List.mem_append_right X (List.mem_append_left l hm)) hc hcap
        rw [hwA]; exact this
      have hSB : ∀ X : List Chunk, StrIn (X ++ (c1 ++ l)) (if cap = 3 then some ⟨gb, 0, none⟩ else (some (⟨gb, 0, none⟩ : Addr)).map (·.add (3 * 1))) wB := fun X => by
        have := strIn_sub (p := 3) (q := (w0 :: ws).length) (List.mem_append_right X (List.mem_append_left l hm)) hc hcap
        rw [List.take_length] at this
        rw [hwB]; exact this
      have hwA2 : ∀ w ∈ wA, w.length ≤ 100000 := fun w hw => hww w (.tail _ (List.mem_of_mem_take (by rw [hwA] at hw; exact hw)))
      have hwB2 : ∀ w ∈ wB, w.length ≤ 100000 := fun w hw => hww w (.tail _ (List.mem_of_mem_drop (by rw [hwB] at hw; exact hw)))
      refine gzU ?_
      refine t_q (q_sliceP (l0 := 1) (h0 := 3) (m0 := cap) (n' := wA.length) (c' := cap - 1) rfl (.some rfl (by omega) rfl) (.some rfl (by omega) (by omega)) .none (by simp) (by omega) (by omega) (by omega) (by omega) rfl) rfl rfl rfl ?_
      refine t_e (e_call0 rfl rfl (nums_any _ _ wA hwA2 (by omega) (evC b2 zEv :: (c1 ++ l)) (hSA [evC b2 zEv]))) rfl rfl rfl ?_
      rintro vA lA hQA
      obtain ⟨okA, svA, c2, rfl, rfl, hQA2⟩ : ∃ okA svA c2, vA = .tuple #[svA, .bool okA] ∧ lA = c2 ++ (evC b2 zEv :: (c1 ++ l)) ∧ ((okA = false ∧ rdAll (fun w => rdL w 999999) wA = none) ∨ ∃ ns, okA = true ∧ rdAll (fun w => rdL w 999999) wA = some ns ∧ OwnSl 3 1 svA ns.length (ns.map fun n => Value.int .i64 (n : Nat)) c2) := by
        unfold numsQ at hQA
        cases hA : rdAll (fun w => rdL w 999999) wA with
        | none => rw [hA] at hQA; obtain ⟨rfl, X, rfl⟩ := hQA; exact ⟨_, _, X, rfl, rfl, .inl ⟨rfl, rfl⟩⟩
        | some ns => rw [hA] at hQA; obtain ⟨sv, c2, rfl, ho, rfl⟩ := hQA; exact ⟨_, _, c2, rfl, rfl, .inr ⟨ns, rfl, rfl, ho⟩⟩
      refine s_keep (l' := evC b2 zEv :: (c2 ++ (c1 ++ l))) (Keep.of_perm List.perm_middle) ?_
      refine gzU ?_
      refine t_q (q_sliceP (l0 := 3) (h0 := ws.length + 1) (m0 := cap) (n' := wB.length) (c' := cap - 3) rfl (.some rfl (by omega) (by omega)) .none .none (by simp) (by omega) (by omega) (by omega) (by omega) rfl) rfl rfl rfl ?_
      refine t_e (e_call0 rfl rfl (wrds_any _ _ wB hwB2 (by omega) (evC b2 zEv :: (c2 ++ (c1 ++ l))) (hSB (evC b2 zEv :: c2)))) rfl rfl rfl ?_
      rintro vB lB hQB
      obtain ⟨okB, svB, c3, rfl, rfl, hQB2⟩ : ∃ okB svB c3, vB = .tuple #[svB, .bool okB] ∧ lB = c3 ++ (evC b2 zEv :: (c2 ++ (c1 ++ l))) ∧ ((okB = false ∧ rdAll rdN wB = none) ∨ ∃ xs, okB = true ∧ rdAll rdN wB = some xs ∧ OwnSl 38 1 svB xs.length (xs.map fun n => Value.int .u64 (n : Nat)) c3) := by
        unfold wrdsQ at hQB
        cases hB : rdAll rdN wB with
        | none => rw [hB] at hQB; obtain ⟨rfl, X, rfl⟩ := hQB; exact ⟨_, _, X, rfl, rfl, .inl ⟨rfl, rfl⟩⟩
        | some xs => rw [hB] at hQB; obtain ⟨sv, c3, rfl, ho, rfl⟩ := hQB; exact ⟨_, _, c3, rfl, rfl, .inr ⟨xs, rfl, rfl, ho⟩⟩
      refine s_keep (l' := evC b2 zEv :: (c3 ++ (c2 ++ (c1 ++ l)))) (Keep.of_perm List.perm_middle) ?_
      clear hQA hQB
      have hm3 : (gb, Obj.cells (List.toArray cells) ct fz) ∈ c3 ++ (c2 ++ (c1 ++ l)) := List.mem_append_right _ (List.mem_append_right _ hm1)
      have hXX : c3 ++ (c2 ++ (c1 ++ l)) = (c3 ++ (c2 ++ c1)) ++ l := by simp
      have hbad : rdAll (fun w => rdL w 999999) wA = none ∨ rdAll rdN wB = none → evOf s = none := fun h => by
        by_cases hll : ws.length = (pts 1).length
        · rw [ev_split hL hkind 2 rfl hll, ← hwA, ← hwB]
          rcases h with h | h
          · rw [h]; rfl
          · rw [h]; cases rdAll (fun w => rdL w 999999) wA <;> rfl
        · exact evOf_len hL hkind hll
      rcases hQA2 with ⟨rfl, hA⟩ | ⟨ns, rfl, hA, hN⟩
      · have hev := hbad (.inl hA)
        rcases hQB2 with ⟨rfl, hB⟩ | ⟨xs, rfl, hB, hW⟩
        · refine gzU ?_
          exact k_ret [] rfl .refl (by exact zRes) ⟨by rw [lineR_none hev]; rfl, by rw [hXX]; exact ⟨_ :: (c3 ++ (c2 ++ c1)), rfl⟩⟩
        · refine gzU ?_
          exact k_ret [] rfl .refl (by exact zRes) ⟨by rw [lineR_none hev]; rfl, by rw [hXX]; exact ⟨_ :: (c3 ++ (c2 ++ c1)), rfl⟩⟩
      rcases hQB2 with ⟨rfl, hB⟩ | ⟨xs, rfl, hB, hW⟩
      · have hev := hbad (.inr hB)
        refine gzU ?_
        exact k_ret [] rfl .refl (by exact zRes) ⟨by rw [lineR_none hev]; rfl, by rw [hXX]; exact ⟨_ :: (c3 ++ (c2 ++ c1)), rfl⟩⟩
      have hlnA := rdAll_len hA
      have hlnB := rdAll_len hB
      rw [hlA] at hlnA
      rw [hwA] at hA
      rw [hwB] at hB
      obtain ⟨y0, y1, rfl⟩ : ∃ y0 y1, ns = [y0, y1] := by
        have h1 := hlnA
        rcases ns with  _ | ⟨y0, _ | ⟨y1, _ | ⟨q, r⟩⟩⟩
        all_goals first | exact ⟨_, _, rfl⟩ | (simp at h1)
      obtain ⟨aN, cN, rfl, hqN⟩ := hN.at1
      obtain ⟨bn, cells1, ct1, fz1, rfl, hmN, hcN⟩ := hqN (by simp)
      rw [show ([y0, y1] : List Nat).length = 2 from rfl]
      have hN0 : (List.toArray cells1)[0 * 1]? = some (.int .i64 (y0 : Nat)) := by simpa using hcN 0 _ rfl
      have hN0b : (List.toArray cells1)[0 + (0 : Int).toNat * 1]? = some (.int .i64 (y0 : Nat)) := by simpa using hcN 0 _ rfl
      have hN1 : (List.toArray cells1)[1 * 1]? = some (.int .i64 (y1 : Nat)) := by simpa using hcN 1 _ rfl
      have hN1b : (List.toArray cells1)[0 + (1 : Int).toNat * 1]? = some (.int .i64 (y1 : Nat)) := by simpa using hcN 1 _ rfl
      have hmN1 : (bn, Obj.cells (List.toArray cells1) ct1 fz1) ∈ c3 ++ (c2 ++ (c1 ++ l)) := List.mem_append_right _ (List.mem_append_left _ hmN)
      by_cases hmany : ws.length = 2
      · have hev : evOf s = some [.int .i64 1, .int .i64 (y0 : Nat), .int .i64 (y1 : Nat), .int .u64 0, .int .u64 0, .int .u64 0, .int .u64 0, .int .u64 0, .int .u64 0, .int .u64 0, .int .u64 0, .int .u64 0, .int .i64 0, .int .i64 0, .int .i64 0] := by
          have hB2 : rdAll rdN (ws.drop 2) = some [] := by rw [List.drop_of_length_le (by omega)]; rfl
          rw [ev_split hL hkind 2 rfl (by rw [hmany]; rfl), hA, hB2]; rfl
        refine gzU ?_
        refine t_e e_alloc rfl rfl rfl ?_; rintro _ _ ⟨b11, _, rfl, rfl⟩
        refine gzU ?_
        refine gzU ?_
        refine c_draw [(0, true), (1, true), (2, true), (3, true), (4, false), (5, true), (6, false)] [[], [0], [0, 1], [], [3], [0, 1, 2, 3, 4], [0, 1, 2, 3, 4, 5]] (c3 ++ (c2 ++ (c1 ++ l))) (by kernel_rfl) (by kernel_rfl) zAtt (fun c hc => .tail _ (.tail _ hc)) ?_
        refine pzU ?_
        refine gzU ?_
        exact k_ret [] rfl .refl (by exact zRes) ⟨by unfold lineR; rw [hev]; rfl, by rw [hXX]; exact ⟨_ :: _ :: (c3 ++ (c2 ++ c1)), rfl⟩⟩
      · have hev : evOf s = none := evOf_len hL hkind (by rw [show (pts 1).length = 2 from rfl]; omega)
        refine gzU ?_
        refine t_e e_alloc rfl rfl rfl ?_; rintro _ _ ⟨b11, _, rfl, rfl⟩
        refine gzU ?_
        refine gzU ?_
        exact k_ret [] rfl .refl (by exact zRes) ⟨by rw [lineR_none hev]; rfl, by rw [hXX]; exact ⟨_ :: _ :: (c3 ++ (c2 ++ c1)), rfl⟩⟩
  have hn1 := he
  clear he
  by_cases he : w0 = ([101, 118, 105, 99, 116] : List UInt8)
  · have hkind : kindOf w0 = some 5 := by rw [he]; decide
    have hn1 : ¬ w0 = ([112, 105, 99, 107] : List UInt8) := by rw [he]; decide
    have hn2 : ¬ w0 = ([99, 97, 108, 108] : List UInt8) := by rw [he]; decide
    have hn3 : ¬ w0 = ([108, 111, 97, 100] : List UInt8) := by rw [he]; decide
    have hn4 : ¬ w0 = ([115, 116, 111, 114, 101] : List UInt8) := by rw [he]; decide
    have hn6 : ¬ w0 = ([112, 114, 101, 102, 101, 116, 99, 104] : List UInt8) := by rw [he]; decide
    by_cases hmn : ws.length < 3
    · have hev : evOf s = none := evOf_len hL hkind (by rw [show (pts 5).length = 3 from rfl]; omega)
      refine gzU ?_
      exact k_ret [] rfl .refl (by exact zRes) ⟨by rw [lineR_none hev]; rfl, _ :: c1, rfl⟩
    · obtain ⟨wA, hwA⟩ : ∃ x, x = ws.take 3 := ⟨_, rfl⟩
      obtain ⟨wB, hwB⟩ : ∃ x, x = ws.drop 3 := ⟨_, rfl⟩
      have hlA : wA.length = 3 := by rw [hwA, List.length_take]; omega
      have hlB : wB.length = ws.length - 3 := by rw [hwB, List.length_drop]
      have hSA : ∀ X : List Chunk, StrIn (X ++ (c1 ++ l)) (if cap = 1 then some ⟨gb, 0, none⟩ else (some (⟨gb, 0, none⟩ : Addr)).map (·.add (1 * 1))) wA := fun X => by
        have := strIn_sub (p := 1) (q := 4) (List.mem_append_right X (List.mem_append_left l hm)) hc hcap
        rw [hwA]; exact this
      have hSB : ∀ X : List Chunk, StrIn (X ++ (c1 ++ l)) (if cap = 4 then some ⟨gb, 0, none⟩ else (some (⟨gb, 0, none⟩ : Addr)).map (·.add (4 * 1))) wB := fun X => by
        have := strIn_sub (p := 4) (q := (w0 :: ws).length) (List.mem_append_right X (List.mem_append_left l hm)) hc hcap
        rw [List.take_length] at this
        rw [hwB]; exact this
      have hwA2 : ∀ w ∈ wA, w.length ≤ 100000 := fun w hw => hww w (.tail _ (List.mem_of_mem_take (by rw [hwA] at hw; exact hw)))
      have hwB2 : ∀ w ∈ wB, w.length ≤ 100000 := fun w hw => hww w (.tail _ (List.mem_of_mem_drop (by rw [hwB] at hw; exact hw)))
      refine gzU ?_
      refine t_q (q_sliceP (l0 := 1) (h0 := 4) (m0 := cap) (n' := wA.length) (c' := cap - 1) rfl (.some rfl (by omega) rfl) (.some rfl (by omega) (by omega)) .none (by simp) (by omega) (by omega) (by omega) (by omega) rfl) rfl rfl rfl ?_
      refine t_e (e_call0 rfl rfl (nums_any _ _ wA hwA2 (by omega) (evC b2 zEv :: (c1 ++ l)) (hSA [evC b2 zEv]))) rfl rfl rfl ?_
      rintro vA lA hQA
      obtain ⟨okA, svA, c2, rfl, rfl, hQA2⟩ : ∃ okA svA c2, vA = .tuple #[svA, .bool okA] ∧ lA = c2 ++ (evC b2 zEv :: (c1 ++ l)) ∧ ((okA = false ∧ rdAll (fun w => rdL w 999999) wA = none) ∨ ∃ ns, okA = true ∧ rdAll (fun w => rdL w 999999) wA = some ns ∧ OwnSl 3 1 svA ns.length (ns.map fun n => Value.int .i64 (n : Nat)) c2) := by
        unfold numsQ at hQA
        cases hA : rdAll (fun w => rdL w 999999) wA with
        | none => rw [hA] at hQA; obtain ⟨rfl, X, rfl⟩ := hQA; exact ⟨_, _, X, rfl, rfl, .inl ⟨rfl, rfl⟩⟩
        | some ns => rw [hA] at hQA; obtain ⟨sv, c2, rfl, ho, rfl⟩ := hQA; exact ⟨_, _, c2, rfl, rfl, .inr ⟨ns, rfl, rfl, ho⟩⟩
      refine s_keep (l' := evC b2 zEv :: (c2 ++ (c1 ++ l))) (Keep.of_perm List.perm_middle) ?_
      refine gzU ?_
      refine t_q (q_sliceP (l0 := 4) (h0 := ws.length + 1) (m0 := cap) (n' := wB.length) (c' := cap - 4) rfl (.some rfl (by omega) (by omega)) .none .none (by simp) (by omega) (by omega) (by omega) (by omega) rfl) rfl rfl rfl ?_
      refine t_e (e_call0 rfl rfl (wrds_any _ _ wB hwB2 (by omega) (evC b2 zEv :: (c2 ++ (c1 ++ l))) (hSB (evC b2 zEv :: c2)))) rfl rfl rfl ?_
      rintro vB lB hQB
      obtain ⟨okB, svB, c3, rfl, rfl, hQB2⟩ : ∃ okB svB c3, vB = .tuple #[svB, .bool okB] ∧ lB = c3 ++ (evC b2 zEv :: (c2 ++ (c1 ++ l))) ∧ ((okB = false ∧ rdAll rdN wB = none) ∨ ∃ xs, okB = true ∧ rdAll rdN wB = some xs ∧ OwnSl 38 1 svB xs.length (xs.map fun n => Value.int .u64 (n : Nat)) c3) := by
        unfold wrdsQ at hQB
        cases hB : rdAll rdN wB with
        | none => rw [hB] at hQB; obtain ⟨rfl, X, rfl⟩ := hQB; exact ⟨_, _, X, rfl, rfl, .inl ⟨rfl, rfl⟩⟩
        | some xs => rw [hB] at hQB; obtain ⟨sv, c3, rfl, ho, rfl⟩ := hQB; exact ⟨_, _, c3, rfl, rfl, .inr ⟨xs, rfl, rfl, ho⟩⟩
      refine s_keep (l' := evC b2 zEv :: (c3 ++ (c2 ++ (c1 ++ l)))) (Keep.of_perm List.perm_middle) ?_
      clear hQA hQB
      have hm3 : (gb, Obj.cells (List.toArray cells) ct fz) ∈ c3 ++ (c2 ++ (c1 ++ l)) := List.mem_append_right _ (List.mem_append_right _ hm1)
      have hXX : c3 ++ (c2 ++ (c1 ++ l)) = (c3 ++ (c2 ++ c1)) ++ l := by simp
      have hbad : rdAll (fun w => rdL w 999999) wA = none ∨ rdAll rdN wB = none → evOf s = none := fun h => by
        by_cases hll : ws.length = (pts 5).length
        · rw [ev_split hL hkind 3 rfl hll, ← hwA, ← hwB]
          rcases h with h | h
          · rw [h]; rfl
          · rw [h]; cases rdAll (fun w => rdL w 999999) wA <;> rfl
        · exact evOf_len hL hkind hll
      rcases hQA2 with ⟨rfl, hA⟩ | ⟨ns, rfl, hA, hN⟩
      · have hev := hbad (.inl hA)
        rcases hQB2 with ⟨rfl, hB⟩ | ⟨xs, rfl, hB, hW⟩
        · refine gzU ?_
          exact k_ret [] rfl .refl (by exact zRes) ⟨by rw [lineR_none hev]; rfl, by rw [hXX]; exact ⟨_ :: (c3 ++ (c2 ++ c1)), rfl⟩⟩
        · refine gzU ?_
          exact k_ret [] rfl .refl (by exact zRes) ⟨by rw [lineR_none hev]; rfl, by rw [hXX]; exact ⟨_ :: (c3 ++ (c2 ++ c1)), rfl⟩⟩
      rcases hQB2 with ⟨rfl, hB⟩ | ⟨xs, rfl, hB, hW⟩
      · have hev := hbad (.inr hB)
        refine gzU ?_
        exact k_ret [] rfl .refl (by exact zRes) ⟨by rw [lineR_none hev]; rfl, by rw [hXX]; exact ⟨_ :: (c3 ++ (c2 ++ c1)), rfl⟩⟩
      have hlnA := rdAll_len hA
      have hlnB := rdAll_len hB
      rw [hlA] at hlnA
      rw [hwA] at hA
      rw [hwB] at hB
      obtain ⟨y0, y1, y2, rfl⟩ : ∃ y0 y1 y2, ns = [y0, y1, y2] := by
        have h1 := hlnA
        rcases ns with  _ | ⟨y0, _ | ⟨y1, _ | ⟨y2, _ | ⟨q, r⟩⟩⟩⟩
        all_goals first | exact ⟨_, _, _, rfl⟩ | (simp at h1)
      obtain ⟨aN, cN, rfl, hqN⟩ := hN.at1
      obtain ⟨bn, cells1, ct1, fz1, rfl, hmN, hcN⟩ := hqN (by simp)
      rw [show ([y0, y1, y2] : List Nat).length = 3 from rfl]
      have hN0 : (List.toArray cells1)[0 * 1]? = some (.int .i64 (y0 : Nat)) := by simpa using hcN 0 _ rfl
      have hN0b : (List.toArray cells1)[0 + (0 : Int).toNat * 1]? = some (.int .i64 (y0 : Nat)) := by simpa using hcN 0 _ rfl
      have hN1 : (List.toArray cells1)[1 * 1]? = some (.int .i64 (y1 : Nat)) := by simpa using hcN 1 _ rfl
      have hN1b : (List.toArray cells1)[0 + (1 : Int).toNat * 1]? = some (.int .i64 (y1 : Nat)) := by simpa using hcN 1 _ rfl
      have hN2 : (List.toArray cells1)[2 * 1]? = some (.int .i64 (y2 : Nat)) := by simpa using hcN 2 _ rfl
      have hN2b : (List.toArray cells1)[0 + (2 : Int).toNat * 1]? = some (.int .i64 (y2 : Nat)) := by simpa using hcN 2 _ rfl
      have hmN1 : (bn, Obj.cells (List.toArray cells1) ct1 fz1) ∈ c3 ++ (c2 ++ (c1 ++ l)) := List.mem_append_right _ (List.mem_append_left _ hmN)
      by_cases hmany : ws.length = 3
      · have hev : evOf s = some [.int .i64 5, .int .i64 (y0 : Nat), .int .i64 0, .int .u64 0, .int .u64 0, .int .u64 0, .int .u64 0, .int .u64 0, .int .u64 0, .int .u64 0, .int .u64 0, .int .u64 0, .int .i64 (y1 : Nat), .int .i64 (y2 : Nat), .int .i64 0] := by
          have hB2 : rdAll rdN (ws.drop 3) = some [] := by rw [List.drop_of_length_le (by omega)]; rfl
          rw [ev_split hL hkind 3 rfl (by rw [hmany]; rfl), hA, hB2]; rfl
        refine gzU ?_
        refine t_e e_alloc rfl rfl rfl ?_; rintro _ _ ⟨b11, _, rfl, rfl⟩
        refine gzU ?_
        refine gzU ?_
        refine c_draw [(0, true), (1, true), (2, true), (3, true), (4, true), (5, true), (6, true), (7, false), (8, true), (9, false), (10, true), (11, false)] [[], [0], [0, 1], [], [3], [3, 4], [], [6], [0, 1, 2, 6, 7], [0, 1, 2, 6, 7, 8], [0, 1, 2, 3, 4, 5, 6, 7, 8, 9], [0, 1, 2, 3, 4, 5, 6, 7, 8, 9, 10]] (c3 ++ (c2 ++ (c1 ++ l))) (by kernel_rfl) (by kernel_rfl) zAtt (fun c hc => .tail _ (.tail _ hc)) ?_
        refine pzU ?_
        refine gzU ?_
        exact k_ret [] rfl .refl (by exact zRes) ⟨by unfold lineR; rw [hev]; rfl, by rw [hXX]; exact ⟨_ :: _ :: (c3 ++ (c2 ++ c1)), rfl⟩⟩
      · have hev : evOf s = none := evOf_len hL hkind (by rw [show (pts 5).length = 3 from rfl]; omega)
        refine gzU ?_
        refine t_e e_alloc rfl rfl rfl ?_; rintro _ _ ⟨b11, _, rfl, rfl⟩
        refine gzU ?_
        refine gzU ?_
        exact k_ret [] rfl .refl (by exact zRes) ⟨by rw [lineR_none hev]; rfl, by rw [hXX]; exact ⟨_ :: _ :: (c3 ++ (c2 ++ c1)), rfl⟩⟩
  have hn5 := he
  clear he
  by_cases he : w0 = ([112, 114, 101, 102, 101, 116, 99, 104] : List UInt8)
  · have hkind : kindOf w0 = some 6 := by rw [he]; decide
    have hn1 : ¬ w0 = ([112, 105, 99, 107] : List UInt8) := by rw [he]; decide
    have hn2 : ¬ w0 = ([99, 97, 108, 108] : List UInt8) := by rw [he]; decide
    have hn3 : ¬ w0 = ([108, 111, 97, 100] : List UInt8) := by rw [he]; decide
    have hn4 : ¬ w0 = ([115, 116, 111, 114, 101] : List UInt8) := by rw [he]; decide
    have hn5 : ¬ w0 = ([101, 118, 105, 99, 116] : List UInt8) := by rw [he]; decide
    by_cases hmn : ws.length < 2
    · have hev : evOf s = none := evOf_len hL hkind (by rw [show (pts 6).length = 2 from rfl]; omega)
      refine gzU ?_
      exact k_ret [] rfl .refl (by exact zRes) ⟨by rw [lineR_none hev]; rfl, _ :: c1, rfl⟩
    · obtain ⟨wA, hwA⟩ : ∃ x, x = ws.take 2 := ⟨_, rfl⟩
      obtain ⟨wB, hwB⟩ : ∃ x, x = ws.drop 2 := ⟨_, rfl⟩
      have hlA : wA.length = 2 := by rw [hwA, List.length_take]; omega
      have hlB : wB.length = ws.length - 2 := by rw [hwB, List.length_drop]
      have hSA : ∀ X : List Chunk, StrIn (X ++ (c1 ++ l)) (if cap = 1 then some ⟨gb, 0, none⟩ else (some (⟨gb, 0, none⟩ : Addr)).map (·.add (1 * 1))) wA := fun X => by
        have := strIn_sub (p := 1) (q := 3) (List.mem_append_right X (List.mem_append_left l hm)) hc hcap
        rw [hwA]; exact this
      have hSB : ∀ X : List Chunk, StrIn (X ++ (c1 ++ l)) (if cap = 3 then some ⟨gb, 0, none⟩ else (some (⟨gb, 0, none⟩ : Addr)).map (·.add (3 * 1))) wB := fun X => by
        have := strIn_sub (p := 3) (q := (w0 :: ws).length) (List.mem_append_right X (List.mem_append_left l hm)) hc hcap
        rw [List.take_length] at this
        rw [hwB]; exact this
      have hwA2 : ∀ w ∈ wA, w.length ≤ 100000 := fun w hw => hww w (.tail _ (List.mem_of_mem_take (by rw [hwA] at hw; exact hw)))
      have hwB2 : ∀ w ∈ wB, w.length ≤ 100000 := fun w hw => hww w (.tail _ (List.mem_of_mem_drop (by rw [hwB] at hw; exact hw)))
      refine gzU ?_
      refine t_q (q_sliceP (l0 := 1) (h0 := 3) (m0 := cap) (n' := wA.length) (c' := cap - 1) rfl (.some rfl (by omega) rfl) (.some rfl (by omega) (by omega)) .none (by simp) (by omega) (by omega) (by omega) (by omega) rfl) rfl rfl rfl ?_
      refine t_e (e_call0 rfl rfl (nums_any _ _ wA hwA2 (by omega) (evC b2 zEv :: (c1 ++ l)) (hSA [evC b2 zEv]))) rfl rfl rfl ?_
      rintro vA lA hQA
      obtain ⟨okA, svA, c2, rfl, rfl, hQA2⟩ : ∃ okA svA c2, vA = .tuple #[svA, .bool okA] ∧ lA = c2 ++ (evC b2 zEv :: (c1 ++ l)) ∧ ((okA = false ∧ rdAll (fun w => rdL w 999999) wA = none) ∨ ∃ ns, okA = true ∧ rdAll (fun w => rdL w 999999) wA = some ns ∧ OwnSl 3 1 svA ns.length (ns.map fun n => Value.int .i64 (n : Nat)) c2) := by
        unfold numsQ at hQA
        cases hA : rdAll (fun w => rdL w 999999) wA with
        | none => rw [hA] at hQA; obtain ⟨rfl, X, rfl⟩ := hQA; exact ⟨_, _, X, rfl, rfl, .inl ⟨rfl, rfl⟩⟩
        | some ns => rw [hA] at hQA; obtain ⟨sv, c2, rfl, ho, rfl⟩ := hQA; exact ⟨_, _, c2, rfl, rfl, .inr ⟨ns, rfl, rfl, ho⟩⟩
      refine s_keep (l' := evC b2 zEv :: (c2 ++ (c1 ++ l))) (Keep.of_perm List.perm_middle) ?_
      refine gzU ?_
      refine t_q (q_sliceP (l0 := 3) (h0 := ws.length + 1) (m0 := cap) (n' := wB.length) (c' := cap - 3) rfl (.some rfl (by omega) (by omega)) .none .none (by simp) (by omega) (by omega) (by omega) (by omega) rfl) rfl rfl rfl ?_
      refine t_e (e_call0 rfl rfl (wrds_any _ _ wB hwB2 (by omega) (evC b2 zEv :: (c2 ++ (c1 ++ l))) (hSB (evC b2 zEv :: c2)))) rfl rfl rfl ?_
      rintro vB lB hQB
      obtain ⟨okB, svB, c3, rfl, rfl, hQB2⟩ : ∃ okB svB c3, vB = .tuple #[svB, .bool okB] ∧ lB = c3 ++ (evC b2 zEv :: (c2 ++ (c1 ++ l))) ∧ ((okB = false ∧ rdAll rdN wB = none) ∨ ∃ xs, okB = true ∧ rdAll rdN wB = some xs ∧ OwnSl 38 1 svB xs.length (xs.map fun n => Value.int .u64 (n : Nat)) c3) := by
        unfold wrdsQ at hQB
        cases hB : rdAll rdN wB with
        | none => rw [hB] at hQB; obtain ⟨rfl, X, rfl⟩ := hQB; exact ⟨_, _, X, rfl, rfl, .inl ⟨rfl, rfl⟩⟩
        | some xs => rw [hB] at hQB; obtain ⟨sv, c3, rfl, ho, rfl⟩ := hQB; exact ⟨_, _, c3, rfl, rfl, .inr ⟨xs, rfl, rfl, ho⟩⟩
      refine s_keep (l' := evC b2 zEv :: (c3 ++ (c2 ++ (c1 ++ l)))) (Keep.of_perm List.perm_middle) ?_
      clear hQA hQB
      have hm3 : (gb, Obj.cells (List.toArray cells) ct fz) ∈ c3 ++ (c2 ++ (c1 ++ l)) := List.mem_append_right _ (List.mem_append_right _ hm1)
      have hXX : c3 ++ (c2 ++ (c1 ++ l)) = (c3 ++ (c2 ++ c1)) ++ l := by simp
      have hbad : rdAll (fun w => rdL w 999999) wA = none ∨ rdAll rdN wB = none → evOf s = none := fun h => by
        by_cases hll : ws.length = (pts 6).length
        · rw [ev_split hL hkind 2 rfl hll, ← hwA, ← hwB]
          rcases h with h | h
          · rw [h]; rfl
          · rw [h]; cases rdAll (fun w => rdL w 999999) wA <;> rfl
        · exact evOf_len hL hkind hll
      rcases hQA2 with ⟨rfl, hA⟩ | ⟨ns, rfl, hA, hN⟩
      · have hev := hbad (.inl hA)
        rcases hQB2 with ⟨rfl, hB⟩ | ⟨xs, rfl, hB, hW⟩
        · refine gzU ?_
          exact k_ret [] rfl .refl (by exact zRes) ⟨by rw [lineR_none hev]; rfl, by rw [hXX]; exact ⟨_ :: (c3 ++ (c2 ++ c1)), rfl⟩⟩
        · refine gzU ?_
          exact k_ret [] rfl .refl (by exact zRes) ⟨by rw [lineR_none hev]; rfl, by rw [hXX]; exact ⟨_ :: (c3 ++ (c2 ++ c1)), rfl⟩⟩
      rcases hQB2 with ⟨rfl, hB⟩ | ⟨xs, rfl, hB, hW⟩
      · have hev := hbad (.inr hB)
        refine gzU ?_
        exact k_ret [] rfl .refl (by exact zRes) ⟨by rw [lineR_none hev]; rfl, by rw [hXX]; exact ⟨_ :: (c3 ++ (c2 ++ c1)), rfl⟩⟩
      have hlnA := rdAll_len hA
      have hlnB := rdAll_len hB
      rw [hlA] at hlnA
      rw [hwA] at hA
      rw [hwB] at hB
      obtain ⟨y0, y1, rfl⟩ : ∃ y0 y1, ns = [y0, y1] := by
        have h1 := hlnA
        rcases ns with  _ | ⟨y0, _ | ⟨y1, _ | ⟨q, r⟩⟩⟩
        all_goals first | exact ⟨_, _, rfl⟩ | (simp at h1)
      obtain ⟨aN, cN, rfl, hqN⟩ := hN.at1
      obtain ⟨bn, cells1, ct1, fz1, rfl, hmN, hcN⟩ := hqN (by simp)
      rw [show ([y0, y1] : List Nat).length = 2 from rfl]
      have hN0 : (List.toArray cells1)[0 * 1]? = some (.int .i64 (y0 : Nat)) := by simpa using hcN 0 _ rfl
      have hN0b : (List.toArray cells1)[0 + (0 : Int).toNat * 1]? = some (.int .i64 (y0 : Nat)) := by simpa using hcN 0 _ rfl
      have hN1 : (List.toArray cells1)[1 * 1]? = some (.int .i64 (y1 : Nat)) := by simpa using hcN 1 _ rfl
      have hN1b : (List.toArray cells1)[0 + (1 : Int).toNat * 1]? = some (.int .i64 (y1 : Nat)) := by simpa using hcN 1 _ rfl
      have hmN1 : (bn, Obj.cells (List.toArray cells1) ct1 fz1) ∈ c3 ++ (c2 ++ (c1 ++ l)) := List.mem_append_right _ (List.mem_append_left _ hmN)
      by_cases hmany : ws.length = 2
      · have hev : evOf s = some [.int .i64 6, .int .i64 (y0 : Nat), .int .i64 0, .int .u64 0, .int .u64 0, .int .u64 0, .int .u64 0, .int .u64 0, .int .u64 0, .int .u64 0, .int .u64 0, .int .u64 0, .int .i64 0, .int .i64 0, .int .i64 (y1 : Nat)] := by
          have hB2 : rdAll rdN (ws.drop 2) = some [] := by rw [List.drop_of_length_le (by omega)]; rfl
          rw [ev_split hL hkind 2 rfl (by rw [hmany]; rfl), hA, hB2]; rfl
        refine gzU ?_
        refine t_e e_alloc rfl rfl rfl ?_; rintro _ _ ⟨b11, _, rfl, rfl⟩
        refine gzU ?_
        refine gzU ?_
        refine c_draw [(0, true), (1, true), (2, true), (3, true), (4, false), (5, true), (6, false)] [[], [0], [0, 1], [], [3], [0, 1, 2, 3, 4], [0, 1, 2, 3, 4, 5]] (c3 ++ (c2 ++ (c1 ++ l))) (by kernel_rfl) (by kernel_rfl) zAtt (fun c hc => .tail _ (.tail _ hc)) ?_
        refine pzU ?_
        refine gzU ?_
        exact k_ret [] rfl .refl (by exact zRes) ⟨by unfold lineR; rw [hev]; rfl, by rw [hXX]; exact ⟨_ :: _ :: (c3 ++ (c2 ++ c1)), rfl⟩⟩
      · have hev : evOf s = none := evOf_len hL hkind (by rw [show (pts 6).length = 2 from rfl]; omega)
        refine gzU ?_
        refine t_e e_alloc rfl rfl rfl ?_; rintro _ _ ⟨b11, _, rfl, rfl⟩
        refine gzU ?_
        refine gzU ?_
        exact k_ret [] rfl .refl (by exact zRes) ⟨by rw [lineR_none hev]; rfl, by rw [hXX]; exact ⟨_ :: _ :: (c3 ++ (c2 ++ c1)), rfl⟩⟩
  have hn6 := he
  clear he
  by_cases he : w0 = ([99, 97, 108, 108] : List UInt8)
  · have hkind : kindOf w0 = some 2 := by rw [he]; decide
    have hn1 : ¬ w0 = ([112, 105, 99, 107] : List UInt8) := by rw [he]; decide
    have hn3 : ¬ w0 = ([108, 111, 97, 100] : List UInt8) := by rw [he]; decide
    have hn4 : ¬ w0 = ([115, 116, 111, 114, 101] : List UInt8) := by rw [he]; decide
    have hn5 : ¬ w0 = ([101, 118, 105, 99, 116] : List UInt8) := by rw [he]; decide
    have hn6 : ¬ w0 = ([112, 114, 101, 102, 101, 116, 99, 104] : List UInt8) := by rw [he]; decide
    by_cases hmn : ws.length < 1
    · have hev : evOf s = none := evOf_len hL hkind (by rw [show (pts 2).length = 8 from rfl]; omega)
      refine gzU ?_
      exact k_ret [] rfl .refl (by exact zRes) ⟨by rw [lineR_none hev]; rfl, _ :: c1, rfl⟩
    · obtain ⟨wA, hwA⟩ : ∃ x, x = ws.take 1 := ⟨_, rfl⟩
      obtain ⟨wB, hwB⟩ : ∃ x, x = ws.drop 1 := ⟨_, rfl⟩
      have hlA : wA.length = 1 := by rw [hwA, List.length_take]; omega
      have hlB : wB.length = ws.length - 1 := by rw [hwB, List.length_drop]
      have hSA : ∀ X : List Chunk, StrIn (X ++ (c1 ++ l)) (if cap = 1 then some ⟨gb, 0, none⟩ else (some (⟨gb, 0, none⟩ : Addr)).map (·.add (1 * 1))) wA := fun X => by
        have := strIn_sub (p := 1) (q := 2) (List.mem_append_right X (List.mem_append_left l hm)) hc hcap
        rw [hwA]; exact this
      have hSB : ∀ X : List Chunk, StrIn (X ++ (c1 ++ l)) (if cap = 2 then some ⟨gb, 0, none⟩ else (some (⟨gb, 0, none⟩ : Addr)).map (·.add (2 * 1))) wB := fun X => by
        have := strIn_sub (p := 2) (q := (w0 :: ws).length) (List.mem_append_right X (List.mem_append_left l hm)) hc hcap
        rw [List.take_length] at this
        rw [hwB]; exact this
      have hwA2 : ∀ w ∈ wA, w.length ≤ 100000 := fun w hw => hww w (.tail _ (List.mem_of_mem_take (by rw [hwA] at hw; exact hw)))
      have hwB2 : ∀ w ∈ wB, w.length ≤ 100000 := fun w hw => hww w (.tail _ (List.mem_of_mem_drop (by rw [hwB] at hw; exact hw)))
      refine gzU ?_
      refine t_q (q_sliceP (l0 := 1) (h0 := 2) (m0 := cap) (n' := wA.length) (c' := cap - 1) rfl (.some rfl (by omega) rfl) (.some rfl (by omega) (by omega)) .none (by simp) (by omega) (by omega) (by omega) (by omega) rfl) rfl rfl rfl ?_
      refine t_e (e_call0 rfl rfl (nums_any _ _ wA hwA2 (by omega) (evC b2 zEv :: (c1 ++ l)) (hSA [evC b2 zEv]))) rfl rfl rfl ?_
      rintro vA lA hQA
      obtain ⟨okA, svA, c2, rfl, rfl, hQA2⟩ : ∃ okA svA c2, vA = .tuple #[svA, .bool okA] ∧ lA = c2 ++ (evC b2 zEv :: (c1 ++ l)) ∧ ((okA = false ∧ rdAll (fun w => rdL w 999999) wA = none) ∨ ∃ ns, okA = true ∧ rdAll (fun w => rdL w 999999) wA = some ns ∧ OwnSl 3 1 svA ns.length (ns.map fun n => Value.int .i64 (n : Nat)) c2) := by
        unfold numsQ at hQA
        cases hA : rdAll (fun w => rdL w 999999) wA with
        | none => rw [hA] at hQA; obtain ⟨rfl, X, rfl⟩ := hQA; exact ⟨_, _, X, rfl, rfl, .inl ⟨rfl, rfl⟩⟩
        | some ns => rw [hA] at hQA; obtain ⟨sv, c2, rfl, ho, rfl⟩ := hQA; exact ⟨_, _, c2, rfl, rfl, .inr ⟨ns, rfl, rfl, ho⟩⟩
      refine s_keep (l' := evC b2 zEv :: (c2 ++ (c1 ++ l))) (Keep.of_perm List.perm_middle) ?_
      refine gzU ?_
      refine t_q (q_sliceP (l0 := 2) (h0 := ws.length + 1) (m0 := cap) (n' := wB.length) (c' := cap - 2) rfl (.some rfl (by omega) (by omega)) .none .none (by simp) (by omega) (by omega) (by omega) (by omega) rfl) rfl rfl rfl ?_
      refine t_e (e_call0 rfl rfl (wrds_any _ _ wB hwB2 (by omega) (evC b2 zEv :: (c2 ++ (c1 ++ l))) (hSB (evC b2 zEv :: c2)))) rfl rfl rfl ?_
      rintro vB lB hQB
      obtain ⟨okB, svB, c3, rfl, rfl, hQB2⟩ : ∃ okB svB c3, vB = .tuple #[svB, .bool okB] ∧ lB = c3 ++ (evC b2 zEv :: (c2 ++ (c1 ++ l))) ∧ ((okB = false ∧ rdAll rdN wB = none) ∨ ∃ xs, okB = true ∧ rdAll rdN wB = some xs ∧ OwnSl 38 1 svB xs.length (xs.map fun n => Value.int .u64 (n : Nat)) c3) := by
        unfold wrdsQ at hQB
        cases hB : rdAll rdN wB with
        | none => rw [hB] at hQB; obtain ⟨rfl, X, rfl⟩ := hQB; exact ⟨_, _, X, rfl, rfl, .inl ⟨rfl, rfl⟩⟩
        | some xs => rw [hB] at hQB; obtain ⟨sv, c3, rfl, ho, rfl⟩ := hQB; exact ⟨_, _, c3, rfl, rfl, .inr ⟨xs, rfl, rfl, ho⟩⟩
      refine s_keep (l' := evC b2 zEv :: (c3 ++ (c2 ++ (c1 ++ l)))) (Keep.of_perm List.perm_middle) ?_
      clear hQA hQB
      have hm3 : (gb, Obj.cells (List.toArray cells) ct fz) ∈ c3 ++ (c2 ++ (c1 ++ l)) := List.mem_append_right _ (List.mem_append_right _ hm1)
      have hXX : c3 ++ (c2 ++ (c1 ++ l)) = (c3 ++ (c2 ++ c1)) ++ l := by simp
      have hbad : rdAll (fun w => rdL w 999999) wA = none ∨ rdAll rdN wB = none → evOf s = none := fun h => by
        by_cases hll : ws.length = (pts 2).length
        · rw [ev_split hL hkind 1 rfl hll, ← hwA, ← hwB]
          rcases h with h | h
          · rw [h]; rfl
          · rw [h]; cases rdAll (fun w => rdL w 999999) wA <;> rfl
        · exact evOf_len hL hkind hll
      rcases hQA2 with ⟨rfl, hA⟩ | ⟨ns, rfl, hA, hN⟩
      · have hev := hbad (.inl hA)
        rcases hQB2 with ⟨rfl, hB⟩ | ⟨xs, rfl, hB, hW⟩
        · refine gzU ?_
          exact k_ret [] rfl .refl (by exact zRes) ⟨by rw [lineR_none hev]; rfl, by rw [hXX]; exact ⟨_ :: (c3 ++ (c2 ++ c1)), rfl⟩⟩
        · refine gzU ?_
          exact k_ret [] rfl .refl (by exact zRes) ⟨by rw [lineR_none hev]; rfl, by rw [hXX]; exact ⟨_ :: (c3 ++ (c2 ++ c1)), rfl⟩⟩
      rcases hQB2 with ⟨rfl, hB⟩ | ⟨xs, rfl, hB, hW⟩
      · have hev := hbad (.inr hB)
        refine gzU ?_
        exact k_ret [] rfl .refl (by exact zRes) ⟨by rw [lineR_none hev]; rfl, by rw [hXX]; exact ⟨_ :: (c3 ++ (c2 ++ c1)), rfl⟩⟩
      have hlnA := rdAll_len hA
      have hlnB := rdAll_len hB
      rw [hlA] at hlnA
      rw [hwA] at hA
      rw [hwB] at hB
      obtain ⟨y0, rfl⟩ : ∃ y0, ns = [y0] := by
        have h1 := hlnA
        rcases ns with  _ | ⟨y0, _ | ⟨q, r⟩⟩
        all_goals first | exact ⟨_, rfl⟩ | (simp at h1)
      obtain ⟨aN, cN, rfl, hqN⟩ := hN.at1
      obtain ⟨bn, cells1, ct1, fz1, rfl, hmN, hcN⟩ := hqN (by simp)
      rw [show ([y0] : List Nat).length = 1 from rfl]
      have hN0 : (List.toArray cells1)[0 * 1]? = some (.int .i64 (y0 : Nat)) := by simpa using hcN 0 _ rfl
      have hN0b : (List.toArray cells1)[0 + (0 : Int).toNat * 1]? = some (.int .i64 (y0 : Nat)) := by simpa using hcN 0 _ rfl
      have hmN1 : (bn, Obj.cells (List.toArray cells1) ct1 fz1) ∈ c3 ++ (c2 ++ (c1 ++ l)) := List.mem_append_right _ (List.mem_append_left _ hmN)
      by_cases hmany : ws.length = 8
      · obtain ⟨z0, z1, z2, z3, z4, z5, z6, rfl⟩ : ∃ z0 z1 z2 z3 z4 z5 z6, xs = [z0, z1, z2, z3, z4, z5, z6] := by
          have h1 := hlnB
          rw [hlB, hmany] at h1
          rcases xs with  _ | ⟨z0, _ | ⟨z1, _ | ⟨z2, _ | ⟨z3, _ | ⟨z4, _ | ⟨z5, _ | ⟨z6, _ | ⟨q, r⟩⟩⟩⟩⟩⟩⟩⟩
          all_goals first | exact ⟨_, _, _, _, _, _, _, rfl⟩ | (simp at h1)
        obtain ⟨aW, cW, rfl, hqW⟩ := hW.at1
        obtain ⟨bw, cells2, ct2, fz2, rfl, hmW, hcW⟩ := hqW (by simp)
        rw [show ([z0, z1, z2, z3, z4, z5, z6] : List Nat).length = 7 from rfl]
        have hW0 : (List.toArray cells2)[0 * 1]? = some (.int .u64 (z0 : Nat)) := by simpa using hcW 0 _ rfl
        have hW0b : (List.toArray cells2)[0 + (0 : Int).toNat * 1]? = some (.int .u64 (z0 : Nat)) := by simpa using hcW 0 _ rfl
        have hW1 : (List.toArray cells2)[1 * 1]? = some (.int .u64 (z1 : Nat)) := by simpa using hcW 1 _ rfl
        have hW1b : (List.toArray cells2)[0 + (1 : Int).toNat * 1]? = some (.int .u64 (z1 : Nat)) := by simpa using hcW 1 _ rfl
        have hW2 : (List.toArray cells2)[2 * 1]? = some (.int .u64 (z2 : Nat)) := by simpa using hcW 2 _ rfl
        have hW2b : (List.toArray cells2)[0 + (2 : Int).toNat * 1]? = some (.int .u64 (z2 : Nat)) := by simpa using hcW 2 _ rfl
        have hW3 : (List.toArray cells2)[3 * 1]? = some (.int .u64 (z3 : Nat)) := by simpa using hcW 3 _ rfl
        have hW3b : (List.toArray cells2)[0 + (3 : Int).toNat * 1]? = some (.int .u64 (z3 : Nat)) := by simpa using hcW 3 _ rfl
        have hW4 : (List.toArray cells2)[4 * 1]? = some (.int .u64 (z4 : Nat)) := by simpa using hcW 4 _ rfl
        have hW4b : (List.toArray cells2)[0 + (4 : Int).toNat * 1]? = some (.int .u64 (z4 : Nat)) := by simpa using hcW 4 _ rfl
        have hW5 : (List.toArray cells2)[5 * 1]? = some (.int .u64 (z5 : Nat)) := by simpa using hcW 5 _ rfl
        have hW5b : (List.toArray cells2)[0 + (5 : Int).toNat * 1]? = some (.int .u64 (z5 : Nat)) := by simpa using hcW 5 _ rfl
        have hW6 : (List.toArray cells2)[6 * 1]? = some (.int .u64 (z6 : Nat)) := by simpa using hcW 6 _ rfl
        have hW6b : (List.toArray cells2)[0 + (6 : Int).toNat * 1]? = some (.int .u64 (z6 : Nat)) := by simpa using hcW 6 _ rfl
        have hmW1 : (bw, Obj.cells (List.toArray cells2) ct2 fz2) ∈ c3 ++ (c2 ++ (c1 ++ l)) := List.mem_append_left _ hmW
        have hev : evOf s = some [.int .i64 2, .int .i64 (y0 : Nat), .int .i64 0, .int .u64 (z0 : Nat), .int .u64 (z1 : Nat), .int .u64 (z2 : Nat), .int .u64 (z3 : Nat), .int .u64 (z4 : Nat), .int .u64 (z5 : Nat), .int .u64 (z6 : Nat), .int .u64 0, .int .u64 0, .int .i64 0, .int .i64 0, .int .i64 0] := by
          rw [ev_split hL hkind 1 rfl (by rw [hmany]; rfl), hA, hB]; rfl
        refine gzU ?_
        refine t_e e_alloc rfl rfl rfl ?_; rintro _ _ ⟨b11, _, rfl, rfl⟩
        refine gzU ?_
        refine gzU ?_
        obtain ⟨zf, hzf⟩ : ∃ zf : Nat → Nat, zf = fun j => [z0, z1, z2, z3, z4, z5, z6].getD j 0 := ⟨_, rfl⟩
        have hzc : ∀ i : Nat, i < 6 → (List.toArray cells2)[0 + ((i : Int) + 1).toNat * 1]? = some (.int .u64 (zf (i + 1) : Nat)) := fun i hi => by
          rw [show 0 + ((i : Int) + 1).toNat * 1 = i + 1 by omega, List.getElem?_toArray, hcW (i + 1) (.int .u64 (zf (i + 1) : Nat)) (by rw [hzf]; rcases i with _ | _ | _ | _ | _ | _ | i <;> first | rfl | omega)]
        refine k_loop (α := Nat) (fun i => [(2, .pointer (some ⟨b2, 0, none⟩)), (9, .slice (some ⟨bw, 0, none⟩) 7 cW), (11, .pointer (some ⟨b11, 0, none⟩)), (12, .int .i64 i)]) (fun i => (b11, .cells (List.toArray (cC y0 zf i)) 43 (0, 0)) :: evC b2 zEv :: (c3 ++ (c2 ++ (c1 ++ l)))) (fun i => i ≤ 6) (fun i => 6 - i) 0 (Nat.zero_le _) ⟨rfl, rfl, rfl, rfl, trivial⟩ (by rw [hzf]; exact .refl) ?_
        rintro i hi
        by_cases hlt : i < 6
        · have hz := hzc i hlt
          refine gzU ?_
          apply t_n
          · exact e_store rfl rfl rfl (by exact zUpd) (by simp [cC]; omega)
          · rfl
          · rfl
          rintro _ _ ⟨rfl, rfl⟩
          rw [List.setIfInBounds_toArray, cC_step y0 zf i hlt]
          refine gzU ?_
          exact k_next (i + 1) (by omega) (by omega) ⟨rfl, rfl, rfl, rfl, trivial⟩ .refl
        · obtain rfl : i = 6 := by omega
          have hc6 : cC y0 zf 6 = [.int .i64 2, .int .i64 (y0 : Nat), .int .i64 0, .int .u64 (z0 : Nat), .int .u64 (z1 : Nat), .int .u64 (z2 : Nat), .int .u64 (z3 : Nat), .int .u64 (z4 : Nat), .int .u64 (z5 : Nat), .int .u64 (z6 : Nat), .int .u64 0, .int .u64 0, .int .i64 0, .int .i64 0, .int .i64 0] := by rw [hzf]; rfl
          rw [hc6]
          refine gzU ?_
          exact k_ret [] rfl .refl (by exact zRes) ⟨by unfold lineR; rw [hev]; rfl, by rw [hXX]; exact ⟨_ :: _ :: (c3 ++ (c2 ++ c1)), rfl⟩⟩
      · have hev : evOf s = none := evOf_len hL hkind (by rw [show (pts 2).length = 8 from rfl]; omega)
        refine gzU ?_
        refine t_e e_alloc rfl rfl rfl ?_; rintro _ _ ⟨b11, _, rfl, rfl⟩
        refine gzU ?_
        refine gzU ?_
        exact k_ret [] rfl .refl (by exact zRes) ⟨by rw [lineR_none hev]; rfl, by rw [hXX]; exact ⟨_ :: _ :: (c3 ++ (c2 ++ c1)), rfl⟩⟩
  have hn2 := he
  clear he
  by_cases he : w0 = ([108, 111, 97, 100] : List UInt8)
  · have hkind : kindOf w0 = some 3 := by rw [he]; decide
    have hn1 : ¬ w0 = ([112, 105, 99, 107] : List UInt8) := by rw [he]; decide
    have hn2 : ¬ w0 = ([99, 97, 108, 108] : List UInt8) := by rw [he]; decide
    have hn4 : ¬ w0 = ([115, 116, 111, 114, 101] : List UInt8) := by rw [he]; decide
    have hn5 : ¬ w0 = ([101, 118, 105, 99, 116] : List UInt8) := by rw [he]; decide
    have hn6 : ¬ w0 = ([112, 114, 101, 102, 101, 116, 99, 104] : List UInt8) := by rw [he]; decide
    by_cases hmn : ws.length < 1
    · have hev : evOf s = none := evOf_len hL hkind (by rw [show (pts 3).length = 2 from rfl]; omega)
      refine gzU ?_
      exact k_ret [] rfl .refl (by exact zRes) ⟨by rw [lineR_none hev]; rfl, _ :: c1, rfl⟩
    · obtain ⟨wA, hwA⟩ : ∃ x, x = ws.take 1 := ⟨_, rfl⟩
      obtain ⟨wB, hwB⟩ : ∃ x, x = ws.drop 1 := ⟨_, rfl⟩
      have hlA : wA.length = 1 := by rw [hwA, List.length_take]; omega
      have hlB : wB.length = ws.length - 1 := by rw [hwB, List.length_drop]
      have hSA : ∀ X : List Chunk, StrIn (X ++ (c1 ++ l)) (if cap = 1 then some ⟨gb, 0, none⟩ else (some (⟨gb, 0, none⟩ : Addr)).map (·.add (1 * 1))) wA := fun X => by
        have := strIn_sub (p := 1) (q := 2) (List.mem_append_right X (List.mem_append_left l hm)) hc hcap
        rw [hwA]; exact this
      have hSB : ∀ X : List Chunk, StrIn (X ++ (c1 ++ l)) (if cap = 2 then some ⟨gb, 0, none⟩ else (some (⟨gb, 0, none⟩ : Addr)).map (·.add (2 * 1))) wB := fun X => by
        have := strIn_sub (p := 2) (q := (w0 :: ws).length) (List.mem_append_right X (List.mem_append_left l hm)) hc hcap
        rw [List.take_length] at this
        rw [hwB]; exact this
      have hwA2 : ∀ w ∈ wA, w.length ≤ 100000 := fun w hw => hww w (.tail _ (List.mem_of_mem_take (by rw [hwA] at hw; exact hw)))
      have hwB2 : ∀ w ∈ wB, w.length ≤ 100000 := fun w hw => hww w (.tail _ (List.mem_of_mem_drop (by rw [hwB] at hw; exact hw)))
      refine gzU ?_
      refine t_q (q_sliceP (l0 := 1) (h0 := 2) (m0 := cap) (n' := wA.length) (c' := cap - 1) rfl (.some rfl (by omega) rfl) (.some rfl (by omega) (by omega)) .none (by simp) (by omega) (by omega) (by omega) (by omega) rfl) rfl rfl rfl ?_
      refine t_e (e_call0 rfl rfl (nums_any _ _ wA hwA2 (by omega) (evC b2 zEv :: (c1 ++ l)) (hSA [evC b2 zEv]))) rfl rfl rfl ?_
      rintro vA lA hQA
      obtain ⟨okA, svA, c2, rfl, rfl, hQA2⟩ : ∃ okA svA c2, vA = .tuple #[svA, .bool okA] ∧ lA = c2 ++ (evC b2 zEv :: (c1 ++ l)) ∧ ((okA = false ∧ rdAll (fun w => rdL w 999999) wA = none) ∨ ∃ ns, okA = true ∧ rdAll (fun w => rdL w 999999) wA = some ns ∧ OwnSl 3 1 svA ns.length (ns.map fun n => Value.int .i64 (n : Nat)) c2) := by
        unfold numsQ at hQA
        cases hA : rdAll (fun w => rdL w 999999) wA with
        | none => rw [hA] at hQA; obtain ⟨rfl, X, rfl⟩ := hQA; exact ⟨_, _, X, rfl, rfl, .inl ⟨rfl, rfl⟩⟩
        | some ns => rw [hA] at hQA; obtain ⟨sv, c2, rfl, ho, rfl⟩ := hQA; exact ⟨_, _, c2, rfl, rfl, .inr ⟨ns, rfl, rfl, ho⟩⟩
      refine s_keep (l' := evC b2 zEv :: (c2 ++ (c1 ++ l))) (Keep.of_perm List.perm_middle) ?_
      refine gzU ?_
      refine t_q (q_sliceP (l0 := 2) (h0 := ws.length + 1) (m0 := cap) (n' := wB.length) (c' := cap - 2) rfl (.some rfl (by omega) (by omega)) .none .none (by simp) (by omega) (by omega) (by omega) (by omega) rfl) rfl rfl rfl ?_
      refine t_e (e_call0 rfl rfl (wrds_any _ _ wB hwB2 (by omega) (evC b2 zEv :: (c2 ++ (c1 ++ l))) (hSB (evC b2 zEv :: c2)))) rfl rfl rfl ?_
      rintro vB lB hQB
      obtain ⟨okB, svB, c3, rfl, rfl, hQB2⟩ : ∃ okB svB c3, vB = .tuple #[svB, .bool okB] ∧ lB = c3 ++ (evC b2 zEv :: (c2 ++ (c1 ++ l))) ∧ ((okB = false ∧ rdAll rdN wB = none) ∨ ∃ xs, okB = true ∧ rdAll rdN wB = some xs ∧ OwnSl 38 1 svB xs.length (xs.map fun n => Value.int .u64 (n : Nat)) c3) := by
        unfold wrdsQ at hQB
        cases hB : rdAll rdN wB with
        | none => rw [hB] at hQB; obtain ⟨rfl, X, rfl⟩ := hQB; exact ⟨_, _, X, rfl, rfl, .inl ⟨rfl, rfl⟩⟩
        | some xs => rw [hB] at hQB; obtain ⟨sv, c3, rfl, ho, rfl⟩ := hQB; exact ⟨_, _, c3, rfl, rfl, .inr ⟨xs, rfl, rfl, ho⟩⟩
      refine s_keep (l' := evC b2 zEv :: (c3 ++ (c2 ++ (c1 ++ l)))) (Keep.of_perm List.perm_middle) ?_
      clear hQA hQB
      have hm3 : (gb, Obj.cells (List.toArray cells) ct fz) ∈ c3 ++ (c2 ++ (c1 ++ l)) := List.mem_append_right _ (List.mem_append_right _ hm1)
      have hXX : c3 ++ (c2 ++ (c1 ++ l)) = (c3 ++ (c2 ++ c1)) ++ l := by simp
      have hbad : rdAll (fun w => rdL w 999999) wA = none ∨ rdAll rdN wB = none → evOf s = none := fun h => by
        by_cases hll : ws.length = (pts 3).length
        · rw [ev_split hL hkind 1 rfl hll, ← hwA, ← hwB]
          rcases h with h | h
          · rw [h]; rfl
          · rw [h]; cases rdAll (fun w => rdL w 999999) wA <;> rfl
        · exact evOf_len hL hkind hll
      rcases hQA2 with ⟨rfl, hA⟩ | ⟨ns, rfl, hA, hN⟩
      · have hev := hbad (.inl hA)
        rcases hQB2 with ⟨rfl, hB⟩ | ⟨xs, rfl, hB, hW⟩
        · refine gzU ?_
          exact k_ret [] rfl .refl (by exact zRes) ⟨by rw [lineR_none hev]; rfl, by rw [hXX]; exact ⟨_ :: (c3 ++ (c2 ++ c1)), rfl⟩⟩
        · refine gzU ?_
          exact k_ret [] rfl .refl (by exact zRes) ⟨by rw [lineR_none hev]; rfl, by rw [hXX]; exact ⟨_ :: (c3 ++ (c2 ++ c1)), rfl⟩⟩
      rcases hQB2 with ⟨rfl, hB⟩ | ⟨xs, rfl, hB, hW⟩
      · have hev := hbad (.inr hB)
        refine gzU ?_
        exact k_ret [] rfl .refl (by exact zRes) ⟨by rw [lineR_none hev]; rfl, by rw [hXX]; exact ⟨_ :: (c3 ++ (c2 ++ c1)), rfl⟩⟩
      have hlnA := rdAll_len hA
      have hlnB := rdAll_len hB
      rw [hlA] at hlnA
      rw [hwA] at hA
      rw [hwB] at hB
      obtain ⟨y0, rfl⟩ : ∃ y0, ns = [y0] := by
        have h1 := hlnA
        rcases ns with  _ | ⟨y0, _ | ⟨q, r⟩⟩
        all_goals first | exact ⟨_, rfl⟩ | (simp at h1)
      obtain ⟨aN, cN, rfl, hqN⟩ := hN.at1
      obtain ⟨bn, cells1, ct1, fz1, rfl, hmN, hcN⟩ := hqN (by simp)
      rw [show ([y0] : List Nat).length = 1 from rfl]
      have hN0 : (List.toArray cells1)[0 * 1]? = some (.int .i64 (y0 : Nat)) := by simpa using hcN 0 _ rfl
      have hN0b : (List.toArray cells1)[0 + (0 : Int).toNat * 1]? = some (.int .i64 (y0 : Nat)) := by simpa using hcN 0 _ rfl
      have hmN1 : (bn, Obj.cells (List.toArray cells1) ct1 fz1) ∈ c3 ++ (c2 ++ (c1 ++ l)) := List.mem_append_right _ (List.mem_append_left _ hmN)
      by_cases hmany : ws.length = 2
      · obtain ⟨z0, rfl⟩ : ∃ z0, xs = [z0] := by
          have h1 := hlnB
          rw [hlB, hmany] at h1
          rcases xs with  _ | ⟨z0, _ | ⟨q, r⟩⟩
          all_goals first | exact ⟨_, rfl⟩ | (simp at h1)
        obtain ⟨aW, cW, rfl, hqW⟩ := hW.at1
        obtain ⟨bw, cells2, ct2, fz2, rfl, hmW, hcW⟩ := hqW (by simp)
        rw [show ([z0] : List Nat).length = 1 from rfl]
        have hW0 : (List.toArray cells2)[0 * 1]? = some (.int .u64 (z0 : Nat)) := by simpa using hcW 0 _ rfl
        have hW0b : (List.toArray cells2)[0 + (0 : Int).toNat * 1]? = some (.int .u64 (z0 : Nat)) := by simpa using hcW 0 _ rfl
        have hmW1 : (bw, Obj.cells (List.toArray cells2) ct2 fz2) ∈ c3 ++ (c2 ++ (c1 ++ l)) := List.mem_append_left _ hmW
        have hev : evOf s = some [.int .i64 3, .int .i64 (y0 : Nat), .int .i64 0, .int .u64 0, .int .u64 0, .int .u64 0, .int .u64 0, .int .u64 0, .int .u64 0, .int .u64 0, .int .u64 (z0 : Nat), .int .u64 0, .int .i64 0, .int .i64 0, .int .i64 0] := by
          rw [ev_split hL hkind 1 rfl (by rw [hmany]; rfl), hA, hB]; rfl
        refine gzU ?_
        refine t_e e_alloc rfl rfl rfl ?_; rintro _ _ ⟨b11, _, rfl, rfl⟩
        refine gzU ?_
        refine gzU ?_
        refine c_draw [(0, true), (1, true), (2, true), (3, true), (4, false), (5, true), (6, false)] [[], [0], [0, 1], [], [3], [0, 1, 2, 3, 4], [0, 1, 2, 3, 4, 5]] (c3 ++ (c2 ++ (c1 ++ l))) (by kernel_rfl) (by kernel_rfl) zAtt (fun c hc => .tail _ (.tail _ hc)) ?_
        refine pzU ?_
        refine gzU ?_
        exact k_ret [] rfl .refl (by exact zRes) ⟨by unfold lineR; rw [hev]; rfl, by rw [hXX]; exact ⟨_ :: _ :: (c3 ++ (c2 ++ c1)), rfl⟩⟩
      · have hev : evOf s = none := evOf_len hL hkind (by rw [show (pts 3).length = 2 from rfl]; omega)
        refine gzU ?_
        refine t_e e_alloc rfl rfl rfl ?_; rintro _ _ ⟨b11, _, rfl, rfl⟩
        refine gzU ?_
        refine gzU ?_
        exact k_ret [] rfl .refl (by exact zRes) ⟨by rw [lineR_none hev]; rfl, by rw [hXX]; exact ⟨_ :: _ :: (c3 ++ (c2 ++ c1)), rfl⟩⟩
  have hn3 := he
  clear he
  by_cases he : w0 = ([115, 116, 111, 114, 101] : List UInt8)
  · have hkind : kindOf w0 = some 4 := by rw [he]; decide
    have hn1 : ¬ w0 = ([112, 105, 99, 107] : List UInt8) := by rw [he]; decide
    have hn2 : ¬ w0 = ([99, 97, 108, 108] : List UInt8) := by rw [he]; decide
    have hn3 : ¬ w0 = ([108, 111, 97, 100] : List UInt8) := by rw [he]; decide
    have hn5 : ¬ w0 = ([101, 118, 105, 99, 116] : List UInt8) := by rw [he]; decide
    have hn6 : ¬ w0 = ([112, 114, 101, 102, 101, 116, 99, 104] : List UInt8) := by rw [he]; decide
    by_cases hmn : ws.length < 1
    · have hev : evOf s = none := evOf_len hL hkind (by rw [show (pts 4).length = 3 from rfl]; omega)
      refine gzU ?_
      exact k_ret [] rfl .refl (by exact zRes) ⟨by rw [lineR_none hev]; rfl, _ :: c1, rfl⟩
    · obtain ⟨wA, hwA⟩ : ∃ x, x = ws.take 1 := ⟨_, rfl⟩
      obtain ⟨wB, hwB⟩ : ∃ x, x = ws.drop 1 := ⟨_, rfl⟩
      have hlA : wA.length = 1 := by rw [hwA, List.length_take]; omega
      have hlB : wB.length = ws.length - 1 := by rw [hwB, List.length_drop]
      have hSA : ∀ X : List Chunk, StrIn (X ++ (c1 ++ l)) (if cap = 1 then some ⟨gb, 0, none⟩ else (some (⟨gb, 0, none⟩ : Addr)).map (·.add (1 * 1))) wA := fun X => by
        have := strIn_sub (p := 1) (q := 2) (List.mem_append_right X (List.mem_append_left l hm)) hc hcap
        rw [hwA]; exact this
      have hSB : ∀ X : List Chunk, StrIn (X ++ (c1 ++ l)) (if cap = 2 then some ⟨gb, 0, none⟩ else (some (⟨gb, 0, none⟩ : Addr)).map (·.add (2 * 1))) wB := fun X => by
        have := strIn_sub (p := 2) (q := (w0 :: ws).length) (List.mem_append_right X (List.mem_append_left l hm)) hc hcap
        rw [List.take_length] at this
        rw [hwB]; exact this
      have hwA2 : ∀ w ∈ wA, w.length ≤ 100000 := fun w hw => hww w (.tail _ (List.mem_of_mem_take (by rw [hwA] at hw; exact hw)))
      have hwB2 : ∀ w ∈ wB, w.length ≤ 100000 := fun w hw => hww w (.tail _ (List.mem_of_mem_drop (by rw [hwB] at hw; exact hw)))
      refine gzU ?_
      refine t_q (q_sliceP (l0 := 1) (h0 := 2) (m0 := cap) (n' := wA.length) (c' := cap - 1) rfl (.some rfl (by omega) rfl) (.some rfl (by omega) (by omega)) .none (by simp) (by omega) (by omega) (by omega) (by omega) rfl) rfl rfl rfl ?_
      refine t_e (e_call0 rfl rfl (nums_any _ _ wA hwA2 (by omega) (evC b2 zEv :: (c1 ++ l)) (hSA [evC b2 zEv]))) rfl rfl rfl ?_
      rintro vA lA hQA
      obtain ⟨okA, svA, c2, rfl, rfl, hQA2⟩ : ∃ okA svA c2, vA = .tuple #[svA, .bool okA] ∧ lA = c2 ++ (evC b2 zEv :: (c1 ++ l)) ∧ ((okA = false ∧ rdAll (fun w => rdL w 999999) wA = none) ∨ ∃ ns, okA = true ∧ rdAll (fun w => rdL w 999999) wA = some ns ∧ OwnSl 3 1 svA ns.length (ns.map fun n => Value.int .i64 (n : Nat)) c2) := by
        unfold numsQ at hQA
        cases hA : rdAll (fun w => rdL w 999999) wA with
        | none => rw [hA] at hQA; obtain ⟨rfl, X, rfl⟩ := hQA; exact ⟨_, _, X, rfl, rfl, .inl ⟨rfl, rfl⟩⟩
        | some ns => rw [hA] at hQA; obtain ⟨sv, c2, rfl, ho, rfl⟩ := hQA; exact ⟨_, _, c2, rfl, rfl, .inr ⟨ns, rfl, rfl, ho⟩⟩
      refine s_keep (l' := evC b2 zEv :: (c2 ++ (c1 ++ l))) (Keep.of_perm List.perm_middle) ?_
      refine gzU ?_
      refine t_q (q_sliceP (l0 := 2) (h0 := ws.length + 1) (m0 := cap) (n' := wB.length) (c' := cap - 2) rfl (.some rfl (by omega) (by omega)) .none .none (by simp) (by omega) (by omega) (by omega) (by omega) rfl) rfl rfl rfl ?_
      refine t_e (e_call0 rfl rfl (wrds_any _ _ wB hwB2 (by omega) (evC b2 zEv :: (c2 ++ (c1 ++ l))) (hSB (evC b2 zEv :: c2)))) rfl rfl rfl ?_
      rintro vB lB hQB
      obtain ⟨okB, svB, c3, rfl, rfl, hQB2⟩ : ∃ okB svB c3, vB = .tuple #[svB, .bool okB] ∧ lB = c3 ++ (evC b2 zEv :: (c2 ++ (c1 ++ l))) ∧ ((okB = false ∧ rdAll rdN wB = none) ∨ ∃ xs, okB = true ∧ rdAll rdN wB = some xs ∧ OwnSl 38 1 svB xs.length (xs.map fun n => Value.int .u64 (n : Nat)) c3) := by
        unfold wrdsQ at hQB
        cases hB : rdAll rdN wB with
        | none => rw [hB] at hQB; obtain ⟨rfl, X, rfl⟩ := hQB; exact ⟨_, _, X, rfl, rfl, .inl ⟨rfl, rfl⟩⟩
        | some xs => rw [hB] at hQB; obtain ⟨sv, c3, rfl, ho, rfl⟩ := hQB; exact ⟨_, _, c3, rfl, rfl, .inr ⟨xs, rfl, rfl, ho⟩⟩
      refine s_keep (l' := evC b2 zEv :: (c3 ++ (c2 ++ (c1 ++ l)))) (Keep.of_perm List.perm_middle) ?_
      clear hQA hQB
      have hm3 : (gb, Obj.cells (List.toArray cells) ct fz) ∈ c3 ++ (c2 ++ (c1 ++ l)) := List.mem_append_right _ (List.mem_append_right _ hm1)
      have hXX : c3 ++ (c2 ++ (c1 ++ l)) = (c3 ++ (c2 ++ c1)) ++ l := by simp
      have hbad : rdAll (fun w => rdL w 999999) wA = none ∨ rdAll rdN wB = none → evOf s = none := fun h => by
        by_cases hll : ws.length = (pts 4).length
        · rw [ev_split hL hkind 1 rfl hll, ← hwA, ← hwB]
          rcases h with h | h
          · rw [h]; rfl
          · rw [h]; cases rdAll (fun w => rdL w 999999) wA <;> rfl
        · exact evOf_len hL hkind hll
      rcases hQA2 with ⟨rfl, hA⟩ | ⟨ns, rfl, hA, hN⟩
      · have hev := hbad (.inl hA)
        rcases hQB2 with ⟨rfl, hB⟩ | ⟨xs, rfl, hB, hW⟩
        · refine gzU ?_
          exact k_ret [] rfl .refl (by exact zRes) ⟨by rw [lineR_none hev]; rfl, by rw [hXX]; exact ⟨_ :: (c3 ++ (c2 ++ c1)), rfl⟩⟩
        · refine gzU ?_
          exact k_ret [] rfl .refl (by exact zRes) ⟨by rw [lineR_none hev]; rfl, by rw [hXX]; exact ⟨_ :: (c3 ++ (c2 ++ c1)), rfl⟩⟩
      rcases hQB2 with ⟨rfl, hB⟩ | ⟨xs, rfl, hB, hW⟩
      · have hev := hbad (.inr hB)
        refine gzU ?_
        exact k_ret [] rfl .refl (by exact zRes) ⟨by rw [lineR_none hev]; rfl, by rw [hXX]; exact ⟨_ :: (c3 ++ (c2 ++ c1)), rfl⟩⟩
      have hlnA := rdAll_len hA
      have hlnB := rdAll_len hB
      rw [hlA] at hlnA
      rw [hwA] at hA
      rw [hwB] at hB
      obtain ⟨y0, rfl⟩ : ∃ y0, ns = [y0] := by
        have h1 := hlnA
        rcases ns with  _ | ⟨y0, _ | ⟨q, r⟩⟩
        all_goals first | exact ⟨_, rfl⟩ | (simp at h1)
      obtain ⟨aN, cN, rfl, hqN⟩ := hN.at1
      obtain ⟨bn, cells1, ct1, fz1, rfl, hmN, hcN⟩ := hqN (by simp)
      rw [show ([y0] : List Nat).length = 1 from rfl]
      have hN0 : (List.toArray cells1)[0 * 1]? = some (.int .i64 (y0 : Nat)) := by simpa using hcN 0 _ rfl
      have hN0b : (List.toArray cells1)[0 + (0 : Int).toNat * 1]? = some (.int .i64 (y0 : Nat)) := by simpa using hcN 0 _ rfl
      have hmN1 : (bn, Obj.cells (List.toArray cells1) ct1 fz1) ∈ c3 ++ (c2 ++ (c1 ++ l)) := List.mem_append_right _ (List.mem_append_left _ hmN)
      by_cases hmany : ws.length = 3
      · obtain ⟨z0, z1, rfl⟩ : ∃ z0 z1, xs = [z0, z1] := by
          have h1 := hlnB
          rw [hlB, hmany] at h1
          rcases xs with  _ | ⟨z0, _ | ⟨z1, _ | ⟨q, r⟩⟩⟩
          all_goals first | exact ⟨_, _, rfl⟩ | (simp at h1)
        obtain ⟨aW, cW, rfl, hqW⟩ := hW.at1
        obtain ⟨bw, cells2, ct2, fz2, rfl, hmW, hcW⟩ := hqW (by simp)
        rw [show ([z0, z1] : List Nat).length = 2 from rfl]
        have hW0 : (List.toArray cells2)[0 * 1]? = some (.int .u64 (z0 : Nat)) := by simpa using hcW 0 _ rfl
        have hW0b : (List.toArray cells2)[0 + (0 : Int).toNat * 1]? = some (.int .u64 (z0 : Nat)) := by simpa using hcW 0 _ rfl
        have hW1 : (List.toArray cells2)[1 * 1]? = some (.int .u64 (z1 : Nat)) := by simpa using hcW 1 _ rfl
        have hW1b : (List.toArray cells2)[0 + (1 : Int).toNat * 1]? = some (.int .u64 (z1 : Nat)) := by simpa using hcW 1 _ rfl
        have hmW1 : (bw, Obj.cells (List.toArray cells2) ct2 fz2) ∈ c3 ++ (c2 ++ (c1 ++ l)) := List.mem_append_left _ hmW
        have hev : evOf s = some [.int .i64 4, .int .i64 (y0 : Nat), .int .i64 0, .int .u64 0, .int .u64 0, .int .u64 0, .int .u64 0, .int .u64 0, .int .u64 0, .int .u64 0, .int .u64 (z0 : Nat), .int .u64 (z1 : Nat), .int .i64 0, .int .i64 0, .int .i64 0] := by
          rw [ev_split hL hkind 1 rfl (by rw [hmany]; rfl), hA, hB]; rfl
        refine gzU ?_
        refine t_e e_alloc rfl rfl rfl ?_; rintro _ _ ⟨b11, _, rfl, rfl⟩
        refine gzU ?_
        refine gzU ?_
        refine c_draw [(0, true), (1, true), (2, true), (3, true), (4, true), (5, true), (6, true), (7, false), (8, true), (9, false), (10, true), (11, false)] [[], [0], [0, 1], [], [3], [3, 4], [], [6], [0, 1, 2, 6, 7], [0, 1, 2, 6, 7, 8], [0, 1, 2, 3, 4, 5, 6, 7, 8, 9], [0, 1, 2, 3, 4, 5, 6, 7, 8, 9, 10]] (c3 ++ (c2 ++ (c1 ++ l))) (by kernel_rfl) (by kernel_rfl) zAtt (fun c hc => .tail _ (.tail _ hc)) ?_
        refine pzU ?_
        refine gzU ?_
        exact k_ret [] rfl .refl (by exact zRes) ⟨by unfold lineR; rw [hev]; rfl, by rw [hXX]; exact ⟨_ :: _ :: (c3 ++ (c2 ++ c1)), rfl⟩⟩
      · have hev : evOf s = none := evOf_len hL hkind (by rw [show (pts 4).length = 3 from rfl]; omega)
        refine gzU ?_
        refine t_e e_alloc rfl rfl rfl ?_; rintro _ _ ⟨b11, _, rfl, rfl⟩
        refine gzU ?_
        refine gzU ?_
        exact k_ret [] rfl .refl (by exact zRes) ⟨by rw [lineR_none hev]; rfl, by rw [hXX]; exact ⟨_ :: _ :: (c3 ++ (c2 ++ c1)), rfl⟩⟩
  have hn4 := he
  clear he
  have hev : evOf s = none := evOf_kind hL (by unfold kindOf; rw [if_neg (show ¬ w0 = nm 1 from hn1), if_neg (show ¬ w0 = nm 2 from hn2), if_neg (show ¬ w0 = nm 3 from hn3), if_neg (show ¬ w0 = nm 4 from hn4), if_neg (show ¬ w0 = nm 5 from hn5), if_neg (show ¬ w0 = nm 6 from hn6)])
  refine gzU ?_
  exact k_ret [] rfl .refl (by exact zRes) ⟨by rw [lineR_none hev]; rfl, _ :: c1, rfl⟩
end Go.Proofs.YtffmibmefmbdjaaDoor

/- ref35: Print; ScriptPrints. -/
-- GU
set_option linter.unusedVariables false
set_option linter.unusedSimpArgs false
namespace Go.Proofs.YtffmibmefmbdjaaDoor
open Go.RowKit
set_option maxRecDepth 20000
set_option pp.deepTerms false
set_option pp.deepTerms.threshold 4

theorem lawNum_any (a : Int) (l : List Chunk) : Fn Tryd.prog 12 [.int .i64 a] l fun v l' => v = .int .i64 a ∧ l' = l := by
  refine fn_of_body Tryd.func12 rfl rfl fun E => ?_
  simp only [argF, Tryd.ntmps12]
  refine gzU ?_
  exact k_ret [] rfl .refl (by exact zRes) ⟨rfl, rfl⟩
theorem InRows.cons {l X : List Chunk} {a : Option Addr} {n k : Nat} {es : List (List Value)} (h : InRows l a n k es) : InRows (X ++ l) a n k es := fun h0 => by
  obtain ⟨b, off, cs, t, fz, q1, q2, q3⟩ := h h0
  exact ⟨b, off, cs, t, fz, q1, List.mem_append_right _ q2, q3⟩
set_option maxHeartbeats 2000000 in
theorem rprint_any (a : Option Addr) (cap : Nat) (es : List (List Value)) (hes : ∀ e ∈ es, IsEv e) (hn : es.length ≤ 200) (l : List Chunk) (hR : InRows l a es.length 15 es) :
    Fn Tryd.prog 15 [.slice a es.length cap] l fun v l' => v = lnV (printR es) ∧ ∃ X, l' = X ++ l := by
  refine fn_of_body Tryd.func15 rfl rfl fun E => ?_
  simp only [argF, Tryd.ntmps15]
  refine gzU ?_
  refine k_loop (α := Nat × List UInt8 × List Chunk) (fun x => [(0, .slice a es.length cap), (4, str x.2.1), (5, .int .i64 x.1)]) (fun x => x.2.2 ++ l)
    (fun x => x.1 ≤ es.length ∧ x.2.1 = txt (es.take x.1) ∧ (∀ j, j < x.1 → ∀ y, es[j]? = some y → (lineC y).2 = 0)) (fun x => es.length - x.1)
    (0, [], []) ⟨by simp, rfl, fun j hj => by simp at hj⟩ ⟨rfl, rfl, rfl, trivial⟩ .refl ?_
  rintro ⟨i, t, X⟩ ⟨hi, ht, hj⟩
  simp only at hi ht hj ⊢
  subst ht
  have hle := txt_le es i
  have htl := txt_len hes
  by_cases hlt : i < es.length
  · obtain ⟨e, he⟩ : ∃ e, es[i]? = some e := ⟨_, List.getElem?_eq_getElem hlt⟩
    have hem := List.mem_of_getElem? he
    have hE := hes e hem
    obtain ⟨bE, off, ec, et, fz, rfl, hm, hrow⟩ := hR (by omega)
    obtain ⟨r1, r2, _⟩ := hrow i e he
    have hll := lineC_len hE
    have htx := txt_take he
    refine gzU ?_
    refine t_q (q_loadA (n := 15) rfl (List.mem_append_right _ hm) r1 r2) rfl rfl rfl ?_
    refine t_e (e_call0 rfl rfl (rline_any e hE _)) rfl rfl rfl ?_
    rintro _ _ ⟨rfl, Y, rfl⟩
    unfold lnV
    refine gzU ?_
    by_cases hc : (lineC e).2 = 0
    · refine gzU ?_
      have hj' : ∀ j, j < i + 1 → ∀ y, es[j]? = some y → (lineC y).2 = 0 := fun j hjk y hy => by
        by_cases ej : j = i
        · subst ej; rw [he] at hy; cases hy; exact hc
        · exact hj j (by omega) y hy
      exact k_next (i + 1, txt (es.take i) ++ (lineC e).1 ++ [10], Y ++ X) ⟨by simp only; omega, by simp only; rw [htx]; unfold lnOf; rw [List.append_assoc], hj'⟩ (by simp only; omega) ⟨rfl, rfl, rfl, trivial⟩ (by rw [List.append_assoc]; exact .refl)
    · refine gzU ?_
      refine k_ret [] rfl .refl (by exact zRes) ⟨?_, Y ++ X, (List.append_assoc _ _ _).symm⟩
      unfold printR
      rw [prFirst_at he hc hj, if_pos hc]
      rfl
  · obtain rfl : i = es.length := by omega
    have hpf : prFirst es = 0 := prFirst_no fun j x hx => hj j (List.getElem?_eq_some_iff.1 hx).1 x hx
    rw [List.take_length] at hle ⊢
    have h : ¬ (txt es).length > 65536 := by omega
    refine gzU ?_
    refine k_ret [] rfl .refl (by exact zRes) ⟨?_, X, rfl⟩
    unfold printR
    rw [hpf, if_neg (by simp), if_neg h]; rfl
set_option maxHeartbeats 2000000 in
theorem prints_any (a : Option Addr) (cap : Nat) (es : List (List Value)) (hes : ∀ e ∈ es, IsEv e) (h1s : ∀ e ∈ es, ∀ v ∈ e, v.oneCell' = true) (l : List Chunk) (hG : GL l) (hR : InRows l a es.length 15 es) :
    Fn Tryd.prog 4 [.slice a es.length cap] l fun v l' => v = .bool true ∧ ∃ X, l' = X ++ l := by
  refine fn_of_body Tryd.func4 rfl rfl fun E => ?_
  simp only [argF, Tryd.ntmps4]
  by_cases h2 : es.length > 200
  · refine gzU ?_
    refine t_e (e_call0 rfl rfl (awake_any l hG)) rfl rfl rfl ?_
    rintro _ _ ⟨rfl, rfl⟩
    refine gzU ?_
    exact k_ret [] rfl .refl (by exact zRes) ⟨rfl, [], rfl⟩
  · refine gzU ?_
    refine t_e (e_call0 rfl rfl (print_any a cap es hes h1s (by omega) _ hG hR)) rfl rfl rfl ?_
    rintro _ lL ⟨rfl, rfl⟩
    unfold lnV
    refine gzU ?_
    refine t_e (e_call0 rfl rfl (rprint_any a cap es hes (by omega) _ hR)) rfl rfl rfl ?_
    rintro _ _ ⟨rfl, X, rfl⟩
    unfold lnV
    refine gzU ?_
    rw [decide_eq_false (not_not_intro (rfl : (printR es).1 = (printR es).1))]
    refine gzU ?_
    refine t_eh (e_call0 rfl rfl (lawNum_any _ _)) rfl rfl rfl ?_
    rintro _ _ ⟨rfl, rfl⟩
    refine gzU ?_
    refine k_loop (α := Nat × List Chunk) (fun x => [(0, .slice a es.length cap), (7, .int .i64 x.1)]) (fun x => x.2 ++ lL) (fun x => x.1 ≤ es.length) (fun x => es.length - x.1) (0, X) (Nat.zero_le _) ⟨rfl, rfl, trivial⟩ .refl ?_
    rintro ⟨i, Y⟩ hi
    simp only at hi ⊢
    by_cases hlt : i < es.length
    · obtain ⟨e, he⟩ : ∃ e, es[i]? = some e := ⟨_, List.getElem?_eq_getElem hlt⟩
      have hE := hes e (List.mem_of_getElem? he)
      obtain ⟨bE, off, ec, et, fz, rfl, hm, hrow⟩ := hR (by omega)
      obtain ⟨r1, r2, r3⟩ := hrow i e he
      refine gzU ?_
      refine t_q (q_loadA (n := 15) rfl (List.mem_append_right _ hm) r1 r2) rfl rfl rfl ?_
      refine t_e (e_call0 rfl rfl (line_any e hE _ (hG.app Y))) rfl rfl rfl ?_
      rintro _ _ ⟨rfl, rfl⟩
      unfold lnV
      refine gzU ?_
      refine t_q (q_loadA (n := 15) rfl (List.mem_append_right _ hm) r1 r2) rfl rfl rfl ?_
      refine t_e (e_call0 rfl rfl (rline_any e hE _)) rfl rfl rfl ?_
      rintro _ _ ⟨rfl, Z, rfl⟩
      unfold lnV
      refine gzU ?_
      rw [decide_eq_false (not_not_intro (rfl : (lineC e).1 = (lineC e).1))]
      refine gzU ?_
      refine t_eh (e_call0 rfl rfl (lawNum_any _ _)) rfl rfl rfl ?_
      rintro _ _ ⟨rfl, rfl⟩
      refine gzU ?_
      exact k_next (i + 1, Z ++ Y) (by simp only; omega) (by simp only; omega) ⟨rfl, rfl, trivial⟩ (by rw [List.append_assoc]; exact .refl)
    · obtain rfl : i = es.length := by omega
      refine gzU ?_
      refine t_e (e_call0 rfl rfl (awake_any _ (hG.app Y))) rfl rfl rfl ?_
      rintro _ _ ⟨rfl, rfl⟩
      refine gzU ?_
      exact k_ret [] rfl .refl (by exact zRes) ⟨rfl, Y, rfl⟩
end Go.Proofs.YtffmibmefmbdjaaDoor

/- OverEvents; ref35: Parse; ScriptReads. -/
-- GU
set_option linter.unusedVariables false
set_option linter.unusedSimpArgs false
namespace Go.Proofs.YtffmibmefmbdjaaDoor
open Go.RowKit
set_option maxRecDepth 20000
set_option pp.deepTerms false
set_option pp.deepTerms.threshold 4

set_option maxHeartbeats 400000 in
theorem overEvents_any (v : Value) (n : Nat) (xs : List Value) (cs F : List Chunk) (h : OwnSl 43 15 v n xs cs) (hn : n ≤ 1000000) :
    Fn Tryd.prog 13 [v] (cs ++ F) fun r l' => r = .tuple #[] ∧ ∃ X, l' = X ++ F := by
  refine fn_of_body Tryd.func13 rfl rfl fun E => ?_
  simp only [argF, Tryd.ntmps13]
  obtain ⟨hlen, h⟩ := h
  rcases h with ⟨rfl, rfl, rfl⟩ | ⟨gb, cap, sp, rfl, rfl, hnc, hcm, hcl⟩
  · refine gzU ?_
    refine k_loop (α := Unit) (fun k => [(0, .slice none 0 0), (2, .int .i64 0)]) (fun k => F) (fun k => True) (fun k => 0) () trivial ⟨rfl, rfl, trivial⟩ .refl ?_
    rintro _ _
    refine gzU ?_
    refine t_e (e_litA (k := 15) rfl rfl rfl (by decide) (by decide)) rfl rfl rfl ?_
    rintro _ _ ⟨bl, _, rfl, rfl⟩
    refine t_e (e_appX (k := 15) (X := []) (cs := []) (n := 0) (xs := []) rfl rfl rfl (OwnSl.nil _ _) rfl (by simp [Value.oneCell']) (by omega) (by decide)) rfl rfl rfl ?_
    rintro v' _ ⟨cs', hown', rfl⟩
    have hv1 : v'.oneCell' = true := hown'.one
    refine gzU ?_
    exact k_ret [] rfl .refl (by exact zRes) ⟨rfl, cs', rfl⟩
  · simp only [List.cons_append, List.nil_append]
    refine gzU ?_
    refine k_loop (α := Nat × Array Value) (fun x => [(0, .slice (some ⟨gb, 0, none⟩) n cap), (2, .int .i64 x.1)]) (fun x => (gb, .cells x.2 43 (0, 0)) :: F) (fun x => x.1 ≤ n ∧ x.2.size = cap * 15) (fun x => n - x.1) (0, (xs ++ sp).toArray) ⟨Nat.zero_le _, by simpa using hcl⟩ ⟨rfl, rfl, trivial⟩ .refl ?_
    rintro ⟨k, ys⟩ ⟨hk, hy⟩
    simp only at hk hy ⊢
    by_cases hlt : k < n
    · refine gzU ?_
      refine t_n (e_storeA (cs := ys) (n := 15) rfl rfl rfl (by simp [Value.oneCell']) (by exact zUpd) (by omega)) rfl rfl ?_
      rintro _ _ ⟨rfl, rfl⟩
      generalize hz : setFrom ys _ _ = zs
      refine gzU ?_
      exact k_next (k + 1, zs) ⟨by simp only; omega, by simp only; rw [← hz, setFrom_size]; exact hy⟩ (by simp only; omega) ⟨rfl, rfl, trivial⟩ .refl
    · obtain rfl : k = n := by omega
      refine gzU ?_
      refine t_e (e_litA (k := 15) rfl rfl rfl (by decide) (by decide)) rfl rfl rfl ?_
      rintro _ _ ⟨bl, _, rfl, rfl⟩
      refine t_e (e_appX (k := 15) (X := []) (cs := [(gb, _)]) (F := F) (n := k) (xs := ys.toList.take (k * 15)) rfl rfl rfl ⟨by simp; omega, .inr ⟨gb, cap, ys.toList.drop (k * 15), rfl, by rw [List.take_append_drop], hnc, hcm, by rw [List.take_append_drop]; simpa using hy⟩⟩ rfl (by simp [Value.oneCell']) (by omega) (by decide)) rfl rfl rfl ?_
      rintro v' _ ⟨cs', hown', rfl⟩
      have hv1 : v'.oneCell' = true := hown'.one
      refine gzU ?_
      exact k_ret [] rfl .refl (by exact zRes) ⟨rfl, cs', rfl⟩
theorem trim_last : ∀ (L : List (List UInt8)) (w : List UInt8), trimE (L ++ [w]) = if w = [] then L else L ++ [w]
  | [], w => by show (if w = [] then [] else [w]) = _; rfl
  | [x], w => by
    show x :: trimE [w] = _
    show x :: (if w = [] then [] else [w]) = _
    split <;> rfl
  | x :: y :: r, w => by
    show x :: trimE ((y :: r) ++ [w]) = _
    rw [trim_last (y :: r) w]
    split <;> rfl
set_option maxHeartbeats 4000000 in
theorem rparse_any (s : List UInt8) (hs : s.length ≤ 66000) (l : List Chunk) : Fn Tryd.prog 10 [str s] l fun v l' => ∃ sv c1 X, v = .tuple #[sv, .int .i64 (parseR s).2.1, .int .i64 (parseR s).2.2] ∧ OwnSl 43 15 sv (parseR s).1.length (parseR s).1.flatten c1 ∧ l' = c1 ++ (X ++ l) := by
  refine fn_of_body Tryd.func10 rfl rfl fun E => ?_
  simp only [argF, Tryd.ntmps10]
  by_cases h6 : s.length > 65536
  · refine gzU ?_
    refine k_ret [] rfl .refl (by exact zRes) ⟨.slice none 0 0, [], [], ?_, ?_, rfl⟩
    · unfold parseR; rw [if_pos h6]; rfl
    · unfold parseR; rw [if_pos h6]; exact OwnSl.nil _ _
  · refine gzU ?_
    refine t_e (e_call0 rfl rfl (split_any s 10 (by omega) _)) rfl rfl rfl ?_
    rintro sv _ ⟨cS, hoS, rfl⟩
    have hne := splitL_ne 10 s
    have hsl := split_len 10 s
    have hwl0 := splitL_words 10 s
    obtain ⟨L0, w0, hL⟩ : ∃ L0 w0, splitL 10 s = L0 ++ [w0] := ⟨_, _, (List.dropLast_concat_getLast hne).symm⟩
    have hlines : linesL s = if w0 = [] then L0 else L0 ++ [w0] := by unfold linesL; rw [hL]; exact trim_last _ _
    rw [hL] at hoS hsl hwl0
    rw [List.length_append, List.length_cons, List.length_nil] at hsl
    obtain ⟨a1, cap, rfl, hq⟩ := hoS.at1
    have hcap : (L0 ++ [w0]).length ≤ cap := by
      rcases hoS.2 with ⟨h, h0, _⟩ | ⟨b, cap, sp, h, _, h2, _⟩
      · simp only [Value.slice.injEq] at h; omega
      · simp only [Value.slice.injEq] at h; omega
    obtain ⟨gb, cells, ct, fz, rfl, hm, hc0⟩ := hq (by simp)
    have hc : ∀ (i : Nat) (w : List UInt8), (L0 ++ [w0])[i]? = some w → cells[i]? = some (str w) := fun i w hw => hc0 i _ (by rw [List.getElem?_map, hw]; rfl)
    clear hq hc0 hoS
    rw [show (L0 ++ [w0]).length = L0.length + 1 by simp] at hcap ⊢
    have hx0 : (List.toArray cells)[0 + ((L0.length + 1 : Nat) - 1 : Int).toNat * 1]? = some (str w0) := by
      rw [show 0 + ((L0.length + 1 : Nat) - 1 : Int).toNat * 1 = L0.length by omega, List.getElem?_toArray]; exact hc _ _ (by simp)
    have hm0 : (gb, Obj.cells (List.toArray cells) ct fz) ∈ cS ++ l := List.mem_append_left _ hm
    by_cases hw0 : w0 = []
    · rw [if_pos hw0] at hlines
      have hcl : ∀ (i : Nat) (w : List UInt8), (linesL s)[i]? = some w → cells[i]? = some (str w) := fun i w hw => hc i w (by rw [hlines] at hw; rw [List.getElem?_append_left (List.getElem?_eq_some_iff.1 hw).1]; exact hw)
      have hwl : ∀ w ∈ linesL s, w.length ≤ s.length := fun w hw => hwl0 w (by rw [hlines] at hw; exact List.mem_append_left _ hw)
      have hll : (linesL s).length = L0.length := by rw [hlines]
      refine gzU ?_
      refine t_q (q_slice (l0 := 0) (h0 := (linesL s).length) (m0 := cap) (off' := 0) (n' := (linesL s).length) (c' := cap) rfl .none (.some rfl (by omega) (by omega)) .none (by simp) (by omega) (by omega) (by omega) (by simp) (by omega) (by omega)) rfl rfl rfl ?_
      refine gzU ?_
      refine k_loop (α := Nat × List (List Value) × Value × List Chunk × List Chunk) (fun x => [(5, .slice (some ⟨gb, 0, none⟩) (linesL s).length cap), (6, x.2.2.1), (7, .int .i64 x.1)]) (fun x => x.2.2.2.1 ++ (x.2.2.2.2 ++ (cS ++ l)))
        (fun x => x.1 ≤ (linesL s).length ∧ x.2.1.length = x.1 ∧ OwnSl 43 15 x.2.2.1 x.2.1.length x.2.1.flatten x.2.2.2.1 ∧ goL (linesL s) = addP x.2.1 (goL ((linesL s).drop x.1))) (fun x => (linesL s).length - x.1)
        (0, [], .slice none 0 0, [], []) ⟨by simp, rfl, OwnSl.nil _ _, by cases h : goL (linesL s) <;> simp [addP, h]⟩ ⟨rfl, rfl, rfl, trivial⟩ .refl ?_
      rintro ⟨i, es, v, c1, X⟩ ⟨hi, hl, ho, hg⟩
      simp only at hi hl ho hg ⊢
      have hv1 : v.oneCell' = true := ho.one
      by_cases hlt : i < (linesL s).length
      · obtain ⟨w, q1, q2, q3⟩ := drop_at hlt
        have hx : (List.toArray cells)[i * 1]? = some (str w) := by
          have := hcl i w q1
          rw [List.getElem?_toArray, Nat.mul_one]; exact this
        have hm1 : (gb, Obj.cells (List.toArray cells) ct fz) ∈ c1 ++ (X ++ (cS ++ l)) := List.mem_append_right _ (List.mem_append_right _ (List.mem_append_left _ hm))
        have hww := hwl w q3
        rw [q2] at hg
        refine gzU ?_
        refine t_e (e_call0 rfl rfl (revent_any w (by omega) _)) rfl rfl rfl ?_
        rintro _ _ ⟨hv, Y, rfl⟩
        refine s_keep (l' := c1 ++ ((Y ++ X) ++ (cS ++ l))) (keep_ac []) ?_
        cases hev : evOf w with
        | none =>
          rw [lineR_none hev] at hv
          subst hv
          refine gzU ?_
          refine t_e e_alloc rfl rfl rfl ?_; rintro _ _ ⟨b10, _, rfl, rfl⟩
          refine gzU ?_
          have hg' := hg.trans (goL_bad hev _ es)
          refine k_ret [] rfl (l' := (Y ++ X) ++ (cS ++ l)) (.drop (Keep.dropL c1 .refl)) (by exact zRes) ⟨.slice none 0 0, [], (Y ++ X) ++ cS, ?_, ?_, by simp⟩
          · rw [parseR_bad h6 hg', hl]; rfl
          · rw [parseR_bad h6 hg']; exact OwnSl.nil _ _
        | some e =>
          have hv2 : lineR w = .tuple #[.agg (List.toArray e), .bool true] := by unfold lineR; rw [hev]
          rw [hv2] at hv
          subst hv
          obtain ⟨hE1, hE2⟩ := evOf_ev hev
          refine gzU ?_
          refine t_e e_alloc rfl rfl rfl ?_; rintro _ _ ⟨b10, _, rfl, rfl⟩
          refine gzU ?_
          apply t_n
          · apply e_storeLA
            · rfl
            · rfl
            · exact hE1.len
            · exact hE2
            · exact zMem
            · exact lseta_full zEv e hE1.len.symm
            · exact zUpd
          · rfl
          · rfl
          rintro _ _ ⟨rfl, rfl⟩
          refine gzU ?_
          refine t_q (q_loadL rfl (by exact zMem) (lsub15 hE1.len)) rfl rfl rfl ?_
          refine t_e (e_litA (k := 15) (zs := zEv) rfl rfl hE1.len (by decide) (by decide)) rfl rfl rfl ?_
          rintro _ _ ⟨bl, hbl, rfl, rfl⟩
          refine t_e (e_appX (k := 15) (X := [_]) (cs := c1) (F := (Y ++ X) ++ (cS ++ l)) (n := es.length) (xs := es.flatten) (zs := zEv) rfl rfl rfl ho hE1.len hE2 (by omega) (by decide)) rfl rfl rfl ?_
          rintro v2 _ ⟨c2, ho2, rfl⟩
          have hv3 : v2.oneCell' = true := ho2.one
          refine gzU ?_
          refine k_next (i + 1, es ++ [e], v2, c2, Y ++ X) ⟨by simp only; omega, by simp [hl], ?_, hg.trans (goL_step hev _ es)⟩ (by simp only; omega) ⟨rfl, rfl, rfl, trivial⟩ (.drop .refl)
          simp only [List.length_append, List.length_cons, List.length_nil, List.flatten_append, List.flatten_cons, List.flatten_nil, List.append_nil]; exact ho2
      · obtain rfl : i = (linesL s).length := by omega
        rw [List.drop_length] at hg
        have hg' : goL (linesL s) = .ok es := by rw [hg]; show Except.ok (es ++ []) = _; rw [List.append_nil]
        refine gzU ?_
        refine k_ret [] rfl .refl (by exact zRes) ⟨v, c1, X ++ cS, ?_, ?_, by simp⟩
        · rw [parseR_ok h6 hg']; rfl
        · rw [parseR_ok h6 hg']; exact ho
    · rw [if_neg hw0] at hlines
      have hcl : ∀ (i : Nat) (w : List UInt8), (linesL s)[i]? = some w → cells[i]? = some (str w) := fun i w hw => hc i w (by rw [hlines] at hw; exact hw)
      have hwl : ∀ w ∈ linesL s, w.length ≤ s.length := fun w hw => hwl0 w (by rw [hlines] at hw; exact hw)
      have hll : (linesL s).length = L0.length + 1 := by rw [hlines]; simp
      refine gzU ?_
      rw [← hll]
      refine k_loop (α := Nat × List (List Value) × Value × List Chunk × List Chunk) (fun x => [(5, .slice (some ⟨gb, 0, none⟩) (linesL s).length cap), (6, x.2.2.1), (7, .int .i64 x.1)]) (fun x => x.2.2.2.1 ++ (x.2.2.2.2 ++ (cS ++ l)))
        (fun x => x.1 ≤ (linesL s).length ∧ x.2.1.length = x.1 ∧ OwnSl 43 15 x.2.2.1 x.2.1.length x.2.1.flatten x.2.2.2.1 ∧ goL (linesL s) = addP x.2.1 (goL ((linesL s).drop x.1))) (fun x => (linesL s).length - x.1)
        (0, [], .slice none 0 0, [], []) ⟨by simp, rfl, OwnSl.nil _ _, by cases h : goL (linesL s) <;> simp [addP, h]⟩ ⟨rfl, rfl, rfl, trivial⟩ .refl ?_
      rintro ⟨i, es, v, c1, X⟩ ⟨hi, hl, ho, hg⟩
      simp only at hi hl ho hg ⊢
      have hv1 : v.oneCell' = true := ho.one
      by_cases hlt : i < (linesL s).length
      · obtain ⟨w, q1, q2, q3⟩ := drop_at hlt
        have hx : (List.toArray cells)[i * 1]? = some (str w) := by
          have := hcl i w q1
          rw [List.getElem?_toArray, Nat.mul_one]; exact this
        have hm1 : (gb, Obj.cells (List.toArray cells) ct fz) ∈ c1 ++ (X ++ (cS ++ l)) := List.mem_append_right _ (List.mem_append_right _ (List.mem_append_left _ hm))
        have hww := hwl w q3
        rw [q2] at hg
        refine gzU ?_
        refine t_e (e_call0 rfl rfl (revent_any w (by omega) _)) rfl rfl rfl ?_
        rintro _ _ ⟨hv, Y, rfl⟩
        refine s_keep (l' := c1 ++ ((Y ++ X) ++ (cS ++ l))) (keep_ac []) ?_
        cases hev : evOf w with
        | none =>
          rw [lineR_none hev] at hv
          subst hv
          refine gzU ?_
          refine t_e e_alloc rfl rfl rfl ?_; rintro _ _ ⟨b10, _, rfl, rfl⟩
          refine gzU ?_
          have hg' := hg.trans (goL_bad hev _ es)
          refine k_ret [] rfl (l' := (Y ++ X) ++ (cS ++ l)) (.drop (Keep.dropL c1 .refl)) (by exact zRes) ⟨.slice none 0 0, [], (Y ++ X) ++ cS, ?_, ?_, by simp⟩
          · rw [parseR_bad h6 hg', hl]; rfl
          · rw [parseR_bad h6 hg']; exact OwnSl.nil _ _
        | some e =>
          have hv2 : lineR w = .tuple #[.agg (List.toArray e), .bool true] := by unfold lineR; rw [hev]
          rw [hv2] at hv
          subst hv
          obtain ⟨hE1, hE2⟩ := evOf_ev hev
          refine gzU ?_
          refine t_e e_alloc rfl rfl rfl ?_; rintro _ _ ⟨b10, _, rfl, rfl⟩
          refine gzU ?_
          apply t_n
          · apply e_storeLA
            · rfl
            · rfl
            · exact hE1.len
            · exact hE2
            · exact zMem
            · exact lseta_full zEv e hE1.len.symm
            · exact zUpd
          · rfl
          · rfl
          rintro _ _ ⟨rfl, rfl⟩
          refine gzU ?_
          refine t_q (q_loadL rfl (by exact zMem) (lsub15 hE1.len)) rfl rfl rfl ?_
          refine t_e (e_litA (k := 15) (zs := zEv) rfl rfl hE1.len (by decide) (by decide)) rfl rfl rfl ?_
          rintro _ _ ⟨bl, hbl, rfl, rfl⟩
          refine t_e (e_appX (k := 15) (X := [_]) (cs := c1) (F := (Y ++ X) ++ (cS ++ l)) (n := es.length) (xs := es.flatten) (zs := zEv) rfl rfl rfl ho hE1.len hE2 (by omega) (by decide)) rfl rfl rfl ?_
          rintro v2 _ ⟨c2, ho2, rfl⟩
          have hv3 : v2.oneCell' = true := ho2.one
          refine gzU ?_
          refine k_next (i + 1, es ++ [e], v2, c2, Y ++ X) ⟨by simp only; omega, by simp [hl], ?_, hg.trans (goL_step hev _ es)⟩ (by simp only; omega) ⟨rfl, rfl, rfl, trivial⟩ (.drop .refl)
          simp only [List.length_append, List.length_cons, List.length_nil, List.flatten_append, List.flatten_cons, List.flatten_nil, List.append_nil]; exact ho2
      · obtain rfl : i = (linesL s).length := by omega
        rw [List.drop_length] at hg
        have hg' : goL (linesL s) = .ok es := by rw [hg]; show Except.ok (es ++ []) = _; rw [List.append_nil]
        refine gzU ?_
        refine k_ret [] rfl .refl (by exact zRes) ⟨v, c1, X ++ cS, ?_, ?_, by simp⟩
        · rw [parseR_ok h6 hg']; rfl
        · rw [parseR_ok h6 hg']; exact ho
theorem parse_ev {s : List UInt8} : (∀ e ∈ (parseR s).1, IsEv e) ∧ (parseR s).1.length ≤ s.length := by
  unfold parseR
  split
  · exact ⟨fun e he => (by cases he), Nat.zero_le _⟩
  · cases hg : goL (linesL s) with
    | error n => exact ⟨fun e he => (by cases he), Nat.zero_le _⟩
    | ok es =>
      obtain ⟨g1, g2, _⟩ := goL_ok _ hg
      exact ⟨fun e he => (g2 e he).1, by simp only; rw [g1]; exact linesL_len _ s (Nat.le_refl _)⟩
set_option maxHeartbeats 2000000 in
theorem reads_any (s : List UInt8) (l : List Chunk) (hG : GL l) : Fn Tryd.prog 3 [str s] l fun v l' => v = .bool true ∧ ∃ X, l' = X ++ l := by
  refine fn_of_body Tryd.func3 rfl rfl fun E => ?_
  simp only [argF, Tryd.ntmps3]
  by_cases h2 : s.length > 66000
  · refine gzU ?_
    refine t_e (e_call0 rfl rfl (awake_any l hG)) rfl rfl rfl ?_
    rintro _ _ ⟨rfl, rfl⟩
    refine gzU ?_
    exact k_ret [] rfl .refl (by exact zRes) ⟨rfl, [], rfl⟩
  · refine gzU ?_
    refine t_e (e_call0 rfl rfl (parse_any s (by omega) _ hG)) rfl rfl rfl ?_
    rintro _ lL ⟨va, c1, rfl, ho1, rfl⟩
    refine gzU ?_
    refine t_e (e_call0 rfl rfl (rparse_any s (by omega) _)) rfl rfl rfl ?_
    rintro _ _ ⟨vb, c2, X, rfl, ho2, rfl⟩
    obtain ⟨hE, hlen⟩ := parse_ev (s := s)
    obtain ⟨a1, cap1, rfl, hR1⟩ := ho1.inRows (fun r hr => (hE r hr).len) (c2 ++ (X ++ l))
    obtain ⟨a2, cap2, rfl, hR2⟩ := ho2.inRows (fun r hr => (hE r hr).len) (X ++ (c1 ++ l))
    have hR1' : InRows (c2 ++ (X ++ (c1 ++ l))) a1 (parseR s).1.length 15 (parseR s).1 := fun h0 => by
      obtain ⟨b, off, cs, t, fz, q1, q2, q3⟩ := hR1 h0
      refine ⟨b, off, cs, t, fz, q1, ?_, q3⟩
      simp only [List.mem_append] at q2 ⊢
      rcases q2 with h | h | h | h
      · exact .inr (.inr (.inl h))
      · exact .inl h
      · exact .inr (.inl h)
      · exact .inr (.inr (.inr h))
    refine gzU ?_
    refine t_e (e_call0 rfl rfl (sameEvents_any _ _ _ _ _ hE (by omega) _ hR1' hR2)) rfl rfl rfl ?_
    rintro _ _ ⟨rfl, rfl⟩
    refine gzU ?_
    refine t_eh (e_call0 rfl rfl (lawNum_any _ _)) rfl rfl rfl ?_
    rintro _ _ ⟨rfl, rfl⟩
    refine gzU ?_
    refine s_keep (l' := c1 ++ (c2 ++ (X ++ l))) (keep_ac []) ?_
    refine t_e (e_call0 rfl rfl (overEvents_any _ _ _ c1 _ ho1 (by omega))) rfl rfl rfl ?_
    rintro _ _ ⟨rfl, Y, rfl⟩
    refine gzU ?_
    refine t_e (e_call0 rfl rfl (parse_any s (by omega) _ (((hG.app X).app c2).app Y))) rfl rfl rfl ?_
    rintro _ lM ⟨vc, c3, rfl, ho3, rfl⟩
    obtain ⟨a3, cap3, rfl, hR3⟩ := ho3.inRows (fun r hr => (hE r hr).len) (Y ++ (c2 ++ (X ++ l)))
    have hR2' : InRows (c3 ++ (Y ++ (c2 ++ (X ++ l)))) a2 (parseR s).1.length 15 (parseR s).1 := fun h0 => by
      rcases ho2.inRows (fun r hr => (hE r hr).len) (X ++ l) with ⟨a, cap, e, h⟩
      simp only [Value.slice.injEq] at e
      obtain ⟨rfl, _, rfl⟩ := e
      obtain ⟨b, off, cs, t, fz, q1, q2, q3⟩ := h h0
      exact ⟨b, off, cs, t, fz, q1, List.mem_append_right _ (List.mem_append_right _ q2), q3⟩
    refine gzU ?_
    refine t_e (e_call0 rfl rfl (sameEvents_any _ _ _ _ _ hE (by omega) _ hR3 hR2')) rfl rfl rfl ?_
    rintro _ _ ⟨rfl, rfl⟩
    refine gzU ?_
    refine t_eh (e_call0 rfl rfl (awake_any _ ((((hG.app X).app c2).app Y).app c3))) rfl rfl rfl ?_
    rintro _ _ ⟨rfl, rfl⟩
    refine gzU ?_
    exact k_ret [] rfl .refl (by exact zRes) ⟨rfl, c3 ++ (Y ++ (c2 ++ X)), by simp⟩
end Go.Proofs.YtffmibmefmbdjaaDoor
