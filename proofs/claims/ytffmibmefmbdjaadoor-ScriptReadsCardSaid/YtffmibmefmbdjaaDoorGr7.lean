/- What is printed is read again: the texts. ScriptBack. What a row's list gives: the library's variables. Events that came in. seisinlaw0.SameEvents, where the lists tell the same. ScriptParts. ref35: Line and Print. ref35: Split, numbers, words. ref35: numbers, words. Blocks in another order, told by counting; calls on blocks that stand further behind. Laws of my own, no program's. Laws that the statement's proof leans on. -/
import Derived.Test.YtffmibmefmbdjaaDoorGr6
import Derived.Test.YtffmibmefmbdjaaDoorGr4
import Derived.Test.YtffmibmefmbdjaaDoorRows
import Derived.Stop.LaidErr
import Derived.Lib.LaidTab
import Derived.WalkSmall
import Derived.Test.YtffmibmefmbdjaaDoorGr5
/- What is printed is read again: the texts. -/
set_option linter.unusedVariables false
set_option linter.unusedSimpArgs false
namespace Go.Proofs.YtffmibmefmbdjaaDoor
open Go.RowKit

theorem cut_word {c : UInt8} {w : List UInt8} (h : c ∉ w) (t : List UInt8) : cutL c (w ++ c :: t) = (w, t, true) := by
  induction w with
  | nil => show (if c = c then ([], t, true) else _) = _; rw [if_pos rfl]
  | cons x r ih =>
    rw [List.mem_cons, not_or] at h
    show (if x = c then ([], r ++ c :: t, true) else (x :: (cutL c (r ++ c :: t)).1, (cutL c (r ++ c :: t)).2.1, (cutL c (r ++ c :: t)).2.2)) = _
    rw [if_neg fun e => h.1 e.symm, ih h.2]
theorem line_no10 {e : List Value} (h : (lineC e).2 = 0) : (10 : UInt8) ∉ (lineC e).1 := by
  unfold lineC at h ⊢
  split
  · rename_i hk
    rw [if_pos hk] at h
    obtain ⟨_, h2⟩ := lineGo_ok _ _ _ h
    rw [h2, List.mem_append, List.mem_flatMap]
    rintro (h3 | ⟨p, _, h3⟩)
    · exact no_nm (by decide) _ h3
    · rcases List.mem_cons.1 h3 with h4 | h4
      · revert h4; decide
      · exact no_dec (by decide) _ h4
  · simp
theorem lines_txt : ∀ (es : List (List Value)) (s : List UInt8), (∀ e ∈ es, (lineC e).2 = 0) → linesL (txt es ++ s) = es.map (fun e => (lineC e).1) ++ linesL s
  | [], s, _ => rfl
  | e :: r, s, h => by
    have e1 : txt (e :: r) ++ s = (lineC e).1 ++ 10 :: (txt r ++ s) := by unfold txt lnOf; simp
    rw [e1, linesL_cons (by simp), cut_word (line_no10 (h e (.head _)))]
    show (lineC e).1 :: linesL (txt r ++ s) = _
    rw [lines_txt r s fun x hx => h x (.tail _ hx)]
    rfl
theorem goL_back : ∀ (es : List (List Value)) (L : List (List UInt8)), (∀ e ∈ es, IsEv e ∧ (lineC e).2 = 0) → ∃ es', es'.length = es.length ∧ (∀ (i : Nat) (e e' : List Value), es[i]? = some e → es'[i]? = some e' → lineC e' = ((lineC e).1, 0) ∧ fldI e' 0 = fldI e 0 ∧ fldI e' 1 = fldI e 1) ∧ (∀ e ∈ es', IsEv e ∧ ∀ v ∈ e, v.oneCell' = true) ∧ goL (es.map (fun e => (lineC e).1) ++ L) = addP es' (goL L)
  | [], L, _ => ⟨[], rfl, fun i e e' h => by simp at h, fun e he => (by cases he), by
    show goL L = addP [] (goL L)
    cases goL L <;> simp [addP]⟩
  | e :: r, L, h => by
    obtain ⟨h1, h2⟩ := h e (.head _)
    obtain ⟨e', k1, k2, k3⟩ := line_ev h1 h2
    obtain ⟨es', i1, i2, i3, i4⟩ := goL_back r L fun x hx => h x (.tail _ hx)
    refine ⟨e' :: es', by simp [i1], fun i x x' hx hx' => ?_, fun x hx => ?_, ?_⟩
    · cases i with
      | zero =>
        simp only [List.getElem?_cons_zero, Option.some.injEq] at hx hx'
        subst hx hx'
        exact ⟨(ev_line k1).1, k2, k3⟩
      | succ i => exact i2 i x x' (by simpa using hx) (by simpa using hx')
    · rcases List.mem_cons.1 hx with rfl | hx
      · exact evOf_ev k1
      · exact i3 x hx
    · have h5 : ∀ x : Except Nat (List (List Value)), addP [] x = x := fun x => by cases x <;> simp [addP]
      have h6 := goL_step k1 (r.map (fun e => (lineC e).1) ++ L) []
      rw [h5] at h6
      show goL ((lineC e).1 :: (r.map (fun e => (lineC e).1) ++ L)) = _
      rw [h6, i4]
      cases goL L with
      | ok x => show Except.ok ([e'] ++ (es' ++ x)) = Except.ok (e' :: es' ++ x); rfl
      | error n => show Except.error (1 + (es'.length + n)) = Except.error ((e' :: es').length + n); rw [List.length_cons]; congr 1; omega
end Go.Proofs.YtffmibmefmbdjaaDoor

/- ScriptBack. -/
-- GU
set_option linter.unusedVariables false
set_option linter.unusedSimpArgs false
namespace Go.Proofs.YtffmibmefmbdjaaDoor
open Go.RowKit
set_option maxRecDepth 20000
set_option pp.deepTerms false
set_option pp.deepTerms.threshold 4

theorem printR_ok {es : List (List Value)} (h : (printR es).2 = 0) : prFirst es = 0 ∧ printR es = (txt es, 0) ∧ (txt es).length ≤ 65536 := by
  unfold printR at h ⊢
  by_cases h1 : prFirst es ≠ 0
  · rw [if_pos h1] at h; exact absurd h h1
  · have h1 : prFirst es = 0 := by simpa using h1
    rw [if_neg (by simpa using h1)] at h ⊢
    by_cases h2 : (txt es).length > 65536
    · rw [if_pos h2] at h; cases h
    · rw [if_neg h2]; exact ⟨h1, rfl, by omega⟩
theorem printR_bad {es : List (List Value)} (h : (printR es).2 ≠ 0) : printR es = ([], (printR es).2) := by
  unfold printR at h ⊢
  by_cases h1 : prFirst es ≠ 0
  · rw [if_pos h1]
  · rw [if_neg h1] at h ⊢
    by_cases h2 : (txt es).length > 65536
    · rw [if_pos h2]
    · rw [if_neg h2] at h; exact absurd rfl h
theorem prFirst_all {es : List (List Value)} (h : prFirst es = 0) : ∀ e ∈ es, (lineC e).2 = 0 := by
  induction es with
  | nil => intro e he; cases he
  | cons x r ih =>
    have h1 : (if (lineC x).2 ≠ 0 then (lineC x).2 else prFirst r) = 0 := h
    intro e he
    by_cases hx : (lineC x).2 = 0
    · rw [if_neg (by simpa using hx)] at h1
      rcases List.mem_cons.1 he with rfl | he
      · exact hx
      · exact ih h1 e he
    · rw [if_pos hx] at h1; exact absurd h1 hx
set_option maxHeartbeats 2000000 in
theorem back_any (a : Option Addr) (cap : Nat) (es : List (List Value)) (hes : ∀ e ∈ es, IsEv e) (h1s : ∀ e ∈ es, ∀ v ∈ e, v.oneCell' = true) (l : List Chunk) (hG : GL l) (hR : InRows l a es.length 15 es) :
    Fn Tryd.prog 5 [.slice a es.length cap] l fun v l' => v = .bool true ∧ ∃ X, l' = X ++ l := by
  refine fn_of_body Tryd.func5 rfl rfl fun E => ?_
  simp only [argF, Tryd.ntmps5]
  by_cases h2 : es.length > 200
  · refine gzU ?_
    refine t_e (e_call0 rfl rfl (awake_any l hG)) rfl rfl rfl ?_
    rintro _ _ ⟨rfl, rfl⟩
    refine gzU ?_
    exact k_ret [] rfl .refl (by exact zRes) ⟨rfl, [], rfl⟩
  · refine gzU ?_
    refine t_e (e_call0 rfl rfl (print_any a cap es hes h1s (by omega) _ hG hR)) rfl rfl rfl ?_
    rintro _ lL ⟨rfl, rfl⟩
    by_cases hc : (printR es).2 = 0
    · obtain ⟨p1, p2, p3⟩ := printR_ok hc
      rw [p2]
      unfold lnV
      simp only
      obtain ⟨es', g1, g2, g3, g4⟩ := goL_back es [] (fun e he => ⟨hes e he, prFirst_all p1 e he⟩)
      have hg : goL (linesL (txt es)) = .ok es' := by
        have h5 := lines_txt es [] (prFirst_all p1)
        rw [List.append_nil, linesL_nil] at h5
        rw [h5, g4]
        show Except.ok (es' ++ []) = _
        rw [List.append_nil]
      refine gzU ?_
      refine t_e (e_call0 rfl rfl (parse_any (txt es) (by omega) _ hG)) rfl rfl rfl ?_
      rw [parseR_ok (by omega) hg]
      rintro _ _ ⟨sv, c1, rfl, ho, rfl⟩
      simp only at ho ⊢
      obtain ⟨a2, cap2, rfl, hR2⟩ := ho.inRows (fun r hr => (g3 r hr).1.len) lL
      rw [g1] at hR2 ⊢
      refine gzU ?_
      refine k_loop (α := Nat) (fun i => [(0, .slice a es.length cap), (5, .slice a2 es.length cap2), (8, .int .i64 i)]) (fun i => c1 ++ lL) (fun i => i ≤ es.length) (fun i => es.length - i) 0 (Nat.zero_le _) ⟨rfl, rfl, rfl, trivial⟩ .refl ?_
      rintro i hi
      by_cases hlt : i < es.length
      · obtain ⟨e, he⟩ : ∃ e, es[i]? = some e := ⟨_, List.getElem?_eq_getElem hlt⟩
        obtain ⟨e', he'⟩ : ∃ e', es'[i]? = some e' := ⟨_, List.getElem?_eq_getElem (by omega)⟩
        obtain ⟨k1, k2, k3⟩ := g2 i e e' he he'
        have hE := hes e (List.mem_of_getElem? he)
        obtain ⟨hE', _⟩ := g3 e' (List.mem_of_getElem? he')
        have hcode := prFirst_all p1 e (List.mem_of_getElem? he)
        obtain ⟨bE, off, ec, et, fz, rfl, hm, hrow⟩ := hR (by omega)
        obtain ⟨bE2, off2, ec2, et2, fz2, rfl, hm2, hrow2⟩ := hR2 (by omega)
        obtain ⟨r1, r2, r3⟩ := hrow i e he
        obtain ⟨s1, s2, s3⟩ := hrow2 i e' he'
        refine gzU ?_
        refine t_q (q_loadA (n := 15) rfl (List.mem_append_right _ hm) r1 r2) rfl rfl rfl ?_
        refine t_e (e_call0 rfl rfl (line_any e hE _ (hG.app c1))) rfl rfl rfl ?_
        rintro _ _ ⟨rfl, rfl⟩
        unfold lnV
        refine gzU ?_
        refine t_q (q_loadA (n := 15) rfl hm2 s1 s2) rfl rfl rfl ?_
        refine t_e (e_call0 rfl rfl (line_any e' hE' _ (hG.app c1))) rfl rfl rfl ?_
        rintro _ _ ⟨rfl, rfl⟩
        rw [k1]
        unfold lnV
        simp only
        refine gzU ?_
        have hm' := List.mem_append_right c1 hm
        have f0 := r3 0 _ (hE.num 0 (.inl rfl))
        have f1 := r3 1 _ (hE.num 1 (.inr (.inl rfl)))
        have t0 := s3 0 _ (hE'.num 0 (.inl rfl))
        have t1 := s3 1 _ (hE'.num 1 (.inr (.inl rfl)))
        rw [Nat.add_zero] at f0 t0
        refine c_draw [(0, true), (1, true), (2, true), (3, true), (4, true), (5, true), (6, true), (7, true), (8, true), (9, true), (10, true), (11, true), (12, true), (13, true), (14, true), (15, true), (16, true), (17, true), (18, true), (19, true), (20, true), (21, true), (22, true), (23, true), (24, true), (25, true), (26, true), (27, true), (28, true), (29, true), (30, true), (31, true), (32, true)] [[], [], [0, 1], [0, 1, 2], [0, 1, 2, 3], [0, 1, 2, 3, 4], [0, 1, 2, 3, 4, 5], [0, 1, 2, 3, 4, 5, 6], [0, 1, 2, 3, 4, 5, 6, 7], [0, 1, 2, 3, 4, 5, 6, 7], [0, 1, 2, 3, 4, 5, 6, 7, 8, 9], [0, 1, 2, 3, 4, 5, 6, 7, 8, 9, 10], [0, 1, 2, 3, 4, 5, 6, 7, 8, 9, 10, 11], [0, 1, 2, 3, 4, 5, 6, 7], [0, 1, 2, 3, 4, 5, 6, 7], [0, 1, 2, 3, 4, 5, 6, 7, 13, 14], [0, 1, 2, 3, 4, 5, 6, 7, 13, 14, 15], [0, 1, 2, 3, 4, 5, 6, 7, 13, 14, 15, 16], [0, 1, 2, 3, 4, 5, 6, 7, 8, 9, 10, 11, 12, 13, 14, 15, 16, 17], [0, 1, 2, 3, 4, 5, 6, 7, 8, 9, 10, 11, 12, 13, 14, 15, 16, 17, 18], [0, 1, 2, 3, 4, 5, 6, 7, 8, 9, 10, 11, 12, 13, 14, 15, 16, 17, 18, 19], [0, 1, 2, 3, 4, 5, 6, 7, 8, 9, 10, 11, 12, 13, 14, 15, 16, 17, 18, 19, 20], [0, 1, 2, 3, 4, 5, 6, 7, 8, 9, 10, 11, 12, 13, 14, 15, 16, 17, 18, 19, 20], [0, 1, 2, 3, 4, 5, 6, 7, 8, 9, 10, 11, 12, 13, 14, 15, 16, 17, 18, 19, 20, 21, 22], [0, 1, 2, 3, 4, 5, 6, 7, 8, 9, 10, 11, 12, 13, 14, 15, 16, 17, 18, 19, 20, 21, 22, 23], [0, 1, 2, 3, 4, 5, 6, 7, 8, 9, 10, 11, 12, 13, 14, 15, 16, 17, 18, 19, 20, 21, 22, 23, 24], [0, 1, 2, 3, 4, 5, 6, 7, 8, 9, 10, 11, 12, 13, 14, 15, 16, 17, 18, 19, 20], [0, 1, 2, 3, 4, 5, 6, 7, 8, 9, 10, 11, 12, 13, 14, 15, 16, 17, 18, 19, 20], [0, 1, 2, 3, 4, 5, 6, 7, 8, 9, 10, 11, 12, 13, 14, 15, 16, 17, 18, 19, 20, 26, 27], [0, 1, 2, 3, 4, 5, 6, 7, 8, 9, 10, 11, 12, 13, 14, 15, 16, 17, 18, 19, 20, 26, 27, 28], [0, 1, 2, 3, 4, 5, 6, 7, 8, 9, 10, 11, 12, 13, 14, 15, 16, 17, 18, 19, 20, 26, 27, 28, 29], [0, 1, 2, 3, 4, 5, 6, 7, 8, 9, 10, 11, 12, 13, 14, 15, 16, 17, 18, 19, 20, 21, 22, 23, 24, 25, 26, 27, 28, 29, 30], [0, 1, 2, 3, 4, 5, 6, 7, 8, 9, 10, 11, 12, 13, 14, 15, 16, 17, 18, 19, 20, 21, 22, 23, 24, 25, 26, 27, 28, 29, 30, 31]] _ (by kernel_rfl) (by kernel_rfl) zAtt (fun _ h => h) ?_
        refine pzU ?_
        rw [decide_eq_false (not_not_intro (rfl : (lineC e).1 = (lineC e).1))]
        refine pzU ?_
        refine gzU ?_
        exact k_next (i + 1) (by omega) (by omega) ⟨rfl, rfl, rfl, trivial⟩ .refl
      · obtain rfl : i = es.length := by omega
        refine gzU ?_
        refine t_e (e_call0 rfl rfl (awake_any _ (hG.app c1))) rfl rfl rfl ?_
        rintro _ _ ⟨rfl, rfl⟩
        refine gzU ?_
        exact k_ret [] rfl .refl (by exact zRes) ⟨rfl, c1, rfl⟩
    · rw [printR_bad hc]
      unfold lnV
      simp only
      refine gzU ?_
      rw [decide_eq_true (rfl : ([] : List UInt8) = [])]
      refine gzU ?_
      refine t_eh (e_call0 rfl rfl (awake_any _ hG)) rfl rfl rfl ?_
      rintro _ _ ⟨rfl, rfl⟩
      refine gzU ?_
      exact k_ret [] rfl .refl (by exact zRes) ⟨rfl, [], rfl⟩
end Go.Proofs.YtffmibmefmbdjaaDoor

/- What a row's list gives: the library's variables. -/
set_option linter.unusedVariables false
set_option linter.unusedSimpArgs false
namespace Go.Proofs.YtffmibmefmbdjaaDoor
open Go.RowKit

theorem gTab : Tryd.prog.globalNamed "internal/strconv.uint64pow10" = some 1 := by kernel_rfl
theorem gTabT : (Tryd.prog.globals[1]?).map (·.type) = some 107 := by kernel_rfl
theorem gTabC : Tryd.prog.cellsOf 107 = 20 := by kernel_rfl
theorem gTabE : Tryd.prog.cellsOf 38 = 1 := by kernel_rfl
theorem gES : Tryd.prog.globalNamed "strconv.ErrSyntax" = some 2 := by kernel_rfl
theorem gEST : (Tryd.prog.globals[2]?).map (·.type) = some 59 := by kernel_rfl
theorem gER : Tryd.prog.globalNamed "strconv.ErrRange" = some 3 := by kernel_rfl
theorem gERT : (Tryd.prog.globals[3]?).map (·.type) = some 59 := by kernel_rfl
theorem esC : Tryd.prog.cellsOf 128 = 1 := by kernel_rfl
theorem strC : Tryd.prog.cellsOf 9 = 1 := by kernel_rfl
theorem starES : "*" ++ "errors.errorString" = "*errors.errorString" := by decide
theorem rowES (u : TypeId) (h : Tryd.prog.typeName? 3 u = some "*errors.errorString") : u = 126 :=
  typeName_ptr_named (nm := "errors.errorString") (by rw [starES]; kernel_rfl) (by kernel_rfl) (by decide) u (by rw [starES]; exact h)
theorem var_same {P : Program} {W W' : World} {n : String} {g : Nat} (hg : P.globalNamed n = some g) (hb : W'.heap[g]? = W.heap[g]?) : W'.var? P n = W.var? P n := by
  unfold World.var?
  simp only [hg, Option.bind_some, hb]
theorem tab_list : (Lib.tabData .u64 Lib.pow10Tab : DataW Unit) = Rows.laid_internal_strconv_uint64pow10 := by rfl
theorem gl_laid {W : World} (h : laidMet Tryd.prog [("math/bits.deBruijn32tab", Rows.laid_math_bits_deBruijn32tab), ("math/bits.deBruijn64tab", Rows.laid_math_bits_deBruijn64tab), ("internal/strconv.uint64pow10", Rows.laid_internal_strconv_uint64pow10), ("strconv.ErrRange", Rows.laid_strconv_ErrRange), ("strconv.ErrSyntax", Rows.laid_strconv_ErrSyntax)] W) : GL (allOf W) := by
  have h3 := h.tail.tail
  have ht : Lib.TabIs Tryd.prog W "internal/strconv.uint64pow10" .u64 Lib.pow10Tab := by
    rw [← tab_list] at h3
    exact Lib.tabIs_of_head gTab gTabT Tryd.underlying107 Tryd.underlying38 gTabE gTabC h3
  obtain ⟨a0, s0, hv0, -, -, -⟩ := laid_sentinel h3.tail gER gERT Tryd.underlying59 rowES Tryd.underlying126 Tryd.underlying128 rfl rfl Tryd.underlying9 esC strC
  obtain ⟨a1, s1, hv1, -, -, -⟩ := laid_sentinel h3.tail.tail gES gEST Tryd.underlying59 rowES Tryd.underlying126 Tryd.underlying128 rfl rfl Tryd.underlying9 esC strC
  have c0 : W.cell? ⟨3, 0, none⟩ = some (.iface 126 (.pointer (some a0))) := by have h0 := World.var?_cell gER hv0 0; simpa using h0
  have c1 : W.cell? ⟨2, 0, none⟩ = some (.iface 126 (.pointer (some a1))) := by have h0 := World.var?_cell gES hv1 0; simpa using h0
  have ct : W.cell? ⟨1, 0, none⟩ = some (.int .u64 (Lib.pow10Tab.getD 0 0)) := ht.cell gTab 0 (by rw [Lib.pow10Tab_length]; omega)
  refine ⟨fun W' hw => ?_⟩
  have same : ∀ (g : Nat) (v : Value), W.cell? ⟨g, 0, none⟩ = some v → W'.heap[g]? = W.heap[g]? := fun g v hv => by
    obtain ⟨o, ho, _⟩ := cells_of_cell hv
    exact (hw (g, o) ((allOf_mem W g o).2 ho)).trans ho.symm
  refine ⟨?_, ⟨_, _, (World.cell?_of_block (same _ _ c1)).trans c1⟩, ⟨_, _, (World.cell?_of_block (same _ _ c0)).trans c0⟩⟩
  unfold Lib.TabIs at ht ⊢
  rw [var_same gTab (same _ _ ct)]
  exact ht
end Go.Proofs.YtffmibmefmbdjaaDoor

/- Events that came in. -/
set_option linter.unusedVariables false
set_option linter.unusedSimpArgs false
namespace Go.Proofs.YtffmibmefmbdjaaDoor
open Go.RowKit

abbrev evK : List (Option IntKind) := [some .i64, some .i64, some .i64, some .u64, some .u64, some .u64, some .u64, some .u64, some .u64, some .u64, some .u64, some .u64, some .i64, some .i64, some .i64]
theorem cell_at : ∀ (ks : List (Option IntKind)) (cs : List Value), AllIs ks cs → ∀ (o : Nat) (k : IntKind), ks[o]? = some (some k) → ∃ a, cs[o]? = some (.int k a) ∧ (Lit.int k a).wf = true
  | [], _, _, o, k, h => by simp at h
  | q :: ks, cs, h, o, k, ho => by
    obtain ⟨c, r, rfl, h1, h2⟩ := h
    cases o with
    | zero =>
      simp only [List.getElem?_cons_zero, Option.some.injEq] at ho
      subst ho
      obtain ⟨a, rfl, hw⟩ := h1
      exact ⟨a, rfl, hw⟩
    | succ o => exact cell_at ks r h2 o k (by simpa using ho)
theorem isEv_in {cs : List Value} (h : AllIs evK cs) : IsEv cs := by
  refine ⟨h.len, fun o ho => ?_, fun o ho => ?_⟩
  · obtain ⟨a, h1, _⟩ := cell_at _ _ h o .i64 (by rcases ho with rfl | rfl | rfl | rfl | rfl | rfl <;> rfl)
    unfold fldI
    rw [h1]
  · obtain ⟨a, h1, h2⟩ := cell_at _ _ h o .u64 (by
      have h1 : o = 3 ∨ o = 4 ∨ o = 5 ∨ o = 6 ∨ o = 7 ∨ o = 8 ∨ o = 9 ∨ o = 10 ∨ o = 11 := by omega
      rcases h1 with rfl | rfl | rfl | rfl | rfl | rfl | rfl | rfl | rfl <;> rfl)
    unfold fldI
    rw [h1]
    have e1 : IntKind.u64.min = 0 := rfl
    have e2 : IntKind.u64.max = 18446744073709551615 := rfl
    simp [Lit.wf, e1, e2] at h2
    exact ⟨rfl, (by omega : (0 : Int) ≤ a), (by omega : a < 18446744073709551616)⟩
theorem one_in : ∀ (ks : List (Option IntKind)) (cs : List Value), AllIs ks cs → ∀ v ∈ cs, v.oneCell' = true
  | [], cs, h, v, hv => by cases h; cases hv
  | q :: ks, cs, h, v, hv => by
    obtain ⟨c, r, rfl, h1, h2⟩ := h
    rcases List.mem_cons.1 hv with rfl | hv
    · cases q with
      | none => obtain ⟨b, rfl⟩ := h1; rfl
      | some k => obtain ⟨a, rfl, _⟩ := h1; rfl
    · exact one_in ks r h2 v hv
end Go.Proofs.YtffmibmefmbdjaaDoor

/- seisinlaw0.SameEvents, where the lists tell the same. -/
-- GU
set_option linter.unusedVariables false
set_option linter.unusedSimpArgs false
namespace Go.Proofs.YtffmibmefmbdjaaDoor
open Go.RowKit
set_option maxRecDepth 20000
set_option pp.deepTerms false
set_option pp.deepTerms.threshold 4

section
variable {P : Program} {ro : Option Nat} {N : Nat} {fr : Fr} {R l : List Chunk} {d : Option Nat} {ty : TypeId} {pos : String} {aft : Array Edge} {g : Option (Nat × Bool)} {x : Operand}
theorem q_sliceP {T e k yb : Nat} {lo hi mx : Option Operand} {p : Option Addr} {n cap l0 h0 m0 n' c' : Nat} (hx : ev fr x = some (.slice p n cap)) [c : ST P T e k yb] (hl : Bnd fr lo 0 l0) (hh : Bnd fr hi n h0) (hm : Bnd fr mx cap m0) (hno : mx.isSome = true → hi.isSome = true) (h1 : l0 ≤ h0) (h2 : h0 ≤ m0) (h3 : m0 ≤ cap)
    (hn : h0 - l0 = n') (hc : m0 - l0 = c') : OpQ P ro N fr R ⟨d, .slice T x lo hi mx, ty, pos, aft, g⟩ (.slice (if m0 = l0 then p else p.map (·.add (l0 * k))) n' c') := opQ_of_sl rfl fun ρ l hρ _ => by
  obtain ⟨inf, u1, u2, u3, _⟩ := stV_spec c.out
  subst hn hc
  simp only [execOp, hρ x _ hx]
  rw [sl_bind]
  unfold Instr.sliceAt
  rw [sl_under u1]
  show sl P (Instr.slice T _ _ _ _) l _
  unfold Instr.slice
  rw [sl_under u1]
  simp only [sl_bind]
  rw [sl_sliceBounds hρ hl hh hm hno h1 h2 h3]
  simp only
  rw [sl_sizeOf' u2]
  simp only [sl_pure, u3]
  simp
end
instance : EQ Tryd.prog 43 evK := ⟨by kernel_rfl⟩
theorem allK_at : ∀ (ks : List IntKind) (cs : List Value), cs.length = ks.length → (∀ (o : Nat) (k : IntKind), ks[o]? = some k → ∃ a, cs[o]? = some (.int k a)) → AllK (ks.map some) cs
  | [], cs, h, _ => List.length_eq_zero_iff.1 h
  | k :: ks, [], h, _ => by simp at h
  | k :: ks, c :: r, h, hc => by
    obtain ⟨a, ha⟩ := hc 0 k rfl
    exact ⟨c, r, rfl, ⟨a, by simpa using ha⟩, allK_at ks r (by simpa using h) fun o q ho => hc (o + 1) q (by simpa using ho)⟩
theorem IsEv.allK {cs : List Value} (h : IsEv cs) : AllK evK cs := by
  refine allK_at [.i64, .i64, .i64, .u64, .u64, .u64, .u64, .u64, .u64, .u64, .u64, .u64, .i64, .i64, .i64] cs h.len fun o k ho => ?_
  have hlt : o < 15 := by
    rcases Nat.lt_or_ge o 15 with h | h
    · exact h
    · rw [List.getElem?_eq_none (by simpa using h)] at ho; cases ho
  have h15 : (o = 0 ∨ o = 1 ∨ o = 2 ∨ o = 12 ∨ o = 13 ∨ o = 14) ∨ (o = 3 ∨ o = 4 ∨ o = 5 ∨ o = 6 ∨ o = 7 ∨ o = 8 ∨ o = 9 ∨ o = 10 ∨ o = 11) := by omega
  rcases h15 with h1 | h1
  · have h2 := h.num o h1
    obtain rfl : k = .i64 := by rcases h1 with rfl | rfl | rfl | rfl | rfl | rfl <;> (cases ho; rfl)
    exact ⟨_, h2⟩
  · have h2 := (h.word o (by omega)).1
    obtain rfl : k = .u64 := by rcases h1 with rfl | rfl | rfl | rfl | rfl | rfl | rfl | rfl | rfl <;> (cases ho; rfl)
    exact ⟨_, h2⟩
set_option maxHeartbeats 1000000 in
theorem sameEvents_any (a a' : Option Addr) (ca ca' : Nat) (es : List (List Value)) (hE : ∀ e ∈ es, IsEv e) (hn : es.length ≤ 1000000) (l : List Chunk) (h1 : InRows l a es.length 15 es) (h2 : InRows l a' es.length 15 es) :
    Fn Tryd.prog 11 [.slice a es.length ca, .slice a' es.length ca'] l fun r l' => r = .bool true ∧ l' = l := by
  refine fn_of_body Tryd.func11 rfl rfl fun E => ?_
  simp only [argF, Tryd.ntmps11]
  refine gzU ?_
  refine k_loop (α := Nat) (fun k => [(0, .slice a es.length ca), (1, .slice a' es.length ca'), (5, .int .i64 k)]) (fun k => l) (fun k => k ≤ es.length) (fun k => es.length - k) 0 (Nat.zero_le _) ⟨rfl, rfl, rfl, trivial⟩ .refl ?_
  rintro k hk2
  by_cases hlt : k < es.length
  · obtain ⟨b, off, cs, t, fz, rfl, hm, hc⟩ := h1 (by omega)
    obtain ⟨b', off', cs', t', fz', rfl, hm', hc'⟩ := h2 (by omega)
    obtain ⟨x, e1⟩ : ∃ x, es[k]? = some x := ⟨_, List.getElem?_eq_getElem hlt⟩
    obtain ⟨g1, g2, _⟩ := hc k x e1
    obtain ⟨g1', g2', _⟩ := hc' k x e1
    have hx := (hE x (List.mem_of_getElem? e1)).allK
    refine gzU ?_
    refine c_draw [(0, true), (1, true), (2, true), (3, true), (4, true), (5, true), (6, true), (7, true), (8, true)] [[], [], [0, 1], [0, 1, 2], [], [], [4, 5], [4, 5, 6], [0, 1, 2, 3, 4, 5, 6, 7]] _ (by kernel_rfl) (by kernel_rfl) zAtt (fun _ h => h) ?_
    refine pzU ?_
    apply pl_q
    · exact q_loadA (n := 15) rfl hm g1 g2
    · rfl
    · rfl
    · rfl
    refine pzU ?_
    apply pl_q
    · exact q_loadA (n := 15) rfl hm' g1' g2'
    · rfl
    · rfl
    · rfl
    refine pzU ?_
    apply pl_q
    · exact q_neself rfl rfl hx
    · rfl
    · rfl
    · rfl
    refine pzU ?_
    refine gzU ?_
    exact k_next (k + 1) (by omega) (by omega) ⟨rfl, rfl, rfl, trivial⟩ .refl
  · obtain rfl : k = es.length := by omega
    refine gzU ?_
    exact k_ret [] rfl .refl (by exact zRes) ⟨rfl, rfl⟩
end Go.Proofs.YtffmibmefmbdjaaDoor

/- ScriptParts. -/
-- GU
set_option linter.unusedVariables false
set_option linter.unusedSimpArgs false
namespace Go.Proofs.YtffmibmefmbdjaaDoor
open Go.RowKit
set_option maxRecDepth 20000
set_option pp.deepTerms false
set_option pp.deepTerms.threshold 4

theorem txt_len {es : List (List Value)} (h : ∀ e ∈ es, IsEv e) : (txt es).length ≤ 177 * es.length := by
  induction es with
  | nil => simp [txt]
  | cons x r ih =>
    have h1 := lineC_len (h x (.head _))
    have h2 := ih fun e he => h e (.tail _ he)
    have e1 : (txt (x :: r)).length = (lineC x).1.length + 1 + (txt r).length := by unfold txt lnOf; simp; omega
    rw [e1, List.length_cons]; omega
/-- the rows behind the first m ones -/
theorem InRows.behind {l : List Chunk} {a : Option Addr} {k : Nat} {xs ys : List (List Value)} (h : InRows l a (xs ++ ys).length k (xs ++ ys)) (hk : 0 < k) {cap : Nat} (hc : (xs ++ ys).length ≤ cap) : InRows l (if cap = xs.length then a else a.map (·.add (xs.length * k))) ys.length k ys := by
  intro h0
  obtain ⟨b, off, cs, t, fz, rfl, hm, hr⟩ := h (by rw [List.length_append]; omega)
  rw [List.length_append] at hc
  rw [if_neg (by omega)]
  refine ⟨b, off + xs.length * k, cs, t, fz, by simp [Addr.add], hm, fun i row hi => ?_⟩
  have := hr (xs.length + i) row (by rw [List.getElem?_append_right (by omega)]; simpa using hi)
  rw [Nat.add_mul, ← Nat.add_assoc] at this
  exact this
theorem linesL_len : ∀ (n : Nat) (s : List UInt8), s.length ≤ n → (linesL s).length ≤ s.length
  | _, [], _ => Nat.le_refl 0
  | 0, c :: r, h => by simp at h
  | n + 1, c :: r, h => by
    rw [linesL_cons (by simp)]
    have h1 := cut_short (s := c :: r) (by simp)
    have h2 := linesL_len n (cutL 10 (c :: r)).2.1 (by omega)
    rw [List.length_cons]
    omega
theorem goL_errLe : ∀ (L : List (List UInt8)) {n : Nat}, goL L = .error n → n ≤ L.length
  | [], n, h => by cases h
  | w :: r, n, h => by
    have h1 : goL (w :: r) = match evOf w with | none => .error 1 | some e => match goL r with | .ok es => .ok (e :: es) | .error n => .error (n + 1) := rfl
    rw [h1] at h
    cases he : evOf w with
    | none => rw [he] at h; cases h; simp
    | some e =>
      rw [he] at h
      cases hg : goL r with
      | ok x => rw [hg] at h; cases h
      | error m =>
        rw [hg] at h
        have := goL_errLe r hg
        cases h
        rw [List.length_cons]; omega
set_option maxHeartbeats 2000000 in
theorem scriptParts_any (a : Option Addr) (cap : Nat) (es : List (List Value)) (hes : ∀ e ∈ es, IsEv e) (h1s : ∀ e ∈ es, ∀ v ∈ e, v.oneCell' = true) (s : List UInt8) (l : List Chunk) (hG : GL l) (hR : InRows l a es.length 15 es) :
    Fn Tryd.prog 7 [.slice a es.length cap, str s] l fun v l' => v = .bool true ∧ ∃ X, l' = X ++ l := by
  refine fn_of_body Tryd.func7 rfl rfl fun E => ?_
  simp only [argF, Tryd.ntmps7]
  by_cases h2 : es.length > 100 ∨ s.length > 20000
  · by_cases h3 : es.length > 100
    · refine gzU ?_
      refine t_e (e_call0 rfl rfl (awake_any l hG)) rfl rfl rfl ?_
      rintro _ _ ⟨rfl, rfl⟩
      refine gzU ?_
      exact k_ret [] rfl .refl (by exact zRes) ⟨rfl, [], rfl⟩
    · have h4 : s.length > 20000 := by omega
      refine gzU ?_
      refine t_e (e_call0 rfl rfl (awake_any l hG)) rfl rfl rfl ?_
      rintro _ _ ⟨rfl, rfl⟩
      refine gzU ?_
      exact k_ret [] rfl .refl (by exact zRes) ⟨rfl, [], rfl⟩
  · have h3 : ¬ es.length > 100 := by omega
    have h4 : ¬ s.length > 20000 := by omega
    refine gzU ?_
    refine t_e (e_call0 rfl rfl (print_any a cap es hes h1s (by omega) _ hG hR)) rfl rfl rfl ?_
    rintro _ lL ⟨rfl, rfl⟩
    by_cases hc : (printR es).2 = 0
    · obtain ⟨p1, p2, p3⟩ := printR_ok hc
      rw [p2]
      unfold lnV
      simp only
      have hlen := txt_len hes
      have hl2 : (txt es ++ s).length ≤ 40000 := by rw [List.length_append]; omega
      obtain ⟨es', g1, g2, g3, g4⟩ := goL_back es (linesL s) (fun e he => ⟨hes e he, prFirst_all p1 e he⟩)
      have g5 := lines_txt es s (prFirst_all p1)
      rw [← g5] at g4
      have hll := linesL_len _ s (Nat.le_refl _)
      refine gzU ?_
      refine t_e (e_call0 rfl rfl (parse_any s (by omega) _ hG)) rfl rfl rfl ?_
      rintro _ _ ⟨sv, c1, rfl, ho, rfl⟩
      refine gzU ?_
      refine t_e (e_call0 rfl rfl (parse_any (txt es ++ s) (by omega) _ (hG.app c1))) rfl rfl rfl ?_
      rintro _ _ ⟨sv2, c2, rfl, ho2, rfl⟩
      cases hg : goL (linesL s) with
      | error n =>
        rw [hg] at g4
        rw [parseR_bad (by omega) hg] at ho ⊢
        rw [parseR_bad (by omega) g4] at ho2 ⊢
        obtain ⟨p, cap, rfl⟩ := ho.shape
        obtain ⟨p2, cap2, rfl⟩ := ho2.shape
        simp only [List.length_nil] at ho ho2 ⊢
        have hn := goL_err _ hg
        have hn2 := goL_errLe _ hg
        rw [g1]
        refine gzU ?_
        refine t_eh (e_call0 rfl rfl (awake_any _ ((hG.app c1).app c2))) rfl rfl rfl ?_
        rintro _ _ ⟨rfl, rfl⟩
        refine gzU ?_
        exact k_ret [] rfl .refl (by exact zRes) ⟨rfl, c2 ++ c1, (List.append_assoc c2 c1 lL).symm⟩
      | ok ea =>
        rw [hg] at g4
        have g4 : goL (linesL (txt es ++ s)) = .ok (es' ++ ea) := g4
        rw [parseR_ok (by omega) hg] at ho ⊢
        rw [parseR_ok (by omega) g4] at ho2 ⊢
        obtain ⟨k1, k2, k3⟩ := goL_ok _ hg
        simp only at ho ho2 ⊢
        obtain ⟨a1, cap1, rfl, hR1⟩ := ho.inRows (fun r hr => (k2 r hr).1.len) lL
        obtain ⟨a2, cap2, rfl, hR2⟩ := ho2.inRows (fun r hr => by
          rcases List.mem_append.1 hr with hr | hr
          · exact (g3 r hr).1.len
          · exact (k2 r hr).1.len) (c1 ++ lL)
        have hcap : (es' ++ ea).length ≤ cap2 := by
          rcases ho2.2 with ⟨h, h0, _⟩ | ⟨b, cap, sp, h, _, h2, _⟩
          · simp only [Value.slice.injEq] at h; omega
          · simp only [Value.slice.injEq] at h; omega
        have hR3 := hR2.behind (by decide) hcap
        have hR1' : InRows (c2 ++ (c1 ++ lL)) a1 ea.length 15 ea := fun h0 => by
          obtain ⟨b, off, cs, t, fz, q1, q2, q3⟩ := hR1 h0
          exact ⟨b, off, cs, t, fz, q1, List.mem_append_right _ q2, q3⟩
        rw [g1] at hR3
        have hle : (es' ++ ea).length = es.length + ea.length := by rw [List.length_append, g1]
        rw [hle] at hcap ⊢
        refine gzU ?_
        refine t_gq (q_sliceP (l0 := es.length) (h0 := es.length + ea.length) (m0 := cap2) (n' := ea.length) (c' := cap2 - es.length) rfl (.some rfl (by omega) rfl) .none .none (by simp) (by omega) hcap (by omega) (by omega) rfl) rfl rfl rfl rfl rfl rfl ?_
        refine gzU ?_
        refine t_eh (e_call0 rfl rfl (sameEvents_any _ _ _ _ ea (fun e he => (k2 e he).1) (by omega) _ hR3 hR1')) rfl rfl rfl ?_
        rintro _ _ ⟨rfl, rfl⟩
        refine gzU ?_
        refine t_eh (e_call0 rfl rfl (awake_any _ ((hG.app c1).app c2))) rfl rfl rfl ?_
        rintro _ _ ⟨rfl, rfl⟩
        refine gzU ?_
        exact k_ret [] rfl .refl (by exact zRes) ⟨rfl, c2 ++ c1, (List.append_assoc c2 c1 lL).symm⟩
    · rw [printR_bad hc]
      unfold lnV
      simp only
      refine gzU ?_
      refine t_e (e_call0 rfl rfl (awake_any _ hG)) rfl rfl rfl ?_
      rintro _ _ ⟨rfl, rfl⟩
      refine gzU ?_
      exact k_ret [] rfl .refl (by exact zRes) ⟨rfl, [], rfl⟩
end Go.Proofs.YtffmibmefmbdjaaDoor

/- ref35: Line and Print. -/
-- GU
set_option linter.unusedVariables false
set_option linter.unusedSimpArgs false
namespace Go.Proofs.YtffmibmefmbdjaaDoor
open Go.RowKit
set_option maxRecDepth 20000
set_option pp.deepTerms false
set_option pp.deepTerms.threshold 4

theorem isEv_T {cs : List Value} (h : IsEv cs) : ∃ e : EvT, cs = e.cells := by
  have hl := h.len
  obtain ⟨c0, c1, c2, c3, c4, c5, c6, c7, c8, c9, c10, c11, c12, c13, c14, rfl⟩ : ∃ c0 c1 c2 c3 c4 c5 c6 c7 c8 c9 c10 c11 c12 c13 c14, cs = [c0, c1, c2, c3, c4, c5, c6, c7, c8, c9, c10, c11, c12, c13, c14] := by
    rcases cs with _ | ⟨c0, _ | ⟨c1, _ | ⟨c2, _ | ⟨c3, _ | ⟨c4, _ | ⟨c5, _ | ⟨c6, _ | ⟨c7, _ | ⟨c8, _ | ⟨c9, _ | ⟨c10, _ | ⟨c11, _ | ⟨c12, _ | ⟨c13, _ | ⟨c14, _ | ⟨c15, r⟩⟩⟩⟩⟩⟩⟩⟩⟩⟩⟩⟩⟩⟩⟩⟩
    all_goals first | exact ⟨_, _, _, _, _, _, _, _, _, _, _, _, _, _, _, rfl⟩ | (simp at hl)
  have g : ∀ o, o = 0 ∨ o = 1 ∨ o = 2 ∨ o = 12 ∨ o = 13 ∨ o = 14 → ∃ x : Int, ([c0, c1, c2, c3, c4, c5, c6, c7, c8, c9, c10, c11, c12, c13, c14] : List Value)[o]? = some (.int .i64 x) := fun o ho => ⟨_, h.num o ho⟩
  have w : ∀ o, 3 ≤ o ∧ o ≤ 11 → ∃ n : Nat, ([c0, c1, c2, c3, c4, c5, c6, c7, c8, c9, c10, c11, c12, c13, c14] : List Value)[o]? = some (.int .u64 (n : Nat)) := fun o ho => by
    obtain ⟨h1, h2, _⟩ := h.word o ho
    exact ⟨(fldI _ o).toNat, by rw [h1, Int.toNat_of_nonneg h2]⟩
  obtain ⟨x0, e0⟩ := g 0 (by omega)
  obtain ⟨x1, e1⟩ := g 1 (by omega)
  obtain ⟨x2, e2⟩ := g 2 (by omega)
  obtain ⟨x3, e3⟩ := w 3 (by omega)
  obtain ⟨x4, e4⟩ := w 4 (by omega)
  obtain ⟨x5, e5⟩ := w 5 (by omega)
  obtain ⟨x6, e6⟩ := w 6 (by omega)
  obtain ⟨x7, e7⟩ := w 7 (by omega)
  obtain ⟨x8, e8⟩ := w 8 (by omega)
  obtain ⟨x9, e9⟩ := w 9 (by omega)
  obtain ⟨x10, e10⟩ := w 10 (by omega)
  obtain ⟨x11, e11⟩ := w 11 (by omega)
  obtain ⟨x12, e12⟩ := g 12 (by omega)
  obtain ⟨x13, e13⟩ := g 13 (by omega)
  obtain ⟨x14, e14⟩ := g 14 (by omega)
  obtain rfl : c0 = _ := by simpa using e0
  obtain rfl : c1 = _ := by simpa using e1
  obtain rfl : c2 = _ := by simpa using e2
  obtain rfl : c3 = _ := by simpa using e3
  obtain rfl : c4 = _ := by simpa using e4
  obtain rfl : c5 = _ := by simpa using e5
  obtain rfl : c6 = _ := by simpa using e6
  obtain rfl : c7 = _ := by simpa using e7
  obtain rfl : c8 = _ := by simpa using e8
  obtain rfl : c9 = _ := by simpa using e9
  obtain rfl : c10 = _ := by simpa using e10
  obtain rfl : c11 = _ := by simpa using e11
  obtain rfl : c12 = _ := by simpa using e12
  obtain rfl : c13 = _ := by simpa using e13
  obtain rfl : c14 = _ := by simpa using e14
  exact ⟨⟨x0, x1, x2, x3, x4, x5, x6, x7, x8, x9, x10, x11, x12, x13, x14⟩, rfl⟩
def pnK (k : Int) : List (Nat × Bool) := (pts k).filter fun p => !p.2
def pwK (k : Int) : List (Nat × Bool) := (pts k).filter fun p => p.2
theorem pnw (k : Int) : pts k = pnK k ++ pwK k := by
  unfold pnK pwK pts
  repeat' split
  all_goals decide
theorem ns_fld (e : EvT) : nsE e = (pnK e.kd).map fun p => fldI e.cells p.1 := by
  unfold nsE pnK pts
  repeat' split
  all_goals first | rfl | simp
theorem ws_fld (e : EvT) : (wsE e).map (fun n => ((n : Nat) : Int)) = (pwK e.kd).map fun p => fldI e.cells p.1 := by
  unfold wsE pwK pts
  repeat' split
  all_goals first | rfl | simp
theorem pn_f {k : Int} {p : Nat × Bool} (h : p ∈ pnK k) : p.2 = false := by simpa using (List.mem_filter.1 h).2
theorem pw_t {k : Int} {p : Nat × Bool} (h : p ∈ pwK k) : p.2 = true := by simpa using (List.mem_filter.1 h).2
theorem OwnSl.at1 {e n : Nat} {v : Value} {xs : List Value} {cs : List Chunk} (h : OwnSl e 1 v n xs cs) : ∃ a cap, v = .slice a n cap ∧ (0 < n → ∃ b cells t fz, a = some ⟨b, 0, none⟩ ∧ (b, Obj.cells (List.toArray cells) t fz) ∈ cs ∧ ∀ (i : Nat) (x : Value), xs[i]? = some x → (cells : List Value)[i]? = some x) := by
  rcases h.2 with ⟨rfl, rfl, rfl⟩ | ⟨b, cap, sp, rfl, rfl, _⟩
  · exact ⟨none, 0, rfl, fun h => by omega⟩
  · refine ⟨_, cap, rfl, fun _ => ⟨b, _, e, (0, 0), rfl, .head _, fun i x hx => ?_⟩⟩
    rw [List.getElem?_append_left (List.getElem?_eq_some_iff.1 hx).1]; exact hx
theorem lineGo_step {cs : List Value} {s : List UInt8} {p : Nat × Bool} {ps : List (Nat × Bool)} (h : p.2 = false → 0 ≤ fldI cs p.1 ∧ fldI cs p.1 ≤ 999999) : lineGo cs s (p :: ps) = lineGo cs (s ++ (32 :: Lib.decDigits (fldI cs p.1).toNat)) ps := by
  show (if p.2 = false ∧ ¬ (0 ≤ fldI cs p.1 ∧ fldI cs p.1 ≤ 999999) then ([], 3) else lineGo cs (s ++ (32 :: Lib.decDigits (fldI cs p.1).toNat)) ps) = _
  rw [if_neg fun ⟨h1, h2⟩ => h2 (h h1)]
theorem lineGo_bad {cs : List Value} {s : List UInt8} {p : Nat × Bool} {ps : List (Nat × Bool)} (h : p.2 = false) (h2 : ¬ (0 ≤ fldI cs p.1 ∧ fldI cs p.1 ≤ 999999)) : lineGo cs s (p :: ps) = ([], 3) := by
  show (if p.2 = false ∧ ¬ (0 ≤ fldI cs p.1 ∧ fldI cs p.1 ≤ 999999) then ([], 3) else lineGo cs (s ++ (32 :: Lib.decDigits (fldI cs p.1).toNat)) ps) = _
  rw [if_pos ⟨h, h2⟩]
theorem drop_at {α : Type} {l : List α} {i : Nat} (h : i < l.length) : ∃ x, l[i]? = some x ∧ l.drop i = x :: l.drop (i + 1) ∧ x ∈ l :=
  ⟨l[i], List.getElem?_eq_getElem h, List.drop_eq_getElem_cons h, List.getElem_mem h⟩
set_option maxHeartbeats 2000000 in
theorem rline_any (cs : List Value) (hE : IsEv cs) (l : List Chunk) : Fn Tryd.prog 17 [.agg (List.toArray cs)] l fun v l' => v = lnV (lineC cs) ∧ ∃ X, l' = X ++ l := by
  obtain ⟨e, rfl⟩ := isEv_T hE
  have hk0 : fldI e.cells 0 = e.kd := rfl
  have hfn := ns_fld e
  have hfw := ws_fld e
  have hpn := pnw e.kd
  generalize hcs : e.cells = cs at *
  have hlen := hE.len
  refine fn_of_body Tryd.func17 rfl rfl fun E => ?_
  simp only [argF, Tryd.ntmps17]
  refine gzU ?_
  refine t_e (e_boxA rfl) rfl rfl rfl ?_
  rintro _ _ ⟨b1, hb1, rfl, rfl⟩
  refine gzU ?_
  refine t_q (q_loadA (n := 15) (off := 0) (wc := List.toArray cs) rfl (.head _) (by simp [hlen]) (by simp [hlen, List.take_of_length_le])) rfl rfl rfl ?_
  rw [← hcs]
  refine t_e (e_call0 rfl rfl (rparts_any e _)) rfl rfl rfl ?_
  rw [hcs]
  rintro _ _ ⟨nv, wv, c1, c2, rfl, hn, hw, rfl⟩
  obtain ⟨an, cn, rfl, hnq⟩ := hn.at1
  obtain ⟨aw, cw, rfl, hwq⟩ := hw.at1
  have hnl : (nsE e).length = (pnK e.kd).length := by rw [hfn, List.length_map]
  have hwl : (wsE e).length = (pwK e.kd).length := by have := congrArg List.length hfw; simpa using this
  have hpl := pts_len e.kd
  rw [hpn, List.length_append] at hpl
  have hnml := nm_len e.kd
  have hX : ∃ X, c1 ++ (c2 ++ ((b1, Obj.cells (List.toArray cs) 43 (0, 0)) :: l)) = X ++ l := ⟨c1 ++ (c2 ++ [(b1, Obj.cells (List.toArray cs) 43 (0, 0))]), by simp⟩
  by_cases hk : 1 ≤ e.kd ∧ e.kd ≤ 6
  · have hl0 : lineC cs = lineGo cs (nm e.kd) (pnK e.kd ++ pwK e.kd) := by unfold lineC; rw [hk0, if_pos hk, hpn]
    have hne : ¬ nm e.kd = [] := by
      have h1 : e.kd = 1 ∨ e.kd = 2 ∨ e.kd = 3 ∨ e.kd = 4 ∨ e.kd = 5 ∨ e.kd = 6 := by omega
      rcases h1 with h | h | h | h | h | h <;> rw [h] <;> decide
    refine gzU ?_
    rw [decide_eq_false hne]
    refine gzU ?_
    refine k_loop (α := Nat × List UInt8) (fun x => [(4, str x.2), (5, .slice an (nsE e).length cn), (6, .slice aw (wsE e).length cw), (7, .int .i64 x.1)]) (fun x => c1 ++ (c2 ++ ((b1, .cells (List.toArray cs) 43 (0, 0)) :: l)))
      (fun x => x.1 ≤ (pnK e.kd).length ∧ x.2.length ≤ 8 + 21 * x.1 ∧ lineC cs = lineGo cs x.2 ((pnK e.kd).drop x.1 ++ pwK e.kd)) (fun x => (pnK e.kd).length - x.1) (0, nm e.kd) ⟨by simp only; omega, by simp only; omega, hl0⟩ ⟨rfl, rfl, rfl, rfl, trivial⟩ .refl ?_
    rintro ⟨i, t⟩ ⟨hi, ht, hgo⟩
    simp only at hi ht hgo ⊢
    by_cases hlt : i < (pnK e.kd).length
    · obtain ⟨p, q1, q2, q3⟩ := drop_at hlt
      obtain ⟨bn, cells, ct, fz, rfl, hm, hc⟩ := hnq (by omega)
      have hm' := List.mem_append_left (c2 ++ ((b1, .cells (List.toArray cs) 43 (0, 0)) :: l)) hm
      have hx : cells[i]? = some (.int .i64 (fldI cs p.1)) := hc i _ (by rw [hfn, List.getElem?_map, List.getElem?_map, q1]; rfl)
      have hx2 : (List.toArray cells)[i * 1]? = some (.int .i64 (fldI cs p.1)) := by simpa using hx
      rw [q2, List.cons_append] at hgo
      have hpf := pn_f q3
      by_cases hr : 0 ≤ fldI cs p.1 ∧ fldI cs p.1 ≤ 999999
      · rw [lineGo_step fun _ => hr] at hgo
        obtain ⟨n, hn1⟩ : ∃ n : Nat, fldI cs p.1 = n := ⟨(fldI cs p.1).toNat, by omega⟩
        rw [hn1] at hx2 hr hgo
        rw [Int.toNat_natCast] at hgo
        have hdl := dec_len n (by omega)
        refine gzU ?_
        refine t_e (e_call0 rfl rfl (decimal_any n (by omega) _)) rfl rfl rfl ?_
        rintro _ _ ⟨rfl, rfl⟩
        refine gzU ?_
        exact k_next (i + 1, (t ++ [32]) ++ Lib.decDigits n) ⟨by simp only; omega, by simp only [List.length_append, List.length_cons, List.length_nil]; omega, by simp only; rw [List.append_assoc]; exact hgo⟩ (by simp only; omega) ⟨rfl, rfl, rfl, rfl, trivial⟩ .refl
      · rw [lineGo_bad hpf hr] at hgo
        by_cases hr2 : fldI cs p.1 < 0
        · refine gzU ?_
          exact k_ret [] rfl .refl (by exact zRes) ⟨by rw [hgo]; rfl, hX⟩
        · have hr3 : fldI cs p.1 > 999999 := by omega
          refine gzU ?_
          exact k_ret [] rfl .refl (by exact zRes) ⟨by rw [hgo]; rfl, hX⟩
    · obtain rfl : i = (pnK e.kd).length := by omega
      rw [List.drop_length, List.nil_append] at hgo
      refine gzU ?_
      refine k_loop (α := Nat × List UInt8) (fun x => [(4, str x.2), (6, .slice aw (wsE e).length cw), (8, .int .i64 x.1)]) (fun x => c1 ++ (c2 ++ ((b1, .cells (List.toArray cs) 43 (0, 0)) :: l)))
        (fun x => x.1 ≤ (pwK e.kd).length ∧ x.2.length ≤ 8 + 21 * (pnK e.kd).length + 21 * x.1 ∧ lineC cs = lineGo cs x.2 ((pwK e.kd).drop x.1)) (fun x => (pwK e.kd).length - x.1) (0, t) ⟨by simp only; omega, by simp only; omega, hgo⟩ ⟨rfl, rfl, rfl, trivial⟩ .refl ?_
      rintro ⟨j, t2⟩ ⟨hj, ht2, hgo2⟩
      simp only at hj ht2 hgo2 ⊢
      by_cases hlt2 : j < (pwK e.kd).length
      · obtain ⟨p, q1, q2, q3⟩ := drop_at hlt2
        obtain ⟨bn, cells, ct, fz, rfl, hm, hc⟩ := hwq (by omega)
        have hm' := List.mem_append_right c1 (List.mem_append_left ((b1, .cells (List.toArray cs) 43 (0, 0)) :: l) hm)
        have hpt := pw_t q3
        obtain ⟨n, hn1, hn2⟩ : ∃ n : Nat, (wsE e)[j]? = some n ∧ fldI cs p.1 = n := by
          have h1 := congrArg (fun z => z[j]?) hfw
          simp only [List.getElem?_map, q1] at h1
          cases hz : (wsE e)[j]? with
          | none => rw [hz] at h1; cases h1
          | some n => rw [hz] at h1; exact ⟨n, rfl, by simpa using h1.symm⟩
        have hx : cells[j]? = some (.int .u64 (n : Nat)) := hc j _ (by rw [List.getElem?_map, hn1]; rfl)
        have hx2 : (List.toArray cells)[j * 1]? = some (.int .u64 (n : Nat)) := by simpa using hx
        have hnb : n < 18446744073709551616 := by
          have hpm : p ∈ pts e.kd := by rw [hpn]; exact List.mem_append_right _ q3
          rcases pts_mem hpm with ⟨h3, _⟩ | ⟨h3, h4⟩
          · rw [hpt] at h3; cases h3
          · have := (hE.word p.1 h4).2; omega
        rw [q2, lineGo_step (fun h => by rw [hpt] at h; cases h), hn2, Int.toNat_natCast] at hgo2
        have hdl := dec_len n hnb
        refine gzU ?_
        refine t_e (e_call0 rfl rfl (decimal_any n hnb _)) rfl rfl rfl ?_
        rintro _ _ ⟨rfl, rfl⟩
        refine gzU ?_
        exact k_next (j + 1, (t2 ++ [32]) ++ Lib.decDigits n) ⟨by simp only; omega, by simp only [List.length_append, List.length_cons, List.length_nil]; omega, by simp only; rw [List.append_assoc]; exact hgo2⟩ (by simp only; omega) ⟨rfl, rfl, rfl, trivial⟩ .refl
      · obtain rfl : j = (pwK e.kd).length := by omega
        rw [List.drop_length] at hgo2
        refine gzU ?_
        exact k_ret [] rfl .refl (by exact zRes) ⟨by rw [hgo2]; rfl, hX⟩
  · have hnm : nm e.kd = [] := by
      unfold nm
      rw [if_neg (by omega), if_neg (by omega), if_neg (by omega), if_neg (by omega), if_neg (by omega), if_neg (by omega)]
    have hl0 : lineC cs = ([], 2) := by unfold lineC; rw [hk0, if_neg hk]
    rw [hnm]
    refine gzU ?_
    rw [decide_eq_true (rfl : ([] : List UInt8) = [])]
    refine gzU ?_
    exact k_ret [] rfl .refl (by exact zRes) ⟨by rw [hl0]; rfl, hX⟩
end Go.Proofs.YtffmibmefmbdjaaDoor

/- ref35: Split, numbers, words. -/
-- GU
set_option linter.unusedVariables false
set_option linter.unusedSimpArgs false
namespace Go.Proofs.YtffmibmefmbdjaaDoor
open Go.RowKit
set_option maxRecDepth 20000
set_option pp.deepTerms false
set_option pp.deepTerms.threshold 4

theorem split_no {c : UInt8} : ∀ (t : List UInt8), (∀ x ∈ t, x ≠ c) → splitL c t = [t]
  | [], _ => rfl
  | x :: r, h => by
    show (if x = c then [] :: splitL c r else match splitL c r with | w :: ws => (x :: w) :: ws | [] => [[x]]) = _
    rw [if_neg (h x (.head _)), split_no r fun y hy => h y (.tail _ hy)]
theorem split_at {c : UInt8} : ∀ (m : Nat) (t : List UInt8), (∀ j, j < m → t.getD j 0 ≠ c) → m < t.length → t.getD m 0 = c → splitL c t = t.take m :: splitL c (t.drop (m + 1))
  | _, [], _, h, _ => by simp at h
  | 0, x :: r, _, _, h => by
    show (if x = c then [] :: splitL c r else match splitL c r with | w :: ws => (x :: w) :: ws | [] => [[x]]) = _
    rw [if_pos (by simpa using h)]; rfl
  | m + 1, x :: r, h, hm, hc => by
    show (if x = c then [] :: splitL c r else match splitL c r with | w :: ws => (x :: w) :: ws | [] => [[x]]) = _
    rw [if_neg (by simpa using h 0 (by omega)), split_at m r (fun j hj => by simpa using h (j + 1) (by omega)) (by simpa using hm) (by simpa using hc)]
    rfl
theorem getD_drop {s : List UInt8} {a j : Nat} : (s.drop a).getD j 0 = s.getD (a + j) 0 := by
  rw [List.getD_eq_getElem?_getD, List.getElem?_drop, ← List.getD_eq_getElem?_getD]
theorem split_len (c : UInt8) (s : List UInt8) : (splitL c s).length ≤ s.length + 1 := by
  induction s with
  | nil => exact Nat.le_refl _
  | cons x r ih =>
    have e1 : splitL c (x :: r) = if x = c then [] :: splitL c r else match splitL c r with | w :: ws => (x :: w) :: ws | [] => [[x]] := rfl
    rw [e1]
    split
    · simpa using ih
    · cases h : splitL c r with
      | nil => simp
      | cons w ws => rw [h] at ih; simp at ih ⊢; omega
set_option maxHeartbeats 2000000 in
theorem split_any (s : List UInt8) (c : UInt8) (hs : s.length ≤ 100000) (l : List Chunk) : Fn Tryd.prog 20 [str s, .int .u8 (c.toNat : Nat)] l fun v l' => ∃ c1, OwnSl 9 1 v (splitL c s).length ((splitL c s).map str) c1 ∧ l' = c1 ++ l := by
  refine fn_of_body Tryd.func20 rfl rfl fun E => ?_
  simp only [argF, Tryd.ntmps20]
  refine gzU ?_
  refine k_loop (α := Nat × Nat × List (List UInt8) × Value × List Chunk) (fun x => [(0, str s), (1, .int .u8 (c.toNat : Nat)), (5, x.2.2.2.1), (6, .int .i64 x.2.1), (7, .int .i64 x.1)]) (fun x => x.2.2.2.2 ++ l)
    (fun x => OwnSl 9 1 x.2.2.2.1 x.2.2.1.length (x.2.2.1.map str) x.2.2.2.2 ∧ x.1 ≤ s.length + 1 ∧ x.2.2.1.length ≤ x.1 ∧ (x.1 ≤ s.length → x.2.1 ≤ x.1 ∧ (∀ j, x.2.1 ≤ j → j < x.1 → s.getD j 0 ≠ c) ∧ splitL c s = x.2.2.1 ++ splitL c (s.drop x.2.1)) ∧ (x.1 = s.length + 1 → splitL c s = x.2.2.1)) (fun x => s.length + 1 - x.1)
    (0, 0, [], .slice none 0 0, []) ⟨OwnSl.nil _ _, by simp, by simp, fun _ => ⟨by simp, fun j _ hj => by simp at hj, rfl⟩, fun h => by simp at h⟩ ⟨rfl, rfl, rfl, rfl, rfl, trivial⟩ .refl ?_
  rintro ⟨i, a, ws, v, c1⟩ ⟨ho, hi, hwl, h1, h2⟩
  simp only at ho hi hwl h1 h2 ⊢
  have hv1 : v.oneCell' = true := ho.one
  by_cases hlt : i ≤ s.length
  · obtain ⟨ha, hj, hsp⟩ := h1 hlt
    have next : ∀ (w : List UInt8), (s.drop a).take (i - a) = w → (i = s.length ∨ s.getD i 0 = c) → (i + 1 ≤ s.length → i + 1 ≤ i + 1 ∧ (∀ j, i + 1 ≤ j → j < i + 1 → s.getD j 0 ≠ c) ∧ splitL c s = (ws ++ [w]) ++ splitL c (s.drop (i + 1))) ∧ (i + 1 = s.length + 1 → splitL c s = ws ++ [w]) := by
      rintro w rfl hic
      refine ⟨fun h => ⟨by omega, fun j hj1 hj2 => by omega, ?_⟩, fun h => ?_⟩
      · have hc : s.getD i 0 = c := hic.resolve_left (by omega)
        rw [hsp, split_at (i - a) (s.drop a) (fun j hjl => by rw [getD_drop]; exact hj _ (by omega) (by omega)) (by rw [List.length_drop]; omega) (by rw [getD_drop, show a + (i - a) = i by omega]; exact hc), List.drop_drop, show a + (i - a + 1) = i + 1 by omega]
        simp
      · obtain rfl : i = s.length := by omega
        rw [hsp, split_no, List.take_of_length_le (by rw [List.length_drop]; omega)]
        intro x hx
        obtain ⟨k, hk, rfl⟩ := List.getElem_of_mem hx
        rw [List.length_drop] at hk
        have := hj (a + k) (by omega) (by omega)
        rw [← getD_drop, List.getD_eq_getElem?_getD, List.getElem?_eq_getElem (by rw [List.length_drop]; omega)] at this
        exact this
    by_cases he : i = s.length
    · have hn := next _ rfl (.inl he)
      refine gzU ?_
      refine t_q (q_sliceS (l0 := a) (h0 := i) rfl (.some rfl (by omega) (by omega)) (.some rfl (by omega) (by omega)) (by omega) (by omega)) rfl rfl rfl ?_
      refine t_e (e_lit1 (z0 := str []) rfl rfl) rfl rfl rfl ?_
      rintro _ _ ⟨bl, hbl, rfl, rfl⟩
      refine t_e (e_appX (k := 1) (X := []) (cs := c1) (F := l) (n := ws.length) (xs := ws.map str) (zs := [str []]) rfl rfl rfl ho rfl (by simp [Value.oneCell']) (by omega) (by decide)) rfl rfl rfl ?_
      rintro v2 _ ⟨c2, ho2, rfl⟩
      have hv2 : v2.oneCell' = true := ho2.one
      refine gzU ?_
      exact k_next (i + 1, i + 1, ws ++ [(s.drop a).take (i - a)], v2, c2) ⟨by simp only [List.length_append, List.length_cons, List.length_nil, List.map_append, List.map_cons, List.map_nil]; exact ho2, by simp only; omega, by simp only [List.length_append, List.length_cons, List.length_nil]; omega, hn.1, hn.2⟩ (by simp only; omega) ⟨rfl, rfl, rfl, rfl, rfl, trivial⟩ .refl
    · by_cases hc : s.getD i 0 = c
      · have hn := next _ rfl (.inr hc)
        have hcn : (s.getD i 0).toNat = c.toNat := by rw [hc]
        refine gzU ?_
        refine t_q (q_sliceS (l0 := a) (h0 := i) rfl (.some rfl (by omega) (by omega)) (.some rfl (by omega) (by omega)) (by omega) (by omega)) rfl rfl rfl ?_
        refine t_e (e_lit1 (z0 := str []) rfl rfl) rfl rfl rfl ?_
        rintro _ _ ⟨bl, hbl, rfl, rfl⟩
        refine t_e (e_appX (k := 1) (X := []) (cs := c1) (F := l) (n := ws.length) (xs := ws.map str) (zs := [str []]) rfl rfl rfl ho rfl (by simp [Value.oneCell']) (by omega) (by decide)) rfl rfl rfl ?_
        rintro v2 _ ⟨c2, ho2, rfl⟩
        have hv2 : v2.oneCell' = true := ho2.one
        refine gzU ?_
        exact k_next (i + 1, i + 1, ws ++ [(s.drop a).take (i - a)], v2, c2) ⟨by simp only [List.length_append, List.length_cons, List.length_nil, List.map_append, List.map_cons, List.map_nil]; exact ho2, by simp only; omega, by simp only [List.length_append, List.length_cons, List.length_nil]; omega, hn.1, hn.2⟩ (by simp only; omega) ⟨rfl, rfl, rfl, rfl, rfl, trivial⟩ .refl
      · have hcn : ¬ (s.getD i 0).toNat = c.toNat := fun e => hc (UInt8.toNat_inj.1 e)
        refine gzU ?_
        exact k_next (i + 1, a, ws, v, c1) ⟨ho, by simp only; omega, by simp only; omega, fun h => ⟨by simp only; omega, fun j hj1 hj2 => by
          by_cases e : j = i
          · subst e; exact hc
          · exact hj j hj1 (by simp only at hj2; omega), hsp⟩, fun h => by simp only at h; omega⟩ (by simp only; omega) ⟨rfl, rfl, rfl, rfl, rfl, trivial⟩ .refl
  · have := h2 (by omega)
    refine gzU ?_
    refine k_ret [] rfl .refl (by exact zRes) ⟨c1, ?_, rfl⟩
    rw [this]; exact ho
end Go.Proofs.YtffmibmefmbdjaaDoor

/- ref35: numbers, words. -/
-- GU
set_option linter.unusedVariables false
set_option linter.unusedSimpArgs false
namespace Go.Proofs.YtffmibmefmbdjaaDoor
open Go.RowKit
set_option maxRecDepth 20000
set_option pp.deepTerms false
set_option pp.deepTerms.threshold 4

/-- a slice of texts that can be read in l -/
def StrIn (l : List Chunk) (a : Option Addr) (ws : List (List UInt8)) : Prop :=
  0 < ws.length → ∃ b off cells ct fz, a = some ⟨b, off, none⟩ ∧ (b, Obj.cells (List.toArray cells) ct fz) ∈ l ∧ ∀ (i : Nat) (w : List UInt8), ws[i]? = some w → (List.toArray cells)[off + i * 1]? = some (str w)
theorem StrIn.app {l : List Chunk} {a : Option Addr} {ws : List (List UInt8)} (h : StrIn l a ws) (X : List Chunk) : StrIn (X ++ l) a ws := fun h0 => by
  obtain ⟨b, off, cells, ct, fz, e, hm, hc⟩ := h h0
  exact ⟨b, off, cells, ct, fz, e, List.mem_append_right _ hm, hc⟩
noncomputable def rdAll (f : List UInt8 → Option Nat) : List (List UInt8) → Option (List Nat)
  | [] => some []
  | w :: r => match f w with
    | some n => (rdAll f r).map (n :: ·)
    | none => none
theorem rdAll_step {f : List UInt8 → Option Nat} {w : List UInt8} {r : List (List UInt8)} {n : Nat} {ns : List Nat} (h : f w = some n) : (rdAll f (w :: r)).map (ns ++ ·) = (rdAll f r).map ((ns ++ [n]) ++ ·) := by
  show (match f w with | some n => (rdAll f r).map (n :: ·) | none => none).map (ns ++ ·) = _
  rw [h]
  cases rdAll f r with
  | none => rfl
  | some x => simp
theorem rdAll_bad {f : List UInt8 → Option Nat} {w : List UInt8} {r : List (List UInt8)} (h : f w = none) : rdAll f (w :: r) = none := by
  show (match f w with | some n => (rdAll f r).map (n :: ·) | none => none) = _
  rw [h]
def numsQ (ws : List (List UInt8)) (l : List Chunk) (v : Value) (l' : List Chunk) : Prop :=
  match rdAll (fun w => rdL w 999999) ws with
  | some ns => ∃ sv c1, v = .tuple #[sv, .bool true] ∧ OwnSl 3 1 sv ns.length (ns.map fun n => Value.int .i64 (n : Nat)) c1 ∧ l' = c1 ++ l
  | none => v = .tuple #[.slice none 0 0, .bool false] ∧ ∃ X, l' = X ++ l
set_option maxHeartbeats 2000000 in
theorem nums_any (a : Option Addr) (cap : Nat) (ws : List (List UInt8)) (hw : ∀ w ∈ ws, w.length ≤ 100000) (hn : ws.length ≤ 100001) (l : List Chunk) (hR : StrIn l a ws) : Fn Tryd.prog 32 [.slice a ws.length cap] l (numsQ ws l) := by
  refine fn_of_body Tryd.func32 rfl rfl fun E => ?_
  simp only [argF, Tryd.ntmps32]
  refine gzU ?_
  refine k_loop (α := Nat × List Nat × Value × List Chunk) (fun x => [(0, .slice a ws.length cap), (4, x.2.2.1), (5, .int .i64 x.1)]) (fun x => x.2.2.2 ++ l)
    (fun x => x.1 ≤ ws.length ∧ x.2.1.length = x.1 ∧ OwnSl 3 1 x.2.2.1 x.2.1.length (x.2.1.map fun n => Value.int .i64 (n : Nat)) x.2.2.2 ∧ rdAll (fun w => rdL w 999999) ws = (rdAll (fun w => rdL w 999999) (ws.drop x.1)).map (x.2.1 ++ ·)) (fun x => ws.length - x.1)
    (0, [], .slice none 0 0, []) ⟨by simp, rfl, OwnSl.nil _ _, by simp⟩ ⟨rfl, rfl, rfl, trivial⟩ .refl ?_
  rintro ⟨i, ns, v, c1⟩ ⟨hi, hl, ho, hg⟩
  simp only at hi hl ho hg ⊢
  have hv1 : v.oneCell' = true := ho.one
  by_cases hlt : i < ws.length
  · obtain ⟨w, q1, q2, q3⟩ := drop_at hlt
    obtain ⟨b, off, cells, ct, fz, rfl, hm, hc⟩ := hR (by omega)
    have hx := hc i w q1
    have hm' := List.mem_append_right c1 hm
    rw [q2] at hg
    refine gzU ?_
    refine t_e (e_call0 rfl rfl (numb_any w (hw w q3) _)) rfl rfl rfl ?_
    rintro _ _ ⟨hv, rfl⟩
    unfold NumbV at hv
    subst hv
    cases hr : rdL w 999999 with
    | none =>
      refine gzU ?_
      refine k_ret [] rfl .refl (by exact zRes) ?_
      unfold numsQ
      rw [hg, rdAll_bad hr]
      exact ⟨rfl, c1, rfl⟩
    | some n =>
      simp only [Option.getD_some, Option.isSome_some]
      refine gzU ?_
      refine t_e (e_lit1 (z0 := .int .i64 0) rfl rfl) rfl rfl rfl ?_
      rintro _ _ ⟨bl, hbl, rfl, rfl⟩
      refine t_e (e_appX (k := 1) (X := []) (cs := c1) (F := l) (n := ns.length) (xs := ns.map fun n => Value.int .i64 (n : Nat)) (zs := [.int .i64 0]) rfl rfl rfl ho rfl (by simp [Value.oneCell']) (by omega) (by decide)) rfl rfl rfl ?_
      rintro v2 _ ⟨c2, ho2, rfl⟩
      have hv2 : v2.oneCell' = true := ho2.one
      refine gzU ?_
      exact k_next (i + 1, ns ++ [n], v2, c2) ⟨by simp only; omega, by simp [hl], by simp only [List.length_append, List.length_cons, List.length_nil, List.map_append, List.map_cons, List.map_nil]; exact ho2, hg.trans (rdAll_step hr)⟩ (by simp only; omega) ⟨rfl, rfl, rfl, trivial⟩ .refl
  · obtain rfl : i = ws.length := by omega
    rw [List.drop_length] at hg
    refine gzU ?_
    refine k_ret [] rfl .refl (by exact zRes) ?_
    unfold numsQ
    rw [hg.trans (show (rdAll (fun w => rdL w 999999) []).map (ns ++ ·) = some ns by show some (ns ++ []) = _; rw [List.append_nil])]
    exact ⟨v, c1, rfl, ho, rfl⟩
def wrdsQ (ws : List (List UInt8)) (l : List Chunk) (v : Value) (l' : List Chunk) : Prop :=
  match rdAll rdN ws with
  | some ns => ∃ sv c1, v = .tuple #[sv, .bool true] ∧ OwnSl 38 1 sv ns.length (ns.map fun n => Value.int .u64 (n : Nat)) c1 ∧ l' = c1 ++ l
  | none => v = .tuple #[.slice none 0 0, .bool false] ∧ ∃ X, l' = X ++ l
set_option maxHeartbeats 2000000 in
theorem wrds_any (a : Option Addr) (cap : Nat) (ws : List (List UInt8)) (hw : ∀ w ∈ ws, w.length ≤ 100000) (hn : ws.length ≤ 100001) (l : List Chunk) (hR : StrIn l a ws) : Fn Tryd.prog 33 [.slice a ws.length cap] l (wrdsQ ws l) := by
  refine fn_of_body Tryd.func33 rfl rfl fun E => ?_
  simp only [argF, Tryd.ntmps33]
  refine gzU ?_
  refine k_loop (α := Nat × List Nat × Value × List Chunk) (fun x => [(0, .slice a ws.length cap), (4, x.2.2.1), (5, .int .i64 x.1)]) (fun x => x.2.2.2 ++ l)
    (fun x => x.1 ≤ ws.length ∧ x.2.1.length = x.1 ∧ OwnSl 38 1 x.2.2.1 x.2.1.length (x.2.1.map fun n => Value.int .u64 (n : Nat)) x.2.2.2 ∧ rdAll rdN ws = (rdAll rdN (ws.drop x.1)).map (x.2.1 ++ ·)) (fun x => ws.length - x.1)
    (0, [], .slice none 0 0, []) ⟨by simp, rfl, OwnSl.nil _ _, by simp⟩ ⟨rfl, rfl, rfl, trivial⟩ .refl ?_
  rintro ⟨i, ns, v, c1⟩ ⟨hi, hl, ho, hg⟩
  simp only at hi hl ho hg ⊢
  have hv1 : v.oneCell' = true := ho.one
  by_cases hlt : i < ws.length
  · obtain ⟨w, q1, q2, q3⟩ := drop_at hlt
    obtain ⟨b, off, cells, ct, fz, rfl, hm, hc⟩ := hR (by omega)
    have hx := hc i w q1
    have hm' := List.mem_append_right c1 hm
    rw [q2] at hg
    refine gzU ?_
    refine t_e (e_call0 rfl rfl (word_any w (hw w q3) _)) rfl rfl rfl ?_
    rintro _ _ ⟨hv, rfl⟩
    unfold WordV at hv
    subst hv
    cases hr : rdN w with
    | none =>
      refine gzU ?_
      refine k_ret [] rfl .refl (by exact zRes) ?_
      unfold wrdsQ
      rw [hg, rdAll_bad hr]
      exact ⟨rfl, c1, rfl⟩
    | some n =>
      simp only [Option.getD_some, Option.isSome_some]
      refine gzU ?_
      refine t_e (e_lit1 (z0 := .int .u64 0) rfl rfl) rfl rfl rfl ?_
      rintro _ _ ⟨bl, hbl, rfl, rfl⟩
      refine t_e (e_appX (k := 1) (X := []) (cs := c1) (F := l) (n := ns.length) (xs := ns.map fun n => Value.int .u64 (n : Nat)) (zs := [.int .u64 0]) rfl rfl rfl ho rfl (by simp [Value.oneCell']) (by omega) (by decide)) rfl rfl rfl ?_
      rintro v2 _ ⟨c2, ho2, rfl⟩
      have hv2 : v2.oneCell' = true := ho2.one
      refine gzU ?_
      exact k_next (i + 1, ns ++ [n], v2, c2) ⟨by simp only; omega, by simp [hl], by simp only [List.length_append, List.length_cons, List.length_nil, List.map_append, List.map_cons, List.map_nil]; exact ho2, hg.trans (rdAll_step hr)⟩ (by simp only; omega) ⟨rfl, rfl, rfl, trivial⟩ .refl
  · obtain rfl : i = ws.length := by omega
    rw [List.drop_length] at hg
    refine gzU ?_
    refine k_ret [] rfl .refl (by exact zRes) ?_
    unfold wrdsQ
    rw [hg.trans (show (rdAll rdN []).map (ns ++ ·) = some ns by show some (ns ++ []) = _; rw [List.append_nil])]
    exact ⟨v, c1, rfl, ho, rfl⟩
end Go.Proofs.YtffmibmefmbdjaaDoor

/- Blocks in another order, told by counting; calls on blocks that stand further behind. Laws of my own, no program's. -/
set_option linter.unusedVariables false
set_option linter.unusedSimpArgs false
namespace Go.Proofs.YtffmibmefmbdjaaDoor
open Go.RowKit

theorem perm_ac {A B : List Chunk} (h : ∀ (f : List Chunk → Nat) (g : Chunk → Nat), f [] = 0 → (∀ x l, f (x :: l) = g x + f l) → (∀ x y, f (x ++ y) = f x + f y) → f A = f B := by intro f g h0 h1 h2; simp only [List.map_nil, List.map_cons, h0, h1, h2]; try omega) : A.Perm B := by
  classical
  refine List.perm_iff_count.2 fun a => h (fun l => List.count a l) (fun x => List.count a [x]) rfl (fun x l => ?_) (fun x y => List.count_append)
  rw [show x :: l = [x] ++ l from rfl, List.count_append]
theorem keep_ac {A B : List Chunk} (X : List Chunk) (h : ∀ (f : List Chunk → Nat) (g : Chunk → Nat), f [] = 0 → (∀ x l, f (x :: l) = g x + f l) → (∀ x y, f (x ++ y) = f x + f y) → f A = f (X ++ B) := by intro f g h0 h1 h2; simp only [List.map_nil, List.map_cons, h0, h1, h2]; try omega) : Keep A B := ⟨X, perm_ac h⟩
theorem Fn.mvP {P : Program} {f : FuncId} {args : List Value} {A F : List Chunk} {Kv : Value → Prop} {I : List Chunk → Prop} (Γ : List Chunk → List Chunk) (h : Fn P f args (A ++ F) fun v l' => Kv v ∧ ∃ A', I A' ∧ l' = A' ++ F)
    (hΓ : ∀ A, (Γ A).Perm (A ++ F) := by intro A; exact perm_ac) : Fn P f args (Γ A) fun v l' => Kv v ∧ ∃ A', I A' ∧ l' = Γ A' :=
  Fn.re (.of_perm (hΓ A)) h fun v l' ⟨h1, A', h2, h3⟩ => ⟨_, by rw [h3]; exact .of_perm (hΓ A').symm, h1, A', h2, rfl⟩
theorem Fn.mvX {P : Program} {f : FuncId} {args : List Value} {A F : List Chunk} {Kv : Value → Prop} {α : Type} {I : α → List Chunk → Prop} (Γ : List Chunk → List Chunk) (h : Fn P f args (A ++ F) fun v l' => Kv v ∧ ∃ A', ∃ x, I x A' ∧ l' = A' ++ F)
    (hΓ : ∀ A, (Γ A).Perm (A ++ F) := by intro A; exact perm_ac) : Fn P f args (Γ A) fun v l' => Kv v ∧ ∃ A', ∃ x, I x A' ∧ l' = Γ A' :=
  Fn.re (.of_perm (hΓ A)) h fun v l' ⟨h1, A', x, h2, h3⟩ => ⟨_, by rw [h3]; exact .of_perm (hΓ A').symm, h1, A', x, h2, rfl⟩
end Go.Proofs.YtffmibmefmbdjaaDoor
