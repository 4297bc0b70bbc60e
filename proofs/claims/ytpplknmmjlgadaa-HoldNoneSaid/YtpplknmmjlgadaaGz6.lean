/- DERIVED: THE SHELF's CONTRACTS AT THIS DUMP, IN PLAIN WORDS (tools/lay-plain.mjs out of 'YtpplknmmjlgadaaSH.lean', which tools/lay-shelf.mjs wrote): THE SAME DECLARATIONS UNDER THE SAME NAMES: 'import', 'namespace', 'open', 'def', 'theorem' AND NOTHING ELSE: no command of the shelf's: FOR A HAND-IN. Each laying: the table of numbers ('.._ren') and one theorem, a field a fact of the dump's own or the kernel's comparison; each contract: ONE APPLICATION. A slice of integers sorted by the library: out of the kit's contract. The keys of a map, sorted. Slots: those that have a capability. Rows of any flat struct that came in, as blocks. SlotsOwn: what is read of slots; the acts; the walk. Chapter 15's own answer: the state; at, Size, Has, Get. Chapter 15's own answer: Set, Drop. Chapter 15's own answer: Add. Chapter 15's own answer: Used. The statements' helpers for lists of structs. Rows of numbers told by a function. The tree as plain data and its blocks: nodes told by a function of their block; New, of. The tree: a node put behind another one. The tree: the two iterators. The tree: the links below one. Laws that the statement's proof leans on. -/
import Derived.Shelf.SortM.Plain
import Derived.Shelf.SortM.SortNone
import Derived.Test.YtpplknmmjlgadaaProg
import Derived.Test.YtpplknmmjlgadaaGz4
import Derived.Test.YtpplknmmjlgadaaGz5
import Derived.Test.YtpplknmmjlgadaaGz3
/-
  DERIVED: THE SHELF's CONTRACTS AT THIS DUMP, IN PLAIN WORDS (tools/lay-plain.mjs out of 'YtpplknmmjlgadaaSH.lean', which tools/lay-shelf.mjs wrote): THE SAME DECLARATIONS UNDER THE SAME NAMES: 'import', 'namespace', 'open', 'def', 'theorem' AND NOTHING ELSE: no command of the shelf's: FOR A HAND-IN. Each laying: the table of numbers ('.._ren') and one theorem, a field a fact of the dump's own or the kernel's comparison; each contract: ONE APPLICATION.
-/
namespace Go.Proofs
open Go.Shelf
def Try.sortA_ren : Go.Shelf.Ren := ⟨fun | 5 => 70 | 8 => 74 | 7 => 73 | 19 => 84 | 20 => 85 | 10 => 75 | 11 => 76 | 12 => 77 | 13 => 78 | 14 => 79 | 15 => 80 | 16 => 81 | 17 => 82 | 18 => 83 | 30 => 86 | 31 => 87 | 32 => 88 | 33 => 89 | 34 => 90 | 35 => 91 | 40 => 92 | n => n, fun | 23 => 110 | 25 => 3 | 3 => 3 | 32 => 106 | 22 => 110 | 0 => 0 | 44 => 126 | 46 => 24 | 4 => 4 | 36 => 119 | 35 => 118 | 41 => 123 | 5 => 5 | 9 => 9 | 53 => 128 | 57 => 132 | 63 => 134 | 64 => 135 | n => n, fun | n => n⟩
theorem Try.sortA : Go.Proofs.SlLaysM.n5 Try.prog Try.sortA_ren := {
  mixed := by kernel_rfl
  f5 := ⟨Try.f70.name, by decide, Try.func70.trans (congrArg some (by kernel_rfl))⟩
  f7 := ⟨Try.f73.name, by decide, Try.func73.trans (congrArg some (by kernel_rfl))⟩
  f8 := Try.func74.trans (congrArg some (by kernel_rfl))
  f10 := ⟨Try.f75.name, by decide, Try.func75.trans (congrArg some (by kernel_rfl))⟩
  f11 := ⟨Try.f76.name, by decide, Try.func76.trans (congrArg some (by kernel_rfl))⟩
  f12 := ⟨Try.f77.name, by decide, Try.func77.trans (congrArg some (by kernel_rfl))⟩
  f13 := ⟨Try.f78.name, by decide, Try.func78.trans (congrArg some (by kernel_rfl))⟩
  f14 := ⟨Try.f79.name, by decide, Try.func79.trans (congrArg some (by kernel_rfl))⟩
  f15 := ⟨Try.f80.name, by decide, Try.func80.trans (congrArg some (by kernel_rfl))⟩
  f16 := ⟨Try.f81.name, by decide, Try.func81.trans (congrArg some (by kernel_rfl))⟩
  f17 := ⟨Try.f82.name, by decide, Try.func82.trans (congrArg some (by kernel_rfl))⟩
  f18 := ⟨Try.f83.name, by decide, Try.func83.trans (congrArg some (by kernel_rfl))⟩
  f19 := Try.func84.trans (congrArg some (by kernel_rfl))
  f20 := Try.func85.trans (congrArg some (by kernel_rfl))
  f30 := ⟨Try.f86.name, by decide, Try.func86.trans (congrArg some (by kernel_rfl))⟩
  f31 := Try.func87.trans (congrArg some (by kernel_rfl))
  f32 := Try.func88.trans (congrArg some (by kernel_rfl))
  f33 := ⟨Try.f89.name, by decide, Try.func89.trans (congrArg some (by kernel_rfl))⟩
  f34 := ⟨Try.f90.name, by decide, Try.func90.trans (congrArg some (by kernel_rfl))⟩
  f35 := ⟨Try.f91.name, by decide, Try.func91.trans (congrArg some (by kernel_rfl))⟩
  f40 := ⟨Try.f92.name, by decide, Try.func92.trans (congrArg some (by kernel_rfl))⟩
  t0 := Try.underlying0
  a0 := Try.isAgg0
  z0 := Try.sizeOf0
  v0 := Try.zeroValue0
  t3 := Try.underlying3
  a3 := Try.isAgg3
  z3 := Try.sizeOf3
  v3 := Try.zeroValue3
  t4 := Try.underlying4
  a4 := Try.isAgg4
  z4 := Try.sizeOf4
  v4 := Try.zeroValue4
  t5 := Try.underlying5
  a5 := Try.isAgg5
  z5 := Try.sizeOf5
  v5 := Try.zeroValue5
  t9 := Try.underlying9
  a9 := Try.isAgg9
  z9 := Try.sizeOf9
  v9 := Try.zeroValue9
  t22 := Try.underlying110
  a22 := Try.isAgg110
  z22 := Try.sizeOf110
  v22 := Try.zeroValue110
  t23 := Try.underlying110
  a23 := Try.isAgg110
  z23 := Try.sizeOf110
  v23 := Try.zeroValue110
  t25 := Try.underlying3
  a25 := Try.isAgg3
  z25 := Try.sizeOf3
  v25 := Try.zeroValue3
  t32 := Try.underlying106
  a32 := Try.isAgg106
  z32 := Try.sizeOf106
  v32 := Try.zeroValue106
  t35 := Try.underlying118
  a35 := Try.isAgg118
  z35 := Try.sizeOf118
  v35 := Try.zeroValue118
  t36 := Try.underlying119
  a36 := Try.isAgg119
  z36 := Try.sizeOf119
  v36 := Try.zeroValue119
  t41 := Try.underlying123
  a41 := Try.isAgg123
  z41 := Try.sizeOf123
  v41 := Try.zeroValue123
  t44 := Try.underlying126
  a44 := Try.isAgg126
  z44 := Try.sizeOf126
  v44 := Try.zeroValue126
  t46 := Try.underlying24
  a46 := Try.isAgg24
  z46 := Try.sizeOf24
  v46 := Try.zeroValue24
  t53 := Try.underlying128
  a53 := Try.isAgg128
  z53 := Try.sizeOf128
  v53 := Try.zeroValue128
  t57 := Try.underlying132
  a57 := Try.isAgg132
  z57 := Try.sizeOf132
  v57 := Try.zeroValue132
  t63 := Try.underlying134
  a63 := Try.isAgg134
  z63 := Try.sizeOf134
  v63 := Try.zeroValue134
  t64 := Try.underlying135
  a64 := Try.isAgg135
  z64 := Try.sizeOf135
  v64 := Try.zeroValue135 }
end Go.Proofs

/- A slice of integers sorted by the library: out of the kit's contract. -/
set_option linter.unusedVariables false
set_option linter.unusedSimpArgs false
namespace Go.Proofs.Ytpplknmmjlgadaa
open Go.RowKit Go.Sort

def intV (x : Int) : Value := .int .i64 x
abbrev srt (zs : List Int) : List Int := zs.mergeSort fun x y => decide (x ≤ y)
theorem sort_any (b cap : Nat) (zs : List Int) (sp : List Value) (hn : zs.length ≤ 1000000) (l : List Chunk) :
    Fn Try.prog 70 [.slice (some ⟨b, 0, none⟩) zs.length cap] ((b, .cells (List.toArray (zs.map intV ++ sp)) 3 (0, 0)) :: l) fun v l' => v = .tuple #[] ∧ l' = (b, .cells (List.toArray ((srt zs).map intV ++ sp)) 3 (0, 0)) :: l := by
  refine ⟨fun E W hs => ?_⟩
  have hH : Holds (Value.int .i64) W b 0 zs.toArray := fun j hj => by
    simp only [List.size_toArray] at hj
    refine ⟨?_, ?_⟩
    · rw [hs.cell (.head _), Nat.zero_add, List.getElem?_toArray, List.getElem?_append_left (by simpa using hj), List.getElem?_map, List.getElem?_eq_getElem hj]
      simp [hj, intV]
    · rw [hs.frz (.head _)]; simp
  have h := AnyM.slices_Sort_int Try.sortA b 0 cap zs W hH (hs.lt (.head _)) (by omega)
  refine (h : Calls Try.prog 70 _ W _).mono ?_
  rintro e w' ⟨rfl, n, os, rfl⟩
  refine ⟨_, _, rfl, ⟨rfl, rfl⟩, ?_⟩
  refine ⟨hs.os, hs.tape, hs.output, by simpa using hs.nodup, fun c hc => ?_⟩
  have hb := hs.lt (.head _)
  simp only at hb
  have hget : ∀ k, k < W.heap.size → (Go.Sort.grow (putRow (Value.int .i64) (Go.Sort.ahead W n) b 0 (srt zs).toArray) os).heap[k]? = (W.heap.modify b (onCells (putCells (Value.int .i64) 0 (srt zs).toArray)))[k]? := fun k hk => by
    show (((Go.Sort.ahead W n).heap.modify b _) ++ os)[k]? = _
    rw [Array.getElem?_append_left (by simpa using hk)]; rfl
  rcases List.mem_cons.1 hc with rfl | hc'
  · rw [hget _ hb, Array.getElem?_modify, if_pos rfl, hs.has _ (.head _)]
    simp only [Option.map_some, onCells]
    congr 2
    apply Array.toList_inj.1
    apply List.ext_getElem?
    intro j
    unfold putCells
    rw [Array.getElem?_toList, Array.getElem?_mapIdx, List.getElem?_toArray]
    have hl : (srt zs).length = zs.length := List.length_mergeSort ..
    by_cases hj : j < zs.length
    · rw [List.getElem?_append_left (by simpa using hj), List.getElem?_append_left (by simpa [hl] using hj), List.getElem?_map, List.getElem?_map, List.getElem?_eq_getElem hj, List.getElem?_eq_getElem (by omega)]
      simp [hj, hl, intV]
    · rw [List.getElem?_append_right (by simpa using Nat.le_of_not_lt hj), List.getElem?_append_right (by simpa [hl] using Nat.le_of_not_lt hj)]
      simp only [List.length_map, hl]
      cases sp[j - zs.length]? with
      | none => rfl
      | some u => simp [hl, hj]
  · have hlt := hs.lt (List.mem_cons_of_mem _ hc')
    rw [hget _ hlt, Array.getElem?_modify, if_neg, hs.has _ (List.mem_cons_of_mem _ hc')]
    intro e
    have := hs.nodup
    rw [List.map_cons, List.nodup_cons] at this
    exact this.1 (List.mem_map.2 ⟨c, hc', e.symm⟩)
theorem sortNone_any (cap : Nat) (p : Option Addr) (l : List Chunk) : Fn Try.prog 70 [.slice p 0 cap] l fun v l' => v = .tuple #[] ∧ l' = l := by
  refine ⟨fun E W hs => ?_⟩
  refine ((AnyM.slices_Sort_int_none Try.sortA p cap W : Calls Try.prog 70 _ W _)).mono ?_
  rintro e w' ⟨rfl, rfl⟩
  exact ⟨_, _, rfl, ⟨rfl, rfl⟩, hs⟩
theorem sortOwn_any (v : Value) (zs : List Int) (cs l : List Chunk) (ho : OwnSl 3 1 v zs.length (zs.map intV) cs) (hn : zs.length ≤ 1000000) :
    Fn Try.prog 70 [v] (cs ++ l) fun r l' => r = .tuple #[] ∧ ∃ cs', OwnSl 3 1 v (srt zs).length ((srt zs).map intV) cs' ∧ l' = cs' ++ l := by
  have hl : (srt zs).length = zs.length := List.length_mergeSort ..
  rcases ho.2 with ⟨rfl, h0, rfl⟩ | ⟨gb, cap, sp, rfl, rfl, hnc, hcm, hcl⟩
  · obtain rfl : zs = [] := List.eq_nil_of_length_eq_zero h0
    exact (sortNone_any 0 none l).mono fun r l' ⟨h1, h2⟩ => ⟨h1, [], by rw [show srt [] = [] by simp [srt]]; exact OwnSl.nil _ _, h2⟩
  · exact (sort_any gb cap zs sp hn l).mono fun r l' ⟨h1, h2⟩ => ⟨h1, _, ⟨by simp, .inr ⟨gb, cap, sp, by rw [hl], rfl, by omega, hcm, by rw [List.length_append, List.length_map, hl, ← hcl, List.length_append, List.length_map]⟩⟩, h2⟩
end Go.Proofs.Ytpplknmmjlgadaa

/- The keys of a map, sorted. -/
set_option linter.unusedVariables false
set_option linter.unusedSimpArgs false
namespace Go.Proofs.Ytpplknmmjlgadaa
open Go.RowKit
set_option maxRecDepth 20000
set_option maxRecDepth 20000

set_option pp.deepTerms false
set_option pp.deepTerms.threshold 4
set_option maxHeartbeats 400000
/-- what came of a map's entries -/
structure Came (es vis : List Ent) (seen : Array Nat) : Prop where
  eq : seen.toList = vis.map (·.2.2)
  nd : (vis.map (·.2.2)).Nodup
  sub : ∀ e, e ∈ vis → e ∈ es
theorem Came.len {es vis : List Ent} {seen : Array Nat} (h : Came es vis seen) (hn : (es.map (·.2.2)).Nodup) : vis.length ≤ es.length := by
  classical
  have hv : vis.Nodup := nodup_of_map h.nd
  have he : (es.filter fun e => decide (e ∈ vis)).Nodup := (nodup_of_map hn).filter _
  have hp : vis.Perm (es.filter fun e => decide (e ∈ vis)) := (List.perm_ext_iff_of_nodup hv he).2 fun e => by
    rw [List.mem_filter]; simp only [decide_eq_true_eq]
    exact ⟨fun hm => ⟨h.sub e hm, hm⟩, fun hm => hm.2⟩
  rw [hp.length_eq]; exact List.length_filter_le ..
theorem Came.all {es vis : List Ent} {seen : Array Nat} (h : Came es vis seen) (hn : (es.map (·.2.2)).Nodup) (ha : ∀ e, e ∈ es → e.2.2 ∈ seen.toList) : (vis.map (·.1)).Perm (es.map (·.1)) := by
  refine List.Perm.map _ ((List.perm_ext_iff_of_nodup (nodup_of_map h.nd) (nodup_of_map hn)).2 fun e => ⟨h.sub e, fun he => ?_⟩)
  have h1 := ha e he
  rw [h.eq] at h1
  obtain ⟨e', he', h2⟩ := List.mem_map.1 h1
  have h3 := nd_stamp hn (h.sub e' he') he h2
  rw [← h3]; exact he'
theorem Came.push {es vis : List Ent} {seen : Array Nat} {e : Ent} (h : Came es vis seen) (he : e ∈ es) (hs : e.2.2 ∉ seen.toList) : Came es (vis ++ [e]) (seen.push e.2.2) := by
  refine ⟨by rw [Array.toList_push, h.eq, List.map_append]; rfl, ?_, fun x hx => ?_⟩
  · rw [List.map_append, List.nodup_append]
    refine ⟨h.nd, by simp, fun a ha b hb hab => hs ?_⟩
    have : b = e.2.2 := by simpa using hb
    rw [h.eq, ← this, ← hab]; exact ha
  · rcases List.mem_append.1 hx with hx | hx
    · exact h.sub x hx
    · rw [List.mem_singleton.1 hx]; exact he
theorem keys_any (mb : Option Nat) (l : List Chunk) : Fn Try.prog 66 [.map mb] l fun v l' => ∃ B, v = .func (.func 71) #[] #[.pointer (some ⟨B, 0, none⟩)] ∧ l' = (B, .cells #[.map mb] 89 (0, 0)) :: l := by
  refine fn_of_body Try.func66 rfl rfl fun E => ?_
  simp only [argF, Try.ntmps66]
  refine gz ?_
  refine t_e (e_box1 rfl rfl) rfl rfl rfl ?_
  rintro _ _ ⟨B, hB, rfl, rfl⟩
  refine gz ?_
  exact k_ret [] rfl .refl (by exact zRes) ⟨B, rfl, rfl⟩
theorem keys_iter (B m clock : Nat) (es : List Ent) (hnd : (es.map (·.2.2)).Nodup) (hst : ∀ e, e ∈ es → e.2.2 < clock) :
    IterS Try.prog 71 [.pointer (some ⟨B, 0, none⟩)] (fun k : Int => [.int .i64 k]) (fun xs => xs.Perm (es.map (·.1))) (fun pre => pre.length ≤ es.length)
      (fun _ l => (B, .cells #[.map (some m)] 89 (0, 0)) ∈ l ∧ (m, mapO .i64 es clock) ∈ l) := by
  refine ⟨fun q I Ix G0 hneed hY l G hG h0 => ?_⟩
  refine fn_of_body Try.func71 rfl rfl fun E => ?_
  simp only [argF, Try.ntmps71]
  obtain ⟨hm1, hm2⟩ := hneed _ _ G hG h0
  refine gz ?_
  refine t_e (e_range rfl hm2) rfl rfl rfl ?_
  rintro _ _ ⟨b0, hb0, rfl, rfl⟩
  refine gz ?_
  refine k_loop (α := Array Nat × List Ent × List Chunk) (fun x => [(0, .func (.yield q) #[] #[]), (1, .pointer (some ⟨B, 0, none⟩)), (5, .pointer (some ⟨b0, 0, none⟩))]) (fun x => (b0, .mapIter (some m) clock x.1 clock) :: (x.2.2 ++ G)) (fun x => I (x.2.1.map (·.1)) x.2.2 ∧ Came es x.2.1 x.1) (fun x => es.length - x.2.1.length) (#[], [], l) ⟨h0, rfl, by simp, by simp⟩ ⟨rfl, rfl, rfl, trivial⟩ .refl ?_
  clear hm1 hm2
  rintro ⟨seen, vis, l⟩ ⟨hI, hC⟩
  simp only at hI hC ⊢
  obtain ⟨hm1, hm2⟩ := hneed _ _ G hG hI
  refine gz ?_
  refine t_e (e_next rfl hm2 (fun e he => hst e he) (Nat.le_refl _)) rfl rfl rfl ?_
  rintro _ _ (⟨rfl, rfl, hall⟩ | ⟨e, he, hns, rfl, rfl⟩)
  · refine gz ?_
    exact k_ret [] rfl (.drop .refl) (by exact zRes) ⟨l, rfl, .inl ⟨_, hC.all hnd hall, hI⟩⟩
  · have hC2 := hC.push he hns
    have hl2 := hC2.len hnd
    have hy := hY (vis.map (·.1)) e.1 l ((b0, .mapIter (some m) clock (seen.push e.2.2) clock) :: G) (fun c hc => .tail _ (hG c hc)) hI (by simp at hl2 ⊢; exact hl2)
    refine gz ?_
    refine t_q (q_entry rfl (.head _) (.tail _ hm2) he hnd) rfl rfl rfl ?_
    refine gz ?_
    refine s_keep (Keep.of_perm List.perm_middle.symm) ?_
    refine t_e (e_yield rfl rfl hy) rfl rfl rfl ?_
    rintro v l' ⟨l1, rfl, ⟨rfl, hI'⟩ | ⟨rfl, hx⟩⟩
    · refine gz ?_
      exact k_next (seen.push e.2.2, vis ++ [e], l1) ⟨by simpa using hI', hC2⟩ (by simp at hl2 ⊢; omega) ⟨rfl, rfl, rfl, trivial⟩ (.of_perm List.perm_middle)
    · refine gz ?_
      exact k_ret [] rfl (Keep.trans (.of_perm List.perm_middle) (.drop .refl)) (by exact zRes) ⟨l1, rfl, .inr ⟨_, by simp at hl2 ⊢; exact hl2, hx⟩⟩
theorem append_any (gf : Nat) [EN Try.prog gf] (lb : List Value) (S : List Int → Prop) (n : Nat) (Need : List Int → List Chunk → Prop) (hit : IterS Try.prog gf lb (fun k : Int => [.int .i64 k]) S (fun pre => pre.length ≤ n) Need) (hn : n ≤ 900000) (l : List Chunk) (hneed : ∀ pre l2, (∀ c, c ∈ l → c ∈ l2) → Need pre l2) :
    Fn Try.prog 72 [.slice none 0 0, .func (.func gf) #[] lb.toArray] l fun v l' => ∃ xs cs, S xs ∧ OwnSl 3 1 v xs.length (xs.map intV) cs ∧ l' = cs ++ l := by
  refine fn_of_body Try.func72 rfl rfl fun E => ?_
  simp only [argF, Try.ntmps72]
  refine gz ?_
  refine t_e (e_box1 rfl rfl) rfl rfl rfl ?_
  rintro _ _ ⟨b2, hb2, rfl, rfl⟩
  refine gz ?_
  refine c_range (α := Int) (ps := [7]) (lb := lb) rfl hit (fun _ => rfl) rfl
    (fun pre l => ∃ v cs, OwnSl 3 1 v pre.length (pre.map intV) cs ∧ pre.length ≤ n ∧ l = [(b2, .cells #[v] 110 (0, 0))] ++ cs)
    (fun c pre l => False)
    _ l (fun pre l2 X2 hX h => by obtain ⟨v, cs, _, _, rfl⟩ := h; exact hneed _ _ fun c hc => List.mem_append_right _ (hX _ hc)) (by exact zKeep) ⟨_, [], OwnSl.nil _ _, Nat.zero_le _, rfl⟩ ?_ ?_ ?_
  · rintro E r0 rec pre y l' T ⟨fn, tmps, Dd, rfl⟩ hT0 ⟨v, cs', hown, hpl, rfl⟩ hsp
    simp only [putPs, List.cons_append, List.nil_append]
    refine gz ?_
    refine p_begin (.there (upd_mid _ _ _ _ _)) ?_
    generalize hX1 : (r0, Obj.loop (recOf fn tmps _ _ _ Dd .busy none)) :: T = X1
    refine gz ?_
    refine t_e (e_lit1 rfl rfl) rfl rfl rfl ?_
    rintro _ _ ⟨bl, _, rfl, rfl⟩
    refine t_e (e_appX (k := 1) (X := [(b2, .cells #[v] 110 (0, 0))]) (cs := cs') (F := X1) (xs := pre.map intV) (n := pre.length) (zs := [.int .i64 0]) (ws := [intV y]) rfl rfl rfl hown rfl (by simp [Value.oneCell', intV]) (by omega) (by decide)) rfl rfl rfl ?_
    rintro v' _ ⟨c2, ho2, rfl⟩
    have hv1 : v'.oneCell' = true := ho2.one
    simp only [List.cons_append, List.nil_append]
    refine gz ?_
    rw [← hX1]
    refine p_round _ (.refl) ⟨v', c2, ?_, hsp, rfl⟩
    rw [List.length_append, List.map_append]; exact ho2
  · rintro Dd xs l' hS ⟨v, cs', hown, hpl, rfl⟩
    have hv1 : v.oneCell' = true := hown.one
    simp only [List.cons_append, List.nil_append]
    refine gz ?_
    refine k_ret2 [Dd] (cs' ++ l) rfl (l' := cs' ++ l) (by exact zKeep) (by exact zRes) .refl ?_
    exact ⟨xs, cs', hS, hown, rfl⟩
  · rintro Dd c pre l' hsp h
    exact h.elim
theorem collect_any (gf : Nat) [EN Try.prog gf] (lb : List Value) (S : List Int → Prop) (n : Nat) (Need : List Int → List Chunk → Prop) (hit : IterS Try.prog gf lb (fun k : Int => [.int .i64 k]) S (fun pre => pre.length ≤ n) Need) (hn : n ≤ 900000) (l : List Chunk) (hneed : ∀ pre l2, (∀ c, c ∈ l → c ∈ l2) → Need pre l2) :
    Fn Try.prog 69 [.func (.func gf) #[] lb.toArray] l fun v l' => ∃ xs cs, S xs ∧ OwnSl 3 1 v xs.length (xs.map intV) cs ∧ l' = cs ++ l := by
  refine fn_of_body Try.func69 rfl rfl fun E => ?_
  simp only [argF, Try.ntmps69]
  refine gz ?_
  refine t_e (e_call0 rfl rfl (append_any gf lb S n Need hit hn l hneed)) rfl rfl rfl ?_
  rintro v _ ⟨xs, cs, hS, ho, rfl⟩
  have hv1 : v.oneCell' = true := ho.one
  refine gz ?_
  refine k_ret [] rfl .refl (by exact zRes) ?_
  exact ⟨xs, cs, hS, ho, rfl⟩
theorem sorted_any (gf : Nat) [EN Try.prog gf] (lb : List Value) (S : List Int → Prop) (n : Nat) (Need : List Int → List Chunk → Prop) (hit : IterS Try.prog gf lb (fun k : Int => [.int .i64 k]) S (fun pre => pre.length ≤ n) Need) (hn : n ≤ 900000) (hS : ∀ xs, S xs → xs.length ≤ n) (l : List Chunk) (hneed : ∀ pre l2, (∀ c, c ∈ l → c ∈ l2) → Need pre l2) :
    Fn Try.prog 65 [.func (.func gf) #[] lb.toArray] l fun v l' => ∃ xs cs, S xs ∧ OwnSl 3 1 v (srt xs).length ((srt xs).map intV) cs ∧ l' = cs ++ l := by
  refine fn_of_body Try.func65 rfl rfl fun E => ?_
  simp only [argF, Try.ntmps65]
  refine gz ?_
  refine t_e (e_call0 rfl rfl (collect_any gf lb S n Need hit hn l hneed)) rfl rfl rfl ?_
  rintro v _ ⟨xs, cs, hSx, ho, rfl⟩
  have hv1 : v.oneCell' = true := ho.one
  have hl := hS xs hSx
  refine gz ?_
  refine t_e (e_call0 rfl rfl (sortOwn_any v xs cs l ho (by omega))) rfl rfl rfl ?_
  rintro _ _ ⟨rfl, cs', ho', rfl⟩
  refine gz ?_
  refine k_ret [] rfl .refl (by exact zRes) ?_
  exact ⟨xs, cs', hSx, ho', rfl⟩
/-- the sorted keys of a map -/
theorem mapKeys_any (B m clock : Nat) (es : List Ent) (hnd : (es.map (·.2.2)).Nodup) (hst : ∀ e, e ∈ es → e.2.2 < clock) (hn : es.length ≤ 900000) (l : List Chunk) (h1 : (B, Obj.cells #[.map (some m)] 89 (0, 0)) ∈ l) (h2 : (m, mapO .i64 es clock) ∈ l) :
    Fn Try.prog 65 [.func (.func 71) #[] #[.pointer (some ⟨B, 0, none⟩)]] l fun v l' => ∃ xs cs, xs.Perm (es.map (·.1)) ∧ OwnSl 3 1 v (srt xs).length ((srt xs).map intV) cs ∧ l' = cs ++ l :=
  sorted_any 71 [.pointer (some ⟨B, 0, none⟩)] _ es.length _ (keys_iter B m clock es hnd hst) hn (fun xs h => by rw [h.length_eq]; simp) l fun _ l2 hl => ⟨hl _ h1, hl _ h2⟩
end Go.Proofs.Ytpplknmmjlgadaa

/- Slots: those that have a capability. -/
set_option linter.unusedVariables false
set_option linter.unusedSimpArgs false
namespace Go.Proofs.Ytpplknmmjlgadaa
open Go.RowKit
set_option maxRecDepth 20000
set_option maxRecDepth 20000

theorem MB.sorted {α : Type} {key : α → Int} {val : α → Value} {L : List α} {es : List Ent} {clock : Nat} (h : MB key val L es clock) {xs : List Int} (hx : xs.Perm (es.map (·.1))) : srt xs = L.map key := by
  have h1 : (srt xs).Perm (L.map key) := (List.mergeSort_perm ..).trans (hx.trans h.keys)
  have h2 : (srt xs).Pairwise (fun x y => x ≤ y) := by
    have := List.pairwise_mergeSort (le := fun x y : Int => decide (x ≤ y)) (fun a b c h1 h2 => by simp at *; omega) (fun a b => by simp; omega) xs
    exact this.imp fun h => by simpa using h
  have h3 : (L.map key).Pairwise (fun x y => x ≤ y) := List.pairwise_map.2 (h.asc.imp fun hxy => by omega)
  exact h1.eq_of_pairwise (fun a b _ _ h1 h2 => by omega) h2 h3
theorem OwnSl.ints {e : Nat} {v : Value} {xs : List Int} {cs l : List Chunk} (h : OwnSl e 1 v xs.length (xs.map intV) cs) (hs : ∀ c, c ∈ cs → c ∈ l) : ∃ p cap, v = .slice p xs.length cap ∧ (0 < xs.length → ∃ b cl t fz, p = some ⟨b, 0, none⟩ ∧ (b, Obj.cells cl t fz) ∈ l ∧ ∀ i x, xs[i]? = some x → cl[i * 1]? = some (.int .i64 x)) := by
  rcases h.2 with ⟨rfl, h0, rfl⟩ | ⟨b, cap, sp, rfl, rfl, _⟩
  · exact ⟨none, 0, by rw [h0], fun h => by omega⟩
  · refine ⟨_, cap, rfl, fun h0 => ⟨b, _, e, (0, 0), rfl, hs _ List.mem_cons_self, fun i x hx => ?_⟩⟩
    have hlt := (List.getElem?_eq_some_iff.1 hx).1
    rw [Nat.mul_one, List.getElem?_toArray, List.getElem?_append_left (by simpa using hlt), List.getElem?_map, hx]; rfl
def usedTo (a : Int) (C : List CapT) : Nat → List HdT
  | 0 => []
  | k + 1 => usedTo a C k ++ (match C[k]? with
    | some c => if eqC c capZ = true then [] else [((a, ((k : Nat) : Int)), c)]
    | none => [])
def usedD (D : SD) : List HdT := D.flatMap fun x => usedTo x.1 x.2 x.2.length
theorem usedTo_t {a : Int} {C : List CapT} {k : Nat} {c : CapT} (hc : C[k]? = some c) (h : eqC c capZ = false) : usedTo a C (k + 1) = usedTo a C k ++ [((a, ((k : Nat) : Int)), c)] := by
  show usedTo a C k ++ _ = _
  rw [hc]; simp only; rw [h]; rfl
theorem usedTo_f {a : Int} {C : List CapT} {k : Nat} {c : CapT} (hc : C[k]? = some c) (h : eqC c capZ = true) : usedTo a C (k + 1) = usedTo a C k := by
  show usedTo a C k ++ _ = _
  rw [hc]; simp only; rw [h]; simp
theorem usedTo_pre (a : Int) (C : List CapT) (k : Nat) : ∀ m, usedTo a C k <+: usedTo a C (k + m)
  | 0 => List.prefix_rfl
  | m + 1 => (usedTo_pre a C k m).trans (List.prefix_append _ _)
theorem usedTo_len (a : Int) (C : List CapT) : ∀ k, (usedTo a C k).length ≤ k
  | 0 => Nat.le_refl _
  | k + 1 => by
    show (usedTo a C k ++ _).length ≤ k + 1
    have := usedTo_len a C k
    rw [List.length_append]
    have h2 : (match C[k]? with
      | some c => if eqC c capZ = true then [] else [((a, ((k : Nat) : Int)), c)]
      | none => [] : List HdT).length ≤ 1 := by
      split
      · split <;> simp
      · simp
    omega
theorem usedD_app (A B : SD) : usedD (A ++ B) = usedD A ++ usedD B := List.flatMap_append
theorem usedD_pre {D : SD} {i k : Nat} {x : Int × List CapT} (hx : D[i]? = some x) (hk : k ≤ x.2.length) : usedD (D.take i) ++ usedTo x.1 x.2 k <+: usedD D := by
  have hi := (List.getElem?_eq_some_iff.1 hx).1
  have h1 := List.take_append_drop i D
  rw [List.drop_eq_getElem_cons hi] at h1
  have h2 : D[i] = x := by rw [List.getElem?_eq_getElem hi] at hx; exact Option.some.inj hx
  rw [h2] at h1
  conv => rhs; rw [← h1]
  rw [usedD_app]
  refine (List.prefix_append_right_inj _).2 ?_
  show _ <+: usedTo x.1 x.2 x.2.length ++ usedD (D.drop (i + 1))
  have := usedTo_pre x.1 x.2 k (x.2.length - k)
  rw [show k + (x.2.length - k) = x.2.length by omega] at this
  exact this.trans (List.prefix_append _ _)
theorem usedD_len {D : SD} (h : ∀ x, x ∈ D → x.2.length ≤ 16) : (usedD D).length ≤ D.length * 16 := by
  induction D with
  | nil => simp [usedD]
  | cons x r ih =>
    rw [show x :: r = [x] ++ r from rfl, usedD_app, List.length_append]
    have h1 := ih fun y hy => h y (List.mem_cons_of_mem _ hy)
    have h2 := usedTo_len x.1 x.2 x.2.length
    have h3 := h x List.mem_cons_self
    have h4 : (usedD [x]).length ≤ 16 := by simp only [usedD, List.flatMap_cons, List.flatMap_nil, List.append_nil]; omega
    rw [List.length_append]
    show _ ≤ (1 + r.length) * 16
    omega
theorem IsS.sz {b : Nat} {D : SD} {lq : List Chunk} (h : IsS b D lq) : ∀ x, x ∈ D → 0 < x.2.length ∧ x.2.length ≤ 16 := by
  obtain ⟨S, m, es, clock, rfl, hS⟩ := h
  intro x hx
  obtain ⟨nd, hn, rfl⟩ := List.mem_map.1 hx
  exact hS.sz nd hn
set_option pp.deepTerms false
set_option pp.deepTerms.threshold 4
set_option maxHeartbeats 400000
set_option maxRecDepth 20000 in
theorem used_iter (B b : Nat) (D : SD) (lq : List Chunk) (hq : IsS b D lq) (hn : D.length ≤ 50000) :
    IterS Try.prog 64 [.pointer (some ⟨B, 0, none⟩)] (fun h : HdT => [hdV h]) (fun xs => xs = usedD D) (fun pre => pre <+: usedD D)
      (fun _ l => xB B (.pointer (some ⟨b, 0, none⟩)) ∈ l ∧ ∀ c, c ∈ lq → c ∈ l) := by
  refine ⟨fun r I Ix G0 hneed hY l G hG h0 => ?_⟩
  obtain ⟨S, m, es, clock, rfl, hS⟩ := hq
  obtain ⟨n1, n2⟩ := hneed _ _ G hG h0
  have n3 := n2 _ hS.m1
  have n4 := n2 _ hS.m2
  have hSl : S.length ≤ 50000 := by simpa using hn
  refine fn_of_body Try.func64 rfl rfl fun E => ?_
  simp only [argF, Try.ntmps64]
  refine gz ?_
  refine t_e (e_call0 rfl rfl (keys_any (some m) _)) rfl rfl rfl ?_
  rintro _ _ ⟨B', rfl, rfl⟩
  refine gz ?_
  refine t_e (e_call0 rfl rfl (mapKeys_any B' m clock es hS.mb.ok.stamps hS.mb.ok.below (by rw [hS.mb.len]; omega) _ (.head _) (.tail _ n4))) rfl rfl rfl ?_
  rintro v _ ⟨xs, cs, hxs, ho, rfl⟩
  rw [hS.mb.sorted hxs] at ho
  have hv1 : v.oneCell' = true := ho.one
  obtain ⟨p, cap, rfl, hR⟩ := ho.ints (l := cs) fun c hc => hc
  have hlen : (S.map NdS.id).length = S.length := List.length_map ..
  refine gz ?_
  refine k_loop (α := Nat × List Chunk) (fun x => [(0, .func (.yield r) #[] #[]), (1, .pointer (some ⟨B, 0, none⟩)), (14, .slice p (S.map NdS.id).length cap), (15, .int .i64 (S.map NdS.id).length), (16, .int .i64 x.1)]) (fun x => x.2 ++ (cs ++ G)) (fun x => x.1 ≤ S.length ∧ I (usedD ((S.map NdS.d).take x.1)) x.2) (fun x => S.length - x.1) (0, l) ⟨Nat.zero_le _, h0⟩ ⟨rfl, rfl, rfl, rfl, rfl, trivial⟩ ?_ ?_
  · exact Keep.trans (Keep.in_mid cs [_] (l ++ G)) (.drop (Keep.in_mid cs l G))
  clear n1 n2 n3 n4
  rintro ⟨i, l⟩ ⟨hi, hI⟩
  simp only at hi hI ⊢
  obtain ⟨n1, n2⟩ := hneed _ _ (cs ++ G) (fun c hc => List.mem_append_right _ (hG c hc)) hI
  have n3 := n2 _ hS.m1
  have n4 := n2 _ hS.m2
  by_cases hlt : i < S.length
  · obtain ⟨b9, cl, t9, fz, rfl, hmc, hcl⟩ := hR (by omega)
    have hm' : (b9, Obj.cells cl t9 fz) ∈ l ++ (cs ++ G) := List.mem_append_right _ (List.mem_append_left _ hmc)
    obtain ⟨nd, hnd⟩ : ∃ nd, S[i]? = some nd := ⟨_, List.getElem?_eq_getElem hlt⟩
    have hmem := List.mem_of_getElem? hnd
    have hc := hcl i nd.id (by rw [List.getElem?_map, hnd]; rfl)
    have hlk : (getE nd.id es).getD (.slice none 0 0) = nd.val := by rw [hS.look, hS.mb.at_ hmem]
    have hdi : (S.map NdS.d)[i]? = some nd.d := by rw [List.getElem?_map, hnd]; rfl
    have hsz := hS.sz nd hmem
    refine gz ?_
    rw [hlk]
    refine gz ?_
    refine k_loop (α := Nat × List Chunk) (fun x => [(0, .func (.yield r) #[] #[]), (1, .pointer (some ⟨B, 0, none⟩)), (4, .int .i64 nd.id), (14, .slice (some ⟨b9, 0, none⟩) (S.map NdS.id).length cap), (15, .int .i64 (S.map NdS.id).length), (16, .int .i64 i), (25, nd.val), (26, .int .i64 nd.C.length), (27, .int .i64 x.1)]) (fun x => x.2 ++ (cs ++ G)) (fun x => x.1 ≤ nd.C.length ∧ I (usedD ((S.map NdS.d).take i) ++ usedTo nd.id nd.C x.1) x.2) (fun x => nd.C.length - x.1) (0, l) ⟨Nat.zero_le _, by show I (_ ++ []) l; rw [List.append_nil]; exact hI⟩ ⟨rfl, rfl, rfl, rfl, rfl, rfl, rfl, rfl, rfl, trivial⟩ .refl ?_
    clear n1 n2 n3 n4 hI hm'
    rintro ⟨k, l⟩ ⟨hk, hI⟩
    simp only at hk hI ⊢
    obtain ⟨n1, n2⟩ := hneed _ _ (cs ++ G) (fun c hc => List.mem_append_right _ (hG c hc)) hI
    have hmb := n2 _ (hS.m3 hmem)
    by_cases hkl : k < nd.C.length
    · obtain ⟨c, hcc⟩ : ∃ c, nd.C[k]? = some c := ⟨_, List.getElem?_eq_getElem hkl⟩
      obtain ⟨g1, g2⟩ := ccs_at hcc
      refine gz ?_
      refine t_q (q_loadA (n := 8) rfl hmb g2 g1) rfl rfl rfl ?_
      refine t_e e_alloc rfl rfl rfl ?_; rintro _ _ ⟨b6, _, rfl, rfl⟩
      refine gz ?_
      refine t_q (q_neagg (ys := encC capZ) rfl rfl (encC_k c) (encC_k _)) rfl rfl rfl ?_
      rw [show eqCells (encC c) (encC capZ) = eqC c capZ from rfl]
      cases he : eqC c capZ with
      | true =>
        refine gz ?_
        exact k_next (k + 1, l) ⟨by simp only; omega, by simp only; rw [usedTo_f hcc he]; exact hI⟩ (by simp only; omega) ⟨rfl, rfl, rfl, rfl, rfl, rfl, rfl, rfl, rfl, trivial⟩ (.drop .refl)
      | false =>
        have hpre : (usedD ((S.map NdS.d).take i) ++ usedTo nd.id nd.C k) ++ [((nd.id, ((k : Nat) : Int)), c)] <+: usedD (S.map NdS.d) := by
          rw [List.append_assoc, ← usedTo_t hcc he]
          exact usedD_pre hdi (by show k + 1 ≤ nd.C.length; omega)
        have hy := hY _ ((nd.id, ((k : Nat) : Int)), c) l (capC b6 c :: (cs ++ G)) (fun x hx => .tail _ (List.mem_append_right _ (hG x hx))) hI hpre
        refine gz ?_
        refine s_keep (Keep.of_perm (l' := l ++ (capC b6 c :: (cs ++ G))) List.perm_middle.symm) ?_
        refine t_eh (e_yield rfl rfl hy) rfl rfl rfl ?_
        rintro w l' ⟨l1, rfl, ⟨rfl, hI'⟩ | ⟨rfl, hx⟩⟩
        · refine gz ?_
          exact k_next (k + 1, l1) ⟨by simp only; omega, by simp only; rw [usedTo_t hcc he, ← List.append_assoc]; exact hI'⟩ (by simp only; omega) ⟨rfl, rfl, rfl, rfl, rfl, rfl, rfl, rfl, rfl, trivial⟩ (Keep.trans (.of_perm List.perm_middle) (.drop .refl))
        · refine gz ?_
          exact k_ret [] rfl (Keep.trans (.of_perm List.perm_middle) (.drop (Keep.trans (Keep.in_mid l1 cs G) (Keep.dropL cs .refl)))) (by exact zRes) ⟨l1, rfl, .inr ⟨_, hpre, hx⟩⟩
    · obtain rfl : k = nd.C.length := by omega
      refine gz ?_
      refine k_next (i + 1, l) ⟨by simp only; omega, ?_⟩ (by simp only; omega) ⟨rfl, rfl, rfl, rfl, rfl, trivial⟩ .refl
      simp only
      rw [List.take_add_one, hdi, usedD_app]
      show I (_ ++ usedD [nd.d]) l
      rw [show usedD [nd.d] = usedTo nd.id nd.C nd.C.length by simp [usedD]]
      exact hI
  · obtain rfl : i = S.length := by omega
    rw [show (S.map NdS.d).take S.length = S.map NdS.d from List.take_of_length_le (by simp)] at hI
    refine gz ?_
    exact k_ret [] rfl (Keep.trans (Keep.in_mid l cs G) (Keep.dropL cs .refl)) (by exact zRes) ⟨l, rfl, .inl ⟨_, rfl, hI⟩⟩
theorem all_any (b : Nat) (D : SD) (lq : List Chunk) (hq : IsS b D lq) (hn : D.length ≤ 50000) (l : List Chunk) (hsub : ∀ c, c ∈ lq → c ∈ l) :
    Fn Try.prog 40 [.pointer (some ⟨b, 0, none⟩)] l fun v l' => ∃ cs, OwnSl 93 10 v (usedD D).length (hcs (usedD D)) cs ∧ l' = cs ++ l := by
  have hlen := usedD_len fun x hx => (hq.sz x hx).2
  refine fn_of_body Try.func40 rfl rfl fun E => ?_
  simp only [argF, Try.ntmps40]
  refine gz ?_
  refine t_e (e_call0 rfl rfl (used_any _ rfl _)) rfl rfl rfl ?_
  rintro _ _ ⟨B, rfl, rfl⟩
  refine gz ?_
  refine t_e (e_call0 rfl rfl (collectE_any 64 [.pointer (some ⟨B, 0, none⟩)] _ _ _ (used_iter B b D lq hq hn) (usedD D).length (fun pre h => h.length_le) (by omega) _ fun _ l2 hl => ⟨hl _ (.head _), fun c hc => hl _ (.tail _ (hsub c hc))⟩)) rfl rfl rfl ?_
  rintro v _ ⟨_, cs, rfl, ho, rfl⟩
  have hv1 : v.oneCell' = true := ho.one
  refine gz ?_
  refine k_ret [] rfl (l' := cs ++ l) (Keep.trans (.of_perm List.perm_middle) (.drop .refl)) (by exact zRes) ?_
  exact ⟨cs, ho, rfl⟩
end Go.Proofs.Ytpplknmmjlgadaa

/- Rows of any flat struct that came in, as blocks. -/
set_option linter.unusedVariables false
set_option linter.unusedSimpArgs false
namespace Go.Proofs.Ytpplknmmjlgadaa
open Go.RowKit

def InRows (l : List Chunk) (a : Option Addr) (n k : Nat) (rows : List (List Value)) : Prop :=
  0 < n → ∃ bB off cs t fz, a = some ⟨bB, off, none⟩ ∧ (bB, Obj.cells cs t fz) ∈ l ∧ ∀ i row, rows[i]? = some row → off + i * k + k ≤ cs.size ∧ cs.extract (off + i * k) (off + i * k + k) = List.toArray row ∧ ∀ j v, row[j]? = some v → cs[off + i * k + j]? = some v
theorem rows_in {W : World} {a : Option Addr} {n cap : Nat} {rows : List (List Value)} {ks : List (Option IntKind)} (h : IsRows ks W a n cap rows) (hk : 0 < ks.length) : InRows (allOf W) a n ks.length rows := by
  intro h0
  obtain ⟨b, off, rfl, hb, hcell⟩ := h.at_ h0
  have hr0 : ∃ r0, rows[0]? = some r0 := ⟨_, List.getElem?_eq_getElem (by rw [h.size]; exact h0)⟩
  obtain ⟨r0, hr0⟩ := hr0
  have c0 := hcell 0 0 h0 hk
  rw [hr0, Option.getD_some] at c0
  have hl0 := (h.all r0 (List.mem_of_getElem? hr0)).len
  have e0 : r0[0]? = some (r0[0]'(by omega)) := List.getElem?_eq_getElem (by omega)
  unfold World.cell? at c0
  split at c0
  · rename_i cs t fz hob
    have hob' : W.heap[b]? = some (.cells cs t fz) := hob
    refine ⟨b, off, cs, t, fz, rfl, (allOf_mem W b _).2 hob', fun i row hrow => ?_⟩
    have hi : i < n := by have := (List.getElem?_eq_some_iff.1 hrow).1; rw [h.size] at this; exact this
    have hl := (h.all row (List.mem_of_getElem? hrow)).len
    have hc : ∀ j, j < ks.length → cs[off + i * ks.length + j]? = row[j]? := fun j hj => by
      have := hcell i j hi hj
      rw [blk_cell hob', hrow, Option.getD_some] at this
      exact this
    have hlast := hc (ks.length - 1) (by omega)
    rw [List.getElem?_eq_getElem (show ks.length - 1 < row.length by omega)] at hlast
    have hlt := (Array.getElem?_eq_some_iff.1 hlast).1
    refine ⟨by omega, ?_, fun j v hv => ?_⟩
    · apply Array.ext_getElem?
      intro j
      rw [Array.getElem?_extract]
      by_cases hj : j < ks.length
      · rw [if_pos (by omega), hc j hj, List.getElem?_toArray]
      · rw [if_neg (by omega), List.getElem?_toArray, List.getElem?_eq_none (by omega)]
    · have hj := (List.getElem?_eq_some_iff.1 hv).1
      rw [hc j (by omega)]; exact hv
  · rw [e0] at c0
    cases c0
end Go.Proofs.Ytpplknmmjlgadaa

/- SlotsOwn: what is read of slots; the acts; the walk. -/
set_option linter.unusedVariables false
set_option linter.unusedSimpArgs false
namespace Go.Proofs.Ytpplknmmjlgadaa
open Go.RowKit
set_option maxRecDepth 20000
set_option maxRecDepth 20000

theorem asc_at {α : Type} {key : α → Int} {L : List α} (h : L.Pairwise fun x y => key x < key y) {t : α} (ht : t ∈ L) : findK key L (key t) = some t := by
  have hnd : (L.map key).Nodup := List.pairwise_map.2 (h.imp fun hxy => by omega)
  cases hf : findK key L (key t) with
  | none => exact absurd rfl (findK_none.1 hf t ht)
  | some u => obtain ⟨h1, h2⟩ := findK_some hf; rw [nd_stamp hnd h1 ht h2]
theorem IsS.asc {b : Nat} {D : SD} {lq : List Chunk} (h : IsS b D lq) : D.Pairwise fun x y => x.1 < y.1 := by
  obtain ⟨S, m, es, clock, rfl, hS⟩ := h
  exact List.pairwise_map.2 hS.mb.asc
theorem find_put (D : SD) (s : slT) (c : CapT) (a : Int) : findK Prod.fst (putD D s c) a = (findK Prod.fst D a).map fun x => if x.1 = s.1 then (x.1, x.2.set s.2.toNat c) else x := by
  unfold findK putD
  rw [List.find?_map]
  have e : ((fun t : Int × List CapT => decide (t.1 = a)) ∘ fun x => if x.1 = s.1 then (x.1, x.2.set s.2.toNat c) else x) = fun t => decide (t.1 = a) := by
    funext x
    show decide ((if x.1 = s.1 then (x.1, x.2.set s.2.toNat c) else x).1 = a) = decide (x.1 = a)
    split <;> rfl
  rw [e]
theorem size_put (D : SD) (s : slT) (c : CapT) (a : Int) : sizeD (putD D s c) a = sizeD D a := by
  unfold sizeD
  rw [find_put]
  cases findK Prod.fst D a with
  | none => rfl
  | some x =>
    simp only [Option.map_some]
    split
    · simp
    · rfl
theorem ok_put (D : SD) (s : slT) (c : CapT) (s' : slT) : okD (putD D s c) s' = okD D s' := by unfold okD; rw [size_put]
theorem at_put {D : SD} {s : slT} {c : CapT} (h : okD D s = true) : atD (putD D s c) s = c := by
  unfold okD sizeD at h
  rw [Bool.and_eq_true, decide_eq_true_eq, decide_eq_true_eq] at h
  unfold atD
  rw [find_put]
  cases hf : findK Prod.fst D s.1 with
  | none => rw [hf] at h; simp at h; omega
  | some x =>
    rw [hf] at h
    simp only at h
    simp only [Option.map_some]
    rw [if_pos (findK_some hf).2]
    show (x.2.set s.2.toNat c).getD s.2.toNat capZ = c
    rw [List.getD_eq_getElem?_getD, List.getElem?_set_self (by omega)]; rfl
theorem at_put_ne {D : SD} {s s' : slT} {c : CapT} (h0 : 0 ≤ s.2) (h0' : 0 ≤ s'.2) (h : s' ≠ s) : atD (putD D s c) s' = atD D s' := by
  unfold atD
  rw [find_put]
  cases hf : findK Prod.fst D s'.1 with
  | none => rfl
  | some x =>
    simp only [Option.map_some]
    split
    · rename_i hx
      have hx2 := (findK_some hf).2
      have hne : s'.2 ≠ s.2 := fun e => h (Prod.ext (by rw [← hx2, hx]) e)
      show (x.2.set s.2.toNat c).getD s'.2.toNat capZ = x.2.getD s'.2.toNat capZ
      rw [List.getD_eq_getElem?_getD, List.getD_eq_getElem?_getD, List.getElem?_set_ne (by omega)]
    · rfl
theorem usedTo_mem {a : Int} {C : List CapT} {h : HdT} : ∀ {k : Nat}, h ∈ usedTo a C k → ∃ j : Nat, h.1 = (a, (j : Int)) ∧ C[j]? = some h.2
  | 0, hm => by cases hm
  | k + 1, hm => by
    rcases List.mem_append.1 hm with hm | hm
    · exact usedTo_mem hm
    · split at hm
      · rename_i c hc
        split at hm
        · cases hm
        · rw [List.mem_singleton.1 hm]; exact ⟨k, rfl, hc⟩
      · cases hm
theorem used_at {D : SD} (hs : D.Pairwise fun x y => x.1 < y.1) {h : HdT} (hm : h ∈ usedD D) : okD D h.1 = true ∧ atD D h.1 = h.2 ∧ 0 ≤ h.1.2 := by
  obtain ⟨x, hx, h2⟩ := List.mem_flatMap.1 hm
  obtain ⟨j, h3, h4⟩ := usedTo_mem h2
  have hf := asc_at (key := Prod.fst) hs hx
  have hj := (List.getElem?_eq_some_iff.1 h4).1
  rw [h3]
  refine ⟨?_, ?_, by simp⟩
  · unfold okD sizeD
    simp only
    rw [hf]
    simp only
    rw [decide_eq_true (by omega), decide_eq_true (by omega)]; rfl
  · unfold atD
    simp only
    rw [hf]
    show x.2.getD ((j : Nat) : Int).toNat capZ = h.2
    rw [List.getD_eq_getElem?_getD, Int.toNat_natCast, h4]; rfl
/-- three nodes of four slots -/
def Room (D : SD) : Prop := D.map Prod.fst = [1, 2, 3] ∧ ∀ x, x ∈ D → x.2.length = 4
theorem Room.put {D : SD} (h : Room D) (s : slT) (c : CapT) : Room (putD D s c) := by
  refine ⟨?_, fun x hx => ?_⟩
  · rw [← h.1]
    unfold putD
    rw [List.map_map]
    apply List.map_congr_left
    intro x _
    show (if x.1 = s.1 then (x.1, x.2.set s.2.toNat c) else x).1 = x.1
    split <;> rfl
  · obtain ⟨y, hy, rfl⟩ := List.mem_map.1 hx
    split
    · simp [h.2 y hy]
    · exact h.2 y hy
theorem Room.ok {D : SD} (h : Room D) {s : slT} (h1 : 1 ≤ s.1) (h2 : s.1 ≤ 3) (h3 : 0 ≤ s.2) (h4 : s.2 < 4) : okD D s = true := by
  have hm : s.1 ∈ D.map Prod.fst := by rw [h.1]; simp; omega
  obtain ⟨x, hx, he⟩ := List.mem_map.1 hm
  unfold okD sizeD
  cases hf : findK Prod.fst D s.1 with
  | none => exact absurd he (findK_none.1 hf x hx)
  | some y =>
    have := h.2 y (findK_some hf).1
    have hlt : s.2 < ((y.2.length : Nat) : Int) := by omega
    simp [h3, hlt]
theorem set_room {D : SD} {s : slT} {c : CapT} (h : okD D s = true) : setD D s c = if mayC c = true then (0, putD D s c) else (5, D) := by unfold setD; rw [if_pos h]
abbrev Z4 : List CapT := [capZ, capZ, capZ, capZ]
theorem ow1 : addN [] 1 4 = (0, [(1, Z4)]) := rfl
theorem ow2 : addN [(1, Z4)] 2 4 = (0, [(1, Z4), (2, Z4)]) := rfl
theorem ow3 : addN [(1, Z4), (2, Z4)] 3 4 = (0, [(1, Z4), (2, Z4), (3, Z4)]) := rfl
theorem room0 : Room [(1, Z4), (2, Z4), (3, Z4)] := ⟨rfl, by simp⟩
abbrev ActS := (Int × Int) × slT × CapT
abbrev encR (x : ActS) : List Value := encA x.1.1 x.1.2 x.2.1 x.2.2
theorem acts_of : ∀ {rows : List (List Value)}, (∀ r, r ∈ rows → ∃ x : ActS, r = encR x) → ∃ xs : List ActS, rows = xs.map encR
  | [], _ => ⟨[], rfl⟩
  | r :: rows, h => by
    obtain ⟨x, hx⟩ := h r List.mem_cons_self
    obtain ⟨xs, hxs⟩ := acts_of fun r' hr' => h r' (List.mem_cons_of_mem _ hr')
    exact ⟨x :: xs, by rw [hx, hxs]; rfl⟩
theorem acts_rows {W : World} {a : Option Addr} {n cap : Nat} {rows : List (List Value)} (h : IsRows (some .i64 :: some .i64 :: some .i64 :: some .i64 :: capK) W a n cap rows) : ∃ acts : List ActS, acts.length = n ∧ InRows (allOf W) a n 12 (acts.map encR) := by
  obtain ⟨acts, hx⟩ := acts_of (rows := rows) fun r hr => by
    obtain ⟨_, _, rfl, ⟨d, rfl, _⟩, _, _, rfl, ⟨i, rfl, _⟩, _, _, rfl, ⟨s1, rfl, _⟩, _, _, rfl, ⟨s2, rfl, _⟩, h2⟩ := h.all r hr
    obtain ⟨c, rfl⟩ := cap_of h2
    exact ⟨((d, i), (s1, s2), c), rfl⟩
  refine ⟨acts, ?_, ?_⟩
  · have := h.size; rw [hx] at this; simpa using this
  · rw [← hx]; exact rows_in h (by decide)
theorem ext_cells {xs : Array Value} {o : Nat} {ys : List Value} (hle : o + ys.length ≤ xs.size) (h : ∀ j v, ys[j]? = some v → xs[o + j]? = some v) : xs.extract o (o + ys.length) = List.toArray ys := by
  apply Array.ext_getElem?
  intro j
  have e : (List.toArray ys)[j]? = ys[j]? := by simp
  rw [Array.getElem?_extract, e]
  by_cases hj : j < ys.length
  · rw [if_pos (by omega), h j _ (List.getElem?_eq_getElem hj), List.getElem?_eq_getElem hj]
  · rw [if_neg (by omega), List.getElem?_eq_none (by omega)]
theorem ext_part {xs : Array Value} {o k j n : Nat} {ys : List Value} (h : xs.extract o (o + k) = List.toArray ys) (hle : o + k ≤ xs.size) (hj : j + n ≤ k) : xs.extract (o + j) (o + j + n) = List.toArray ((ys.drop j).take n) := by
  apply Array.ext_getElem?
  intro i
  have e : (List.toArray ((ys.drop j).take n))[i]? = ((ys.drop j).take n)[i]? := by simp
  rw [Array.getElem?_extract, e]
  by_cases hi : i < n
  · rw [if_pos (by omega), List.getElem?_take_of_lt hi, List.getElem?_drop]
    have e2 : (List.toArray ys)[j + i]? = ys[j + i]? := by simp
    rw [← e2, ← h, Array.getElem?_extract, if_pos (by omega), Nat.add_assoc]
  · rw [if_neg (by omega), List.getElem?_eq_none (by simp; omega)]
theorem OwnSl.hds {v : Value} {L : List HdT} {cs l : List Chunk} (h : OwnSl 93 10 v L.length (hcs L) cs) (hs : ∀ c, c ∈ cs → c ∈ l) : RowSl l v 10 encE L := OwnSl.rowSl (enc := encE) h (fun _ => rfl) hs
instance : EQ Try.prog 23 [some .i64, some .i64] := ⟨by kernel_rfl⟩
theorem encT_k (s : slT) : AllK [some .i64, some .i64] (encT s) := ⟨_, _, rfl, ⟨_, rfl⟩, _, _, rfl, ⟨_, rfl⟩, rfl⟩
theorem eqT_f {x y : slT} (h : x ≠ y) : eqCells (encT x) (encT y) = false := by
  cases h2 : eqCells (encT x) (encT y) with
  | false => rfl
  | true =>
    have := (eqCells_iff (encT_k x) (encT_k y)).1 h2
    simp only [encT, List.cons.injEq, Value.int.injEq, true_and, and_true] at this
    exact absurd (Prod.ext this.1 this.2) h
end Go.Proofs.Ytpplknmmjlgadaa

/- Chapter 15's own answer: the state; at, Size, Has, Get. -/
set_option linter.unusedVariables false
set_option linter.unusedSimpArgs false
namespace Go.Proofs.Ytpplknmmjlgadaa
open Go.RowKit
set_option maxRecDepth 20000
set_option maxRecDepth 20000

section
variable {α : Type} {key : α → Int}
def idxK (key : α → Int) (L : List α) (a : Int) : Int := if (findK key L a).isSome = true then ((L.takeWhile fun t => decide (key t ≠ a)).length : Nat) else -1
theorem idx_of {L : List α} {a : Int} {t : α} (h : findK key L a = some t) : ∃ A B, L = A ++ t :: B ∧ idxK key L a = (A.length : Nat) ∧ key t = a ∧ (∀ x, x ∈ A → key x ≠ a) ∧ L[A.length]? = some t := by
  obtain ⟨A, B, rfl, ht, hA⟩ := find_split h
  refine ⟨A, B, rfl, ?_, ht, hA, by rw [List.getElem?_append_right (Nat.le_refl _), Nat.sub_self]; rfl⟩
  unfold idxK
  rw [h, List.takeWhile_append_of_pos fun x hx => by simpa using hA x hx, List.takeWhile_cons_of_neg (by simpa using ht), List.append_nil]; rfl
theorem idx_neg {L : List α} {a : Int} (h : findK key L a = none) : idxK key L a = -1 := by unfold idxK; rw [h]; rfl
theorem idx_hit {L : List α} {a : Int} {k : Nat} {x : α} (hx : L[k]? = some x) (hs : key x = a) (hn : ∀ j y, j < k → L[j]? = some y → key y ≠ a) : idxK key L a = (k : Nat) := by
  have hk := (List.getElem?_eq_some_iff.1 hx).1
  have hL : L = L.take k ++ x :: L.drop (k + 1) := by
    have h1 := List.take_append_drop k L
    rw [List.drop_eq_getElem_cons hk] at h1
    have h2 : L[k] = x := by rw [List.getElem?_eq_getElem hk] at hx; exact Option.some.inj hx
    rw [h2] at h1; exact h1.symm
  have hA : ∀ y, y ∈ L.take k → key y ≠ a := fun y hy => by
    obtain ⟨j, hj⟩ := List.mem_iff_getElem?.1 hy
    rw [List.getElem?_take] at hj
    split at hj
    · exact hn j y (by assumption) hj
    · cases hj
  have hf : findK key L a = some x := by
    unfold findK
    rw [hL, find_append, List.find?_eq_none.2 fun y hy => by simpa using hA y hy, Option.none_or, List.find?_cons, decide_eq_true hs]
  unfold idxK
  rw [hf]
  have : L.takeWhile (fun t => decide (key t ≠ a)) = L.take k := by
    conv => lhs; rw [hL]
    rw [List.takeWhile_append_of_pos fun y hy => by simpa using hA y hy, List.takeWhile_cons_of_neg (by simpa using hs), List.append_nil]
  rw [this, List.length_take, Nat.min_eq_left (Nat.le_of_lt hk)]; rfl
end
abbrev encN (nd : NdS) : List Value := [.int .i64 nd.id, nd.val]
def ncs (S : List NdS) : List Value := S.flatMap encN
theorem ncs_at {xs : Array Value} {o : Nat} {nd : NdS} (h : xs.extract o (o + 2) = List.toArray (encN nd)) (hle : o + 2 ≤ xs.size) : xs[o]? = some (.int .i64 nd.id) ∧ xs[o + 1]? = some nd.val := by
  have e : ∀ j, j < 2 → xs[o + j]? = (encN nd)[j]? := fun j hj => by
    have e2 : (List.toArray (encN nd))[j]? = (encN nd)[j]? := by simp
    rw [← e2, ← h, Array.getElem?_extract, if_pos (by omega)]
  exact ⟨e 0 (by omega), e 1 (by omega)⟩
set_option pp.deepTerms false
set_option pp.deepTerms.threshold 4
set_option maxHeartbeats 400000
theorem ok_split {S : List NdS} {s : slT} (hok : okD (S.map NdS.d) s = true) : ∃ nd k c, findK NdS.id S s.1 = some nd ∧ s.2 = ((k : Nat) : Int) ∧ nd.C[k]? = some c ∧ atD (S.map NdS.d) s = c := by
  have hok2 := hok
  unfold okD sizeD at hok2
  rw [Bool.and_eq_true, decide_eq_true_eq, decide_eq_true_eq, find_d] at hok2
  cases hf : findK NdS.id S s.1 with
  | none => rw [hf] at hok2; simp at hok2; omega
  | some nd =>
    rw [hf] at hok2
    simp only [Option.map_some] at hok2
    obtain ⟨k, hk⟩ : ∃ k : Nat, s.2 = (k : Nat) := ⟨s.2.toNat, by omega⟩
    obtain ⟨c, hc⟩ : ∃ c, nd.C[k]? = some c := ⟨_, List.getElem?_eq_getElem (by omega)⟩
    refine ⟨nd, k, c, rfl, hk, hc, ?_⟩
    unfold atD
    rw [find_d, hf, hk]
    show nd.C.getD k capZ = c
    rw [List.getD_eq_getElem?_getD, hc]; rfl
end Go.Proofs.Ytpplknmmjlgadaa

/- Chapter 15's own answer: Set, Drop. -/
set_option linter.unusedVariables false
set_option linter.unusedSimpArgs false
namespace Go.Proofs.Ytpplknmmjlgadaa
open Go.RowKit
set_option maxRecDepth 20000
set_option maxRecDepth 20000

theorem ncs_app (A B : List NdS) : ncs (A ++ B) = ncs A ++ ncs B := List.flatMap_append
theorem ncs_l (A : List NdS) : (ncs A).length = A.length * 2 := by
  induction A with
  | nil => rfl
  | cons x r ih => rw [show x :: r = [x] ++ r from rfl, ncs_app, List.length_append, ih, List.length_append, Nat.add_mul]; rfl
theorem ncs_ones {S : List NdS} : ∀ u ∈ ncs S, u.oneCell' = true := fun u hu => by
  obtain ⟨x, _, hx⟩ := List.mem_flatMap.1 hu
  simp only [encN, List.mem_cons, List.not_mem_nil, or_false] at hx
  rcases hx with rfl | rfl <;> rfl
theorem encN_ones (x : NdS) : ∀ u ∈ encN x, u.oneCell' = true := fun u hx => by
  simp only [encN, List.mem_cons, List.not_mem_nil, or_false] at hx
  rcases hx with rfl | rfl <;> rfl
theorem ncs_fst {A B : List NdS} {sp : List Value} {j : Nat} {u : Value} (h : (ncs A)[j]? = some u) : (List.toArray (ncs (A ++ B) ++ sp))[0 + j]? = some u := by
  have hl := (List.getElem?_eq_some_iff.1 h).1
  rw [Nat.zero_add, List.getElem?_toArray, ncs_app, List.append_assoc, List.getElem?_append_left hl]; exact h
theorem ncs_snd {A B : List NdS} {sp : List Value} {j : Nat} {u : Value} (h : (ncs B)[j]? = some u) : (List.toArray (ncs (A ++ B) ++ sp))[A.length * 2 + j]? = some u := by
  have hl := (List.getElem?_eq_some_iff.1 h).1
  rw [List.getElem?_toArray, ncs_app, List.append_assoc, List.getElem?_append_right (by rw [ncs_l]; omega), ncs_l, Nat.add_sub_cancel_left, List.getElem?_append_left hl]; exact h
theorem asc_repl {A B : List NdS} {x y : NdS} (h : (A ++ x :: B).Pairwise fun x y => x.id < y.id) (hk : y.id = x.id) : (A ++ y :: B).Pairwise fun x y => x.id < y.id := by
  obtain ⟨h2, h3, h4⟩ := List.pairwise_append.1 h
  obtain ⟨h5, h6⟩ := List.pairwise_cons.1 h3
  refine List.pairwise_append.2 ⟨h2, List.pairwise_cons.2 ⟨fun z hz => by rw [hk]; exact h5 z hz, h6⟩, fun z hz w hw => ?_⟩
  rcases List.mem_cons.1 hw with rfl | hw
  · rw [hk]; exact h4 z hz x List.mem_cons_self
  · exact h4 z hz w (List.mem_cons_of_mem _ hw)
theorem asc_cut {A B : List NdS} {x : NdS} (h : (A ++ x :: B).Pairwise fun x y => x.id < y.id) : (A ++ B).Pairwise fun x y => x.id < y.id :=
  h.sublist (List.Sublist.append_left (List.sublist_cons_self _ _) _)
theorem keep_drop15 (x : Chunk) (c2 cs A B G : List Chunk) (y : Chunk) : Keep (c2 ++ (x :: (cs ++ (A ++ y :: B) ++ G))) ((x :: (c2 ++ (A ++ B))) ++ G) := by
  refine Keep.trans (.of_perm List.perm_middle) ?_
  refine Keep.trans (l := x :: (c2 ++ ((A ++ y :: B) ++ G))) ?_ ?_
  · exact ⟨cs, by
      have h : (c2 ++ (cs ++ (A ++ y :: B) ++ G)).Perm (cs ++ (c2 ++ ((A ++ y :: B) ++ G))) := by
        rw [List.append_assoc]; exact List.perm_append_comm_assoc _ _ _
      exact (h.cons x).trans List.perm_middle.symm⟩
  · obtain ⟨X, hX⟩ := keep_cut A B G y
    refine ⟨X, ?_⟩
    have h1 : (x :: (c2 ++ ((A ++ y :: B) ++ G))).Perm (x :: (c2 ++ (X ++ ((A ++ B) ++ G)))) := (hX.append_left c2).cons x
    refine h1.trans ?_
    have h2 : (x :: (c2 ++ (X ++ ((A ++ B) ++ G)))).Perm (X ++ (x :: (c2 ++ ((A ++ B) ++ G)))) := by
      have := (List.perm_append_comm_assoc c2 X ((A ++ B) ++ G)).cons x
      exact this.trans List.perm_middle.symm
    refine h2.trans (.of_eq ?_)
    simp
set_option pp.deepTerms false
set_option pp.deepTerms.threshold 4
set_option maxHeartbeats 400000
def ValD (D : SD) : Prop := ∀ x, x ∈ D → ∀ c, c ∈ x.2 → c.kind = 0 → c = capZ
end Go.Proofs.Ytpplknmmjlgadaa

/- Chapter 15's own answer: Add. -/
set_option linter.unusedVariables false
set_option linter.unusedSimpArgs false
namespace Go.Proofs.Ytpplknmmjlgadaa
open Go.RowKit
set_option maxRecDepth 20000
set_option maxRecDepth 20000

theorem ncs_snoc (S : List NdS) (x : NdS) : ncs (S ++ [x]) = ncs S ++ encN x := by simp [ncs]
theorem ins_asc {α : Type} {key : α → Int} {L : List α} {t : α} (h : L.Pairwise fun x y => key x < key y) (hn : findK key L (key t) = none) : (insK key L t).Pairwise fun x y => key x < key y := by
  obtain ⟨W, Z, e1, e2, hL, hall, hgt⟩ := ins_split h (findK_none.1 hn)
  have hi : insK key L t = W ++ t :: Z := by unfold insK; rw [e1, e2]
  rw [hL, List.pairwise_append] at h
  rw [hi]
  refine List.pairwise_append.2 ⟨h.1, List.pairwise_cons.2 ⟨fun x hx => hgt x hx, h.2.1⟩, fun x hx y hy => ?_⟩
  have h1 := hall x hx
  rcases List.mem_cons.1 hy with rfl | hy
  · exact h1
  · have := hgt y hy; omega
theorem keep_add16 (x y : Chunk) (cv cs W Z G : List Chunk) : Keep (cv ++ (y :: (x :: (cs ++ (W ++ Z) ++ G)))) ((x :: (cv ++ (W ++ y :: Z))) ++ G) := by
  refine ⟨cs, ?_⟩
  have e1 : (cv ++ (y :: (x :: (cs ++ (W ++ Z) ++ G)))) = cv ++ ([y] ++ ([x] ++ (cs ++ (W ++ (Z ++ G))))) := by simp
  have e2 : (cs ++ ((x :: (cv ++ (W ++ y :: Z))) ++ G)) = cs ++ ([x] ++ (cv ++ (W ++ ([y] ++ (Z ++ G))))) := by simp
  rw [e1, e2]
  have h1 : (cv ++ ([y] ++ ([x] ++ (cs ++ (W ++ (Z ++ G)))))).Perm (cv ++ ([x] ++ (cs ++ (W ++ ([y] ++ (Z ++ G)))))) := by
    refine List.Perm.append_left cv ?_
    refine (List.perm_append_comm_assoc [y] [x] _).trans (List.Perm.append_left [x] ?_)
    refine (List.perm_append_comm_assoc [y] cs _).trans (List.Perm.append_left cs ?_)
    exact List.perm_append_comm_assoc [y] W _
  refine h1.trans ?_
  refine (List.perm_append_comm_assoc cv [x] _).trans ?_
  have h2 : ([x] ++ (cv ++ (cs ++ (W ++ ([y] ++ (Z ++ G)))))).Perm ([x] ++ (cs ++ (cv ++ (W ++ ([y] ++ (Z ++ G)))))) := (List.perm_append_comm_assoc cv cs _).append_left [x]
  exact h2.trans (List.perm_append_comm_assoc [x] cs _)
set_option pp.deepTerms false
set_option pp.deepTerms.threshold 4
set_option maxHeartbeats 400000
end Go.Proofs.Ytpplknmmjlgadaa

/- Chapter 15's own answer: Used. -/
set_option linter.unusedVariables false
set_option linter.unusedSimpArgs false
namespace Go.Proofs.Ytpplknmmjlgadaa
open Go.RowKit
set_option maxRecDepth 20000
set_option maxRecDepth 20000

theorem encE_ones (t : HdT) : ∀ u ∈ encE t, u.oneCell' = true := by simp [Value.oneCell']
theorem eqC_zero {c : CapT} (h : c.kind ≠ 0) : eqC c capZ = false := by
  cases he : eqC c capZ with
  | false => rfl
  | true => exact absurd (by
      have : c = capZ := by simpa [eqC_iff] using he
      rw [this]) h
theorem ext_at {xs : Array Value} {o k j : Nat} {ys : List Value} {v : Value} (h : xs.extract o (o + k) = List.toArray ys) (hle : o + k ≤ xs.size) (hj : j < k) (hv : ys[j]? = some v) : xs[o + j]? = some v := by
  have h2 : (List.toArray ys)[j]? = ys[j]? := by simp
  rw [← hv, ← h2, ← h, Array.getElem?_extract, if_pos (by omega)]
set_option pp.deepTerms false
set_option pp.deepTerms.threshold 4
set_option maxHeartbeats 400000
end Go.Proofs.Ytpplknmmjlgadaa

/- The statements' helpers for lists of structs. -/
set_option linter.unusedVariables false
set_option linter.unusedSimpArgs false
namespace Go.Proofs.Ytpplknmmjlgadaa
open Go.RowKit
set_option maxRecDepth 20000
set_option maxRecDepth 20000

abbrev hdK : List (Option IntKind) := some .i64 :: some .i64 :: capK
instance : EQ Try.prog 93 hdK := ⟨by kernel_rfl⟩
theorem encE_k (h : HdT) : AllK hdK (encE h) := ⟨_, _, rfl, ⟨_, rfl⟩, _, _, rfl, ⟨_, rfl⟩, encC_k h.2⟩
theorem encE_inj (x y : HdT) (h : encE x = encE y) : x = y := by
  have e : ∀ z : HdT, encE z = [.int .i64 z.1.1, .int .i64 z.1.2] ++ encC z.2 := fun _ => rfl
  rw [e, e] at h
  obtain ⟨h1, h2⟩ := List.append_inj h rfl
  simp only [List.cons.injEq, Value.int.injEq, true_and, and_true] at h1
  exact Prod.ext (Prod.ext h1.1 h1.2) (encC_inj _ _ h2)
set_option pp.deepTerms false
set_option pp.deepTerms.threshold 4
set_option pp.deepTerms false
set_option pp.deepTerms.threshold 4
theorem ins_len (D : SD) (x : Int × List CapT) : (insK Prod.fst D x).length = D.length + 1 := (ins_perm D x).length_eq
theorem ValD.add {D : SD} (h : ValD D) (id n : Int) : ValD (addN D id n).2 := by
  unfold addN
  split
  · exact h
  split
  · exact h
  intro x hx c hc _
  rcases mem_ins.1 hx with rfl | hx
  · exact List.eq_of_mem_replicate hc
  · exact h x hx c hc (by assumption)
theorem ValD.drop {D : SD} (h : ValD D) (a : Int) : ValD (dropN D a).2 := by
  unfold dropN
  split
  · exact h
  · split
    · exact fun x hx => h x (List.mem_filter.1 hx).1
    · exact h
theorem ValD.set {D : SD} (h : ValD D) (s : slT) (c : CapT) : ValD (setD D s c).2 := by
  unfold setD
  split
  · split
    · rename_i hM
      intro x hx d hd h0
      obtain ⟨y, hy, rfl⟩ := List.mem_map.1 hx
      split at hd
      · rcases List.mem_or_eq_of_mem_set hd with hd | rfl
        · exact h y hy d hd h0
        · exact may_zero hM h0
      · exact h y hy d hd h0
    · exact h
  · exact h
def actX (D : SD) (x : ActS) : SD := if x.1.1 = 0 then (addN D x.2.1.1 x.1.2).2 else if x.1.1 = 1 then (dropN D x.2.1.1).2 else if x.1.1 = 3 then (setD D x.2.1 x.2.2).2 else D
theorem actX_val {D : SD} (h : ValD D) (x : ActS) : ValD (actX D x) := by
  unfold actX
  split
  · exact h.add _ _
  split
  · exact h.drop _
  split
  · exact h.set _ _
  · exact h
theorem actX_len (D : SD) (x : ActS) : (actX D x).length ≤ D.length + 1 := by
  unfold actX
  split
  · unfold addN
    split
    · simp
    split
    · simp
    · rw [ins_len]; simp
  split
  · unfold dropN
    split
    · simp
    · split
      · exact Nat.le_succ_of_le (List.length_filter_le ..)
      · simp
  split
  · unfold setD
    split
    · split
      · simp [putD]
      · simp
    · simp
  · simp
theorem RowSl.mono {α : Type} {l l' : List Chunk} {v : Value} {k : Nat} {enc : α → List Value} {xs : List α} (h : RowSl l v k enc xs) (hs : ∀ c, c ∈ l → c ∈ l') : RowSl l' v k enc xs := by
  obtain ⟨a, cap, h1, h2⟩ := h
  exact ⟨a, cap, h1, fun h0 => by
    obtain ⟨b, off, cs, t, fz, k1, k2, k3⟩ := h2 h0
    exact ⟨b, off, cs, t, fz, k1, hs _ k2, k3⟩⟩
end Go.Proofs.Ytpplknmmjlgadaa

/- Rows of numbers told by a function. -/
set_option linter.unusedVariables false
set_option linter.unusedSimpArgs false
namespace Go.Proofs.Ytpplknmmjlgadaa
open Go.RowKit

def upd {α : Type} (f : Nat → α) (k : Nat) (v : α) : Nat → α := fun i => if i = k then v else f i
theorem upd_same {α : Type} (f : Nat → α) (k : Nat) (v : α) : upd f k v k = v := if_pos rfl
theorem upd_other {α : Type} (f : Nat → α) (k i : Nat) (v : α) (h : i ≠ k) : upd f k v i = f i := if_neg h
theorem upd_upd {α : Type} (f : Nat → α) (k : Nat) (v w : α) : upd (upd f k v) k w = upd f k w := by funext i; unfold upd; split <;> rfl
/-- f a, f (a + 1), .. (n of them) -/
def seqI (f : Nat → Int) (a n : Nat) : List Int := (List.range n).map fun j => f (a + j)
theorem seqI_len (f : Nat → Int) (a n : Nat) : (seqI f a n).length = n := by simp [seqI]
theorem seqI_succ (f : Nat → Int) (a n : Nat) : seqI f a (n + 1) = seqI f a n ++ [f (a + n)] := by simp [seqI, List.range_succ]
theorem seqI_cons (f : Nat → Int) (a n : Nat) : seqI f a (n + 1) = f a :: seqI f (a + 1) n := by
  simp only [seqI, List.range_succ_eq_map, List.map_cons, List.map_map, Nat.add_zero]
  congr 1
  apply List.map_congr_left
  intro j _
  simp only [Function.comp_apply]; congr 1; omega
theorem seqI_mem {f : Nat → Int} {a n : Nat} {x : Int} (h : x ∈ seqI f a n) : ∃ j, j < n ∧ x = f (a + j) := by
  simp only [seqI, List.mem_map, List.mem_range] at h
  obtain ⟨j, hj, e⟩ := h
  exact ⟨j, hj, e.symm⟩
theorem seqI_congr {f g : Nat → Int} {a n : Nat} (h : ∀ j, j < n → f (a + j) = g (a + j)) : seqI f a n = seqI g a n := by
  unfold seqI; apply List.map_congr_left; intro j hj; exact h j (List.mem_range.1 hj)
abbrev fLo : Nat → Int := fun j => 1 + (j : Int)
end Go.Proofs.Ytpplknmmjlgadaa

/- The tree as plain data and its blocks: nodes told by a function of their block; New, of. -/
set_option linter.unusedVariables false
set_option linter.unusedSimpArgs false
namespace Go.Proofs.Ytpplknmmjlgadaa.Tr
open Go.RowKit
set_option maxRecDepth 20000
set_option maxRecDepth 20000

abbrev SlotT := Int × Int
abbrev encT (s : SlotT) : List Value := [.int .i64 s.1, .int .i64 s.2]
theorem encT_ok : EncOk encT [some .i64, some .i64] := ⟨fun a => ⟨_, _, rfl, ⟨_, rfl⟩, _, _, rfl, ⟨_, rfl⟩, rfl⟩, fun a b h => by
  simp only [encT, List.cons.injEq, Value.int.injEq, true_and, and_true] at h
  exact Prod.ext h.1 h.2⟩
structure NdT where
  sl : SlotT
  dp : Int
  pv : Nat
  nx : Nat
abbrev NdT.cells (x : NdT) : List Value := [.int .i64 x.sl.1, .int .i64 x.sl.2, .int .i64 x.dp, .pointer (some ⟨x.pv, 0, none⟩), .pointer (some ⟨x.nx, 0, none⟩)]
abbrev ndC (p : Nat) (x : NdT) : Chunk := (p, .cells (List.toArray x.cells) 77 (0, 0))
def chs (F : Nat → NdT) (all : List Nat) : List Chunk := all.map fun p => ndC p (F p)
theorem chs_mem {F : Nat → NdT} {all : List Nat} {p : Nat} (h : p ∈ all) : ndC p (F p) ∈ chs F all := List.mem_map.2 ⟨p, h, rfl⟩
theorem chs_congr {F F' : Nat → NdT} {all : List Nat} (h : ∀ p, p ∈ all → F p = F' p) : chs F all = chs F' all := List.map_congr_left fun p hp => by rw [h p hp]
theorem chs_upd {F : Nat → NdT} {all : List Nat} {p : Nat} (x : NdT) (hn : all.Nodup) (hp : p ∈ all) : Upd (chs F all) p (ndC p (F p)).2 (ndC p x).2 (chs (upd F p x) all) := by
  induction all with
  | nil => cases hp
  | cons q all ih =>
    rw [List.nodup_cons] at hn
    by_cases e : q = p
    · subst e
      have h1 : chs (upd F q x) all = chs F all := chs_congr fun r hr => upd_other _ _ _ _ fun e => hn.1 (e ▸ hr)
      show Upd (ndC q (F q) :: chs F all) q _ _ (ndC q (upd F q x q) :: chs (upd F q x) all)
      rw [upd_same, h1]
      exact .here
    · rcases List.mem_cons.1 hp with h | h
      · exact absurd h.symm e
      · show Upd (ndC q (F q) :: chs F all) p _ _ (ndC q (upd F p x q) :: chs (upd F p x) all)
        rw [upd_other _ _ _ _ e]
        exact .there (ih hn.2 h)
instance : EQ Try.prog 23 [some .i64, some .i64] := ⟨by kernel_rfl⟩
abbrev DT := List (SlotT × Int)
/-- one links to the next and back -/
def Adj (F : Nat → NdT) : List Nat → Prop
  | [] => True
  | [_] => True
  | a :: b :: r => (F a).nx = b ∧ (F b).pv = a ∧ Adj F (b :: r)
abbrev trC (b rb m : Nat) : Chunk := (b, .cells (List.toArray [.pointer (some ⟨rb, 0, none⟩), .map (some m)]) 80 (0, 0))
structure TB (b rb m : Nat) (F : Nat → NdT) (all os : List Nat) (es : List (EntS SlotT)) (clock : Nat) (lq : List Chunk) : Prop where
  eq : lq = trC b rb m :: (m, mapS encT es clock) :: chs F all
  nd : all.Nodup
  rin : rb ∈ all
  sub : ∀ p, p ∈ os → p ∈ all
  ond : (rb :: os).Nodup
  adj : Adj F (rb :: (os ++ [rb]))
  snd : (os.map fun p => (F p).sl).Nodup
  keys : KeysOk es clock
  get : ∀ s, getS s es = (os.find? fun p => decide ((F p).sl = s)).map fun p => .pointer (some ⟨p, 0, none⟩)
def dOf (F : Nat → NdT) (os : List Nat) : DT := os.map fun p => ((F p).sl, (F p).dp)
def IsT (b : Nat) (D : DT) (lq : List Chunk) : Prop := ∃ rb m F all os es clock, dOf F os = D ∧ TB b rb m F all os es clock lq
theorem TB.m1 {b rb m : Nat} {F : Nat → NdT} {all os : List Nat} {es : List (EntS SlotT)} {clock : Nat} {lq : List Chunk} (h : TB b rb m F all os es clock lq) : trC b rb m ∈ lq := by rw [h.eq]; exact .head _
theorem TB.m2 {b rb m : Nat} {F : Nat → NdT} {all os : List Nat} {es : List (EntS SlotT)} {clock : Nat} {lq : List Chunk} (h : TB b rb m F all os es clock lq) : (m, mapS encT es clock) ∈ lq := by rw [h.eq]; exact .tail _ (.head _)
theorem TB.m3 {b rb m : Nat} {F : Nat → NdT} {all os : List Nat} {es : List (EntS SlotT)} {clock : Nat} {lq : List Chunk} (h : TB b rb m F all os es clock lq) {p : Nat} (hp : p ∈ all) : ndC p (F p) ∈ lq := by rw [h.eq]; exact .tail _ (.tail _ (chs_mem hp))
/-- the block of a slot -/
def blk (F : Nat → NdT) (os : List Nat) (s : SlotT) : Option Nat := os.find? fun p => decide ((F p).sl = s)
theorem blk_some {F : Nat → NdT} {os : List Nat} {s : SlotT} {p : Nat} (h : blk F os s = some p) : p ∈ os ∧ (F p).sl = s :=
  ⟨List.mem_of_find?_eq_some h, by have := List.find?_some h; simpa using this⟩
def ptrO : Option Nat → Value
  | some p => .pointer (some ⟨p, 0, none⟩)
  | none => .pointer none
set_option pp.deepTerms false
set_option pp.deepTerms.threshold 4
set_option maxHeartbeats 400000
theorem of_any (b rb m : Nat) (F : Nat → NdT) (all os : List Nat) (es : List (EntS SlotT)) (clock : Nat) (lq : List Chunk) (s : SlotT) (hT : TB b rb m F all os es clock lq) (l : List Chunk) (hsub : ∀ c, c ∈ lq → c ∈ l) :
    Fn Try.prog 45 [.pointer (some ⟨b, 0, none⟩), .agg (List.toArray (encT s))] l fun v l' => v = ptrO (blk F os s) ∧ l' = l := by
  have h1 := hsub _ hT.m1
  have h2 := hsub _ hT.m2
  have hg : (getS s es).getD (.pointer none) = ptrO (blk F os s) := by
    rw [hT.get]; unfold blk; cases os.find? fun p => decide ((F p).sl = s) <;> rfl
  refine fn_of_body Try.func45 rfl rfl fun E => ?_
  simp only [argF, Try.ntmps45]
  refine gz ?_
  refine t_e (e_boxA rfl) rfl rfl rfl ?_
  rintro _ _ ⟨b3, hb3, rfl, rfl⟩
  refine gz ?_
  refine c_draw [(0, true), (1, true), (2, true), (3, true), (4, true), (5, true), (6, true)] [[], [0], [0, 1], [0, 1, 2], [], [0, 1, 2, 3, 4], [0, 1, 2, 3, 4, 5]] _ (by kernel_rfl) (by kernel_rfl) zAtt (fun _ h => h) ?_
  refine pz ?_
  apply pl_q
  · apply q_lookupS (enc := encT) (a := s) (es := es) (clock := clock) (ks := [some .i64, some .i64])
    · rfl
    · rfl
    · exact encT_ok
    · exact .tail _ h2
  · rfl
  · rfl
  · rfl
  rw [hg]
  refine pz ?_
  refine gz ?_
  exact k_ret [] rfl (.drop .refl) (by exact zRes) ⟨rfl, rfl⟩
theorem of_nil (s : SlotT) (l : List Chunk) : Fn Try.prog 45 [.pointer none, .agg (List.toArray (encT s))] l fun v l' => v = .pointer none ∧ l' = l := by
  refine fn_of_body Try.func45 rfl rfl fun E => ?_
  simp only [argF, Try.ntmps45]
  refine gz ?_
  refine t_e (e_boxA rfl) rfl rfl rfl ?_
  rintro _ _ ⟨b3, hb3, rfl, rfl⟩
  refine gz ?_
  exact k_ret [] rfl (.drop .refl) (by exact zRes) ⟨rfl, rfl⟩
theorem new_any (l : List Chunk) : Fn Try.prog 58 [] l fun v l' => ∃ b, v = .pointer (some ⟨b, 0, none⟩) ∧ ∃ lq, IsT b [] lq ∧ l' = lq ++ l := by
  refine fn_of_body Try.func58 rfl rfl fun E => ?_
  simp only [argF, Try.ntmps58]
  refine gz ?_
  refine t_e (e_boxA rfl) rfl rfl rfl ?_
  rintro _ _ ⟨rb, hrb, rfl, rfl⟩
  refine gz ?_
  refine t_e e_makeMap rfl rfl rfl ?_
  rintro _ _ ⟨m, hm, rfl, rfl⟩
  refine gz ?_
  refine t_e (e_boxA rfl) rfl rfl rfl ?_
  rintro _ _ ⟨b, hb, rfl, rfl⟩
  refine gz ?_
  exact k_ret [] rfl .refl (by exact zRes) ⟨b, rfl, [trC b rb m, (m, .map #[] 0), ndC rb ⟨(0, 0), 0, rb, rb⟩], ⟨rb, m, fun _ => ⟨(0, 0), 0, rb, rb⟩, [rb], [], [], 0, rfl, ⟨rfl, by simp, by simp, by simp, by simp, ⟨rfl, rfl, trivial⟩, by simp, ⟨by simp, by simp, by simp⟩, fun s => rfl⟩⟩, rfl⟩
end Go.Proofs.Ytpplknmmjlgadaa.Tr

/- The tree: a node put behind another one. -/
set_option linter.unusedVariables false
set_option linter.unusedSimpArgs false
namespace Go.Proofs.Ytpplknmmjlgadaa.Tr
open Go.RowKit
set_option maxRecDepth 20000
set_option maxRecDepth 20000

theorem adj_cons {F : Nat → NdT} {a b : Nat} {r : List Nat} : Adj F (a :: b :: r) ↔ (F a).nx = b ∧ (F b).pv = a ∧ Adj F (b :: r) := Iff.rfl
theorem adj_same {F F' : Nat → NdT} : ∀ {L : List Nat}, Adj F L → (∀ u, u ∈ L.dropLast → (F' u).nx = (F u).nx) → (∀ v, v ∈ L.tail → (F' v).pv = (F v).pv) → Adj F' L
  | [], _, _, _ => trivial
  | [_], _, _, _ => trivial
  | a :: b :: r, ⟨h1, h2, h3⟩, hn, hp => by
    refine ⟨by rw [hn a (by simp [List.dropLast]), h1], by rw [hp b (by simp), h2], adj_same h3 (fun u hu => hn u ?_) fun v hv => hp v ?_⟩
    · simp only [List.dropLast_cons_of_ne_nil (List.cons_ne_nil b r), List.mem_cons]; exact .inr hu
    · simp only [List.tail_cons] at hv ⊢; exact List.mem_cons_of_mem _ hv
theorem adj_insert {F F' : Nat → NdT} {p n x : Nat} {Z : List Nat} : ∀ {X : List Nat}, Adj F (X ++ p :: n :: Z) → (X ++ p :: n :: Z).dropLast.Nodup → (X ++ p :: n :: Z).tail.Nodup → x ∉ X ++ p :: n :: Z →
    (∀ u, u ≠ x → u ≠ p → (F' u).nx = (F u).nx) → (∀ v, v ≠ x → v ≠ n → (F' v).pv = (F v).pv) → (F' p).nx = x → (F' x).pv = p → (F' x).nx = n → (F' n).pv = x → Adj F' (X ++ p :: x :: n :: Z)
  | [], ⟨h1, h2, h3⟩, hs, ht, hx, hn, hp, k1, k2, k3, k4 => by
    refine ⟨k1, k2, k3, k4, adj_same h3 (fun u hu => hn u ?_ ?_) fun v hv => hp v ?_ ?_⟩
    · rintro rfl; exact hx (List.mem_cons_of_mem _ (List.dropLast_subset _ hu))
    · rintro rfl
      have : (u :: (n :: Z).dropLast).Nodup := by simpa using hs
      exact (List.nodup_cons.1 this).1 hu
    · rintro rfl; exact hx (by simp only [List.nil_append, List.mem_cons, List.tail_cons] at hv ⊢; exact .inr (.inr hv))
    · rintro rfl
      have : (v :: Z).Nodup := by simpa using ht
      exact (List.nodup_cons.1 this).1 hv
  | [a], ⟨h1, h2, h3⟩, hs, ht, hx, hn, hp, k1, k2, k3, k4 => by
    have hs1 : (a :: (p :: n :: Z).dropLast).Nodup := by simpa using hs
    have hs2 := List.nodup_cons.1 hs1
    have ht1 : (p :: n :: Z).Nodup := by simpa using ht
    have ht2 := List.nodup_cons.1 ht1
    refine ⟨by rw [hn a (fun e => hx (by simp [e])) (fun e => hs2.1 (by rw [e]; simp [List.dropLast]))]; exact h1, by rw [hp p (fun e => hx (by simp [e])) (fun e => ht2.1 (by rw [e]; simp))]; exact h2, ?_⟩
    exact adj_insert (X := []) h3 hs2.2 ht2.2 (fun h => hx (List.mem_cons_of_mem _ h)) hn hp k1 k2 k3 k4
  | a :: b :: X, ⟨h1, h2, h3⟩, hs, ht, hx, hn, hp, k1, k2, k3, k4 => by
    have hs1 : (a :: ((b :: X) ++ p :: n :: Z).dropLast).Nodup := by
      have : ((a :: b :: X) ++ p :: n :: Z).dropLast = a :: ((b :: X) ++ p :: n :: Z).dropLast := List.dropLast_cons_of_ne_nil (by simp)
      rwa [this] at hs
    have hs2 := List.nodup_cons.1 hs1
    have ht1 : (b :: (X ++ p :: n :: Z)).Nodup := ht
    have ht2 := List.nodup_cons.1 ht1
    have hpd : p ∈ ((b :: X) ++ p :: n :: Z).dropLast := by
      rw [List.dropLast_append_of_ne_nil (by simp)]
      exact List.mem_append_right _ (by simp [List.dropLast])
    refine ⟨by rw [hn a (fun e => hx (by simp [e])) (fun e => hs2.1 (by rw [e]; exact hpd))]; exact h1, by rw [hp b (fun e => hx (by simp [e])) (fun e => ht2.1 (by rw [e]; simp))]; exact h2, ?_⟩
    exact adj_insert (X := b :: X) h3 hs2.2 ht2.2 (fun h => hx (List.mem_cons_of_mem _ h)) hn hp k1 k2 k3 k4
theorem adj_at {F : Nat → NdT} {p n : Nat} {Z : List Nat} : ∀ {X : List Nat}, Adj F (X ++ p :: n :: Z) → (F p).nx = n ∧ (F n).pv = p
  | [], ⟨h1, h2, _⟩ => ⟨h1, h2⟩
  | [a], ⟨_, _, h⟩ => adj_at (X := []) h
  | a :: b :: X, ⟨_, _, h⟩ => adj_at (X := b :: X) h
theorem upd_left {l l' : List Chunk} {b : Nat} {o o' : Obj} (h : Upd l b o o' l') (r : List Chunk) : Upd (l ++ r) b o o' (l' ++ r) := by
  induction h with
  | here => exact .here
  | there _ ih => exact .there ih
theorem blk_none {F : Nat → NdT} {os : List Nat} {s : SlotT} (h : blk F os s = none) : ∀ p, p ∈ os → (F p).sl ≠ s := fun p hp e => by
  have := List.find?_eq_none.1 h p hp
  simp [e] at this
theorem fresh_nd {p : Nat} {F : Nat → NdT} {all : List Nat} {l : List Chunk} (hf : ∀ c, c ∈ l → c.1 ≠ p) (hs : ∀ c, c ∈ chs F all → c ∈ l) : p ∉ all := fun h => hf _ (hs _ (chs_mem h)) rfl
set_option pp.deepTerms false
set_option pp.deepTerms.threshold 4
set_option maxHeartbeats 400000
theorem put_any (b rb m : Nat) (F : Nat → NdT) (all os : List Nat) (es : List (EntS SlotT)) (clock : Nat) (lq : List Chunk) (hT : TB b rb m F all os es clock lq) (X Y : List Nat) (p : Nat) (hX : rb :: os = X ++ p :: Y) (s : SlotT) (dp : Int) (hs : blk F os s = none) (G : List Chunk) :
    Fn Try.prog 50 [.pointer (some ⟨b, 0, none⟩), .pointer (some ⟨p, 0, none⟩), .agg (List.toArray (encT s)), .int .i64 dp] (lq ++ G) fun v l' => v = .tuple #[] ∧ ∃ lq', IsT b ((dOf F os).take X.length ++ (s, dp) :: (dOf F os).drop X.length) lq' ∧ l' = lq' ++ G := by
  obtain ⟨n, Z, hnZ⟩ : ∃ n Z, Y ++ [rb] = n :: Z := by cases Y with | nil => exact ⟨_, _, rfl⟩ | cons y Y => exact ⟨_, _, rfl⟩
  have hL : rb :: (os ++ [rb]) = X ++ p :: n :: Z := by rw [← List.cons_append, hX, List.append_assoc, List.cons_append, hnZ]
  have hadj := hT.adj
  rw [hL] at hadj
  obtain ⟨hpn, hnp⟩ := adj_at hadj
  have hcyc : ∀ q, q ∈ X ++ p :: n :: Z → q ∈ all := fun q hq => by
    rw [← hL] at hq
    rcases List.mem_cons.1 hq with rfl | hq
    · exact hT.rin
    · rcases List.mem_append.1 hq with hq | hq
      · exact hT.sub q hq
      · rw [List.mem_singleton.1 hq]; exact hT.rin
  have hpa : p ∈ all := hcyc p (by simp)
  have hna : n ∈ all := hcyc n (by simp)
  refine fn_of_body Try.func50 rfl rfl fun E => ?_
  simp only [argF, Try.ntmps50]
  refine gz ?_
  refine t_e (e_boxA rfl) rfl rfl rfl ?_
  rintro _ _ ⟨b6, hb6, rfl, rfl⟩
  have hEq := hT.eq
  have hmp : ndC p (F p) ∈ lq ++ G := List.mem_append_left _ (hT.m3 hpa)
  refine gz ?_
  refine c_draw [(0, true), (1, true), (2, true), (3, true), (4, true), (5, true), (6, true), (7, true), (8, false), (9, true)] [[], [], [], [], [3], [3, 4], [3, 4, 5], [0, 1, 2, 3, 4, 5, 6], [0, 1, 2, 3, 4, 5, 6, 7], [0, 1, 2, 3, 4, 5, 6, 7, 8]] _ (by kernel_rfl) (by kernel_rfl) zAtt (fun _ h => h) ?_
  refine pz ?_
  apply pl_e
  · exact e_boxA rfl
  · rfl
  · rfl
  · rfl
  · rintro _ _ ⟨x, _, _, rfl⟩ c hc; exact .tail _ hc
  rintro _ _ ⟨x, hx, rfl, rfl⟩
  refine pz ?_
  have hxa : x ∉ all := fun h => hx _ (.tail _ (List.mem_append_left _ (hT.m3 h))) rfl
  rw [hpn]
  obtain ⟨F1, hF1⟩ : ∃ F1, F1 = upd F x ⟨s, dp, p, n⟩ := ⟨_, rfl⟩
  have e1x : F1 x = ⟨s, dp, p, n⟩ := by rw [hF1, upd_same]
  have e1o : ∀ q, q ≠ x → F1 q = F q := fun q hq => by rw [hF1, upd_other _ _ _ _ hq]
  have hpx : p ≠ x := fun e => hxa (e ▸ hpa)
  have hnx : n ≠ x := fun e => hxa (e ▸ hna)
  have hnd1 : (x :: all).Nodup := List.nodup_cons.2 ⟨hxa, hT.nd⟩
  have hc1 : chs F1 (x :: all) = ndC x ⟨s, dp, p, n⟩ :: chs F all := by
    show ndC x (F1 x) :: chs F1 all = _
    rw [e1x, chs_congr (F := F1) (F' := F) fun q hq => e1o q fun e => hxa (e ▸ hq)]
  refine p_keep (l' := trC b rb m :: (m, mapS encT es clock) :: (chs F1 (x :: all) ++ ((b6, .cells (List.toArray (encT s)) 23 (0, 0)) :: G))) (Keep.of_perm ?_) ?_
  · rw [hEq, hc1]
    refine (List.perm_append_comm_assoc [(x, _), (b6, _)] [trC b rb m, (m, mapS encT es clock)] (chs F all ++ G)).trans ?_
    refine List.Perm.cons _ (List.Perm.cons _ (List.Perm.cons _ ?_))
    exact (List.perm_middle (l₁ := chs F all)).symm
  have hmx : ndC x (F1 x) ∈ trC b rb m :: (m, mapS encT es clock) :: (chs F1 (x :: all) ++ ((b6, .cells (List.toArray (encT s)) 23 (0, 0)) :: G)) := .tail _ (.tail _ (List.mem_append_left _ (chs_mem (.head _))))
  rw [e1x] at hmx
  refine gz ?_
  refine c_draw [(0, true), (1, true), (2, true), (3, true), (4, true), (5, true), (6, true), (7, true), (8, true), (9, true), (10, true), (11, true), (12, false), (13, true), (14, true), (15, false)] [[], [0], [0, 1], [0, 1, 2], [], [4], [4, 5], [4, 5, 6], [], [], [0, 1, 2, 3, 4, 5, 6, 7, 8], [0, 1, 2, 3, 4, 5, 6, 7, 8, 10], [0, 1, 2, 3, 4, 5, 6, 7, 8, 10, 11], [0, 1, 2, 3, 4, 5, 6, 7, 8, 9, 10, 11, 12], [0, 1, 2, 3, 4, 5, 6, 7, 8, 9, 10, 11, 12, 13], [0, 1, 2, 3, 4, 5, 6, 7, 8, 9, 10, 11, 12, 13, 14]] ([]) (by kernel_rfl) (by kernel_rfl) zAtt zHR ?_
  refine pz ?_
  apply pl_s (S := [ndC x ⟨s, dp, p, n⟩])
  · exact q_load rfl (.head _) rfl
  · intro c hc; cases hc with
    | head => exact hmx
    | tail _ h => cases h
  · rfl
  · rfl
  · rfl
  refine pz ?_
  apply pl_s (S := [ndC x ⟨s, dp, p, n⟩])
  · exact q_load rfl (.head _) rfl
  · intro c hc; cases hc with
    | head => exact hmx
    | tail _ h => cases h
  · rfl
  · rfl
  · rfl
  refine pz ?_
  obtain ⟨F2, hF2⟩ : ∃ F2, F2 = upd F1 p { F1 p with nx := x } := ⟨_, rfl⟩
  obtain ⟨F3, hF3⟩ : ∃ F3, F3 = upd F2 n { F2 n with pv := x } := ⟨_, rfl⟩
  apply pl_nS
  · exact e_store (b := p) (off := 4) (cs := List.toArray (F1 p).cells) rfl rfl rfl (.there (.there (upd_left (chs_upd { F1 p with nx := x } hnd1 (List.mem_cons_of_mem _ hpa)) _))) (by simp)
  · rfl
  · rfl
  · intro _ _ _ c hc; cases hc
  · exact fun _ _ _ x hx ha => anc_all (by kernel_rfl) hx ha
  rintro _ _ ⟨rfl, rfl⟩
  rw [← hF2]
  refine pz ?_
  apply pl_nS
  · exact e_store (b := n) (off := 3) (cs := List.toArray (F2 n).cells) rfl rfl rfl (.there (.there (upd_left (chs_upd { F2 n with pv := x } hnd1 (List.mem_cons_of_mem _ hna)) _))) (by simp)
  · rfl
  · rfl
  · intro _ _ _ c hc; cases hc
  · exact fun _ _ _ x hx ha => anc_all (by kernel_rfl) hx ha
  rintro _ _ ⟨rfl, rfl⟩
  rw [← hF3]
  refine pz ?_
  have hm6 : (b6, Obj.cells (List.toArray (encT s)) 23 (0, 0)) ∈ chs F3 (x :: all) ++ ((b6, .cells (List.toArray (encT s)) 23 (0, 0)) :: G) := List.mem_append_right _ (.head _)
  refine gz ?_
  refine c_draw [(0, true), (1, true), (2, true), (3, true), (4, true), (5, true), (6, false)] [[], [0], [0, 1], [0, 1, 2], [], [], [0, 1, 2, 3, 4, 5]] ([trC b rb m]) (by kernel_rfl) (by kernel_rfl) zAtt zHR ?_
  refine pz ?_
  apply pl_s (S := [(b6, .cells (List.toArray (encT s)) 23 (0, 0))])
  · exact q_loadL rfl (.head _) (by (repeat (first | with_reducible apply LSub.done | with_reducible apply LSub.take | with_reducible apply LSub.drop)))
  · intro c hc; cases hc with
    | head => exact .tail _ (.tail _ hm6)
    | tail _ h => cases h
  · rfl
  · rfl
  · rfl
  refine pz ?_
  apply pl_nS
  · apply e_mapUpdateS (enc := encT) (a := s) (es := es) (clock := clock) (ks := [some .i64, some .i64])
    · rfl
    · rfl
    · rfl
    · exact encT_ok
    · exact zUpd
  · rfl
  · rfl
  · rintro _ _ ⟨rfl, rfl⟩ c hc
    cases hc with
    | head => exact .head _
    | tail _ h => cases h
  · exact fun _ _ _ x hx ha => anc_all (by kernel_rfl) hx ha
  rintro _ _ ⟨rfl, rfl⟩
  refine pz ?_
  refine gz ?_
  obtain ⟨A, hA, hos⟩ : ∃ A, X ++ [p] = rb :: A ∧ os = A ++ Y := by
    have h : rb :: os = (X ++ [p]) ++ Y := by rw [hX]; simp
    cases hXp : X ++ [p] with
    | nil => simp at hXp
    | cons a A =>
      rw [hXp, List.cons_append, List.cons.injEq] at h
      exact ⟨A, by rw [h.1], h.2⟩
  have hAl : A.length = X.length := by have := congrArg List.length hA; simp at this; omega
  have e3 : ∀ q, (F3 q).sl = (F1 q).sl ∧ (F3 q).dp = (F1 q).dp := fun q => by
    rw [hF3, hF2]; unfold upd
    split <;> split <;> simp_all
  have e3n : ∀ q, (F3 q).nx = if q = p then x else (F1 q).nx := fun q => by
    rw [hF3, hF2]; unfold upd
    split <;> split <;> simp_all
  have e3p : ∀ q, (F3 q).pv = if q = n then x else (F1 q).pv := fun q => by
    rw [hF3, hF2]; unfold upd
    split <;> split <;> simp_all
  have hosa : ∀ q, q ∈ os → q ≠ x := fun q hq e => hxa (e ▸ hT.sub q hq)
  have eo : ∀ q, q ∈ os → (F3 q).sl = (F q).sl ∧ (F3 q).dp = (F q).dp := fun q hq => by
    rw [(e3 q).1, (e3 q).2, e1o q (hosa q hq)]; exact ⟨rfl, rfl⟩
  have ex : (F3 x).sl = s ∧ (F3 x).dp = dp := by rw [(e3 x).1, (e3 x).2, e1x]; exact ⟨rfl, rfl⟩
  have hno := blk_none hs
  obtain ⟨lq', hlq'⟩ : ∃ lq', lq' = trC b rb m :: (m, mapS encT (setS s (.pointer (some ⟨x, 0, none⟩)) clock es).1 (setS s (.pointer (some ⟨x, 0, none⟩)) clock es).2) :: chs F3 (x :: all) := ⟨_, rfl⟩
  refine k_ret [] rfl (l' := lq' ++ G) ?_ (by exact zRes) ⟨rfl, lq', ⟨rb, m, F3, x :: all, A ++ x :: Y, _, _, ?_, ⟨hlq', hnd1, List.mem_cons_of_mem _ hT.rin, fun q hq => ?_, ?_, ?_, ?_, hT.keys.set _ _, fun s' => ?_⟩⟩, rfl⟩
  · rw [hlq']
    refine ⟨[(b6, .cells (List.toArray (encT s)) 23 (0, 0))], ?_⟩
    refine ((List.Perm.cons _ (List.Perm.cons _ List.perm_middle)).trans ?_)
    exact List.perm_append_comm_assoc [_, _] [_] _
  · unfold dOf
    rw [hos, List.map_append, List.map_cons, List.map_append, ← hAl]
    rw [List.take_left' (by simp), List.drop_left' (by simp), ex.1, ex.2]
    congr 1
    · apply List.map_congr_left
      intro q hq
      have := eo q (by rw [hos]; exact List.mem_append_left _ hq)
      rw [this.1, this.2]
    · congr 1
      apply List.map_congr_left
      intro q hq
      have := eo q (by rw [hos]; exact List.mem_append_right _ hq)
      rw [this.1, this.2]
  · rcases List.mem_append.1 hq with hq | hq
    · exact List.mem_cons_of_mem _ (hT.sub q (by rw [hos]; exact List.mem_append_left _ hq))
    · rcases List.mem_cons.1 hq with rfl | hq
      · exact .head _
      · exact List.mem_cons_of_mem _ (hT.sub q (by rw [hos]; exact List.mem_append_right _ hq))
  · have hp2 : (rb :: (A ++ x :: Y)).Perm (x :: (rb :: os)) := by
      rw [hos]
      exact (List.Perm.cons _ List.perm_middle).trans (List.Perm.swap _ _ _)
    rw [hp2.nodup_iff, List.nodup_cons]
    refine ⟨fun h => ?_, hT.ond⟩
    rcases List.mem_cons.1 h with h | h
    · exact hxa (h ▸ hT.rin)
    · exact hosa x h rfl
  · have hL2 : rb :: ((A ++ x :: Y) ++ [rb]) = X ++ p :: x :: n :: Z := by
      have : rb :: ((A ++ x :: Y) ++ [rb]) = (rb :: A) ++ (x :: (Y ++ [rb])) := by simp
      rw [this, ← hA, hnZ]; simp
    rw [hL2]
    refine adj_insert hadj ?_ ?_ (fun h => hxa (hcyc x h)) (fun u h1 h2 => ?_) (fun v h1 h2 => ?_) ?_ ?_ ?_ ?_
    · rw [← hL, ← List.cons_append, List.dropLast_concat]; exact hT.ond
    · rw [← hL, List.tail_cons, List.nodup_append]
      have := List.nodup_cons.1 hT.ond
      exact ⟨this.2, by simp, fun a ha c hc e => this.1 (by rw [List.mem_singleton.1 hc] at e; rw [← e]; exact ha)⟩
    · rw [e3n, if_neg h2, e1o u h1]
    · rw [e3p, if_neg h2, e1o v h1]
    · rw [e3n, if_pos rfl]
    · rw [e3p, if_neg (fun e => hnx e.symm), e1x]
    · rw [e3n, if_neg (fun e => hpx e.symm), e1x]
    · rw [e3p, if_pos rfl]
  · have hmp2 : ((A ++ x :: Y).map fun q => (F3 q).sl).Perm (s :: os.map fun q => (F q).sl) := by
      rw [hos, List.map_append, List.map_cons, List.map_append, ex.1]
      have h1 : A.map (fun q => (F3 q).sl) = A.map (fun q => (F q).sl) := List.map_congr_left fun q hq => (eo q (by rw [hos]; exact List.mem_append_left _ hq)).1
      have h2 : Y.map (fun q => (F3 q).sl) = Y.map (fun q => (F q).sl) := List.map_congr_left fun q hq => (eo q (by rw [hos]; exact List.mem_append_right _ hq)).1
      rw [h1, h2]
      exact List.perm_middle
    rw [hmp2.nodup_iff, List.nodup_cons]
    exact ⟨fun h => by obtain ⟨q, hq, e⟩ := List.mem_map.1 h; exact hno q hq e, hT.snd⟩
  · rw [getS_set]
    have hfA : ∀ B : List Nat, (∀ q, q ∈ B → q ∈ os) → B.find? (fun q => decide ((F3 q).sl = s')) = B.find? (fun q => decide ((F q).sl = s')) := fun B hB => by
      induction B with
      | nil => rfl
      | cons z B ih =>
        rw [List.find?_cons, List.find?_cons, (eo z (hB z List.mem_cons_self)).1, ih fun q hq => hB q (List.mem_cons_of_mem _ hq)]
    rw [List.find?_append, hfA A (fun q hq => by rw [hos]; exact List.mem_append_left _ hq), List.find?_cons, ex.1]
    by_cases hss : s' = s
    · rw [if_pos hss, decide_eq_true hss.symm]
      have : A.find? (fun q => decide ((F q).sl = s')) = none := List.find?_eq_none.2 fun q hq => by
        have := hno q (by rw [hos]; exact List.mem_append_left _ hq)
        simpa [hss] using this
      rw [this]; rfl
    · rw [if_neg hss, decide_eq_false (fun e => hss e.symm), hT.get, hos, List.find?_append, hfA Y (fun q hq => by rw [hos]; exact List.mem_append_right _ hq)]
end Go.Proofs.Ytpplknmmjlgadaa.Tr

/- The tree: the two iterators. -/
set_option linter.unusedVariables false
set_option linter.unusedSimpArgs false
namespace Go.Proofs.Ytpplknmmjlgadaa.Tr
open Go.RowKit
set_option maxRecDepth 20000
set_option maxRecDepth 20000

section
variable {P : Program} {ro : Option Nat} {N : Nat} {E : World} {ops : Array Oper} {Q : Exit → Act → World → Prop} {R : List Chunk} {tbl : List (List Nat)} {sw : Sw} {sp : Spec} {pl : List PlanOp} {o : Oper} {fr fr' : Fr} {ds : List Deferred} {l l' : List Chunk} {K : Value → List Chunk → Prop} {v : Value} {i : Nat} {k : Bool}
/-- an effect under a guard that is met, while special blocks are looked at -/
theorem pl_geS {d : Nat} (h : OpE P ro N fr l o K) (hw : gst ops fr o.guard = some true) (hd : o.dst = some d) (hb : Nat.blt d N = true) (hR : ∀ v l', K v l' → (∀ c, c ∈ R → c ∈ l')) (hS : ∀ v l', K v l' → ∀ x, x ∈ sp → ancOf tbl i x.1 = false → ∀ c, c ∈ x.2 → c ∈ l') (hk : ∀ v l', K v l' → PlanS P ro N E ops Q R tbl none sp pl ((d, v) :: fr) ds l') : PlanS P ro N E ops Q R tbl none sp ((i, false, o) :: pl) fr ds l := by
  rcases gst_some hw with ⟨h1, _⟩ | ⟨j, b, oj, dj, b', h1, h2, h3, h4, h5⟩
  · exact pl_eS h h1 hd hb hR hS hk
  · have : b' = b := by simpa using h5
    subst this
    exact .ge h h1 h2 h3 h4 (by rw [hd]; exact hb) hR hS fun v l' hkv => by rw [hd]; exact hk v l' hkv
end
theorem nep_t {q r : Nat} (h : q ≠ r) : (!decide ((⟨q, 0, none⟩ : Addr) = ⟨r, 0, none⟩)) = true := by
  rw [decide_eq_false (fun e => h (by injection e))]; rfl
theorem nep_f (q : Nat) : (!decide ((⟨q, 0, none⟩ : Addr) = ⟨q, 0, none⟩)) = false := by
  rw [decide_eq_true rfl]; rfl
theorem TB.nxt {b rb m : Nat} {F : Nat → NdT} {all os : List Nat} {es : List (EntS SlotT)} {clock : Nat} {lq : List Chunk} (h : TB b rb m F all os es clock lq) {X Y : List Nat} {p : Nat} (hX : rb :: os = X ++ p :: Y) : (F p).nx = Y.headD rb := by
  have hadj := h.adj
  rw [show rb :: (os ++ [rb]) = X ++ p :: (Y ++ [rb]) by rw [← List.cons_append, hX, List.append_assoc, List.cons_append]] at hadj
  cases Y with
  | nil => exact (adj_at (Z := []) hadj).1
  | cons y Y => exact (adj_at (Z := Y ++ [rb]) hadj).1
theorem TB.prv {b rb m : Nat} {F : Nat → NdT} {all os : List Nat} {es : List (EntS SlotT)} {clock : Nat} {lq : List Chunk} (h : TB b rb m F all os es clock lq) {X Y : List Nat} {p : Nat} (hX : rb :: os = X ++ p :: Y) : (F (Y.headD rb)).pv = p := by
  have hadj := h.adj
  rw [show rb :: (os ++ [rb]) = X ++ p :: (Y ++ [rb]) by rw [← List.cons_append, hX, List.append_assoc, List.cons_append]] at hadj
  cases Y with
  | nil => exact (adj_at (Z := []) hadj).2
  | cons y Y => exact (adj_at (Z := Y ++ [rb]) hadj).2
/-- what stands in a list of slots: ahead of a slot, its depth, behind it -/
def splitD (s : SlotT) : DT → Option (DT × Int × DT)
  | [] => none
  | x :: r => if x.1 = s then some ([], x.2, r) else (splitD s r).map fun y => (x :: y.1, y.2.1, y.2.2)
theorem split_blk {F : Nat → NdT} {s : SlotT} : ∀ {os : List Nat} {p : Nat}, blk F os s = some p → ∃ A B, os = A ++ p :: B ∧ splitD s (dOf F os) = some (dOf F A, (F p).dp, dOf F B)
  | [], _, h => by cases h
  | q :: os, p, h => by
    unfold blk at h
    rw [List.find?_cons] at h
    by_cases e : (F q).sl = s
    · rw [decide_eq_true e] at h
      cases h
      exact ⟨[], os, rfl, by show splitD s (((F q).sl, (F q).dp) :: dOf F os) = _; unfold splitD; rw [if_pos e]; rfl⟩
    · rw [decide_eq_false e] at h
      obtain ⟨A, B, rfl, h2⟩ := split_blk (os := os) h
      exact ⟨q :: A, B, rfl, by show splitD s (((F q).sl, (F q).dp) :: dOf F _) = _; unfold splitD; rw [if_neg e, h2]; rfl⟩
theorem split_none {F : Nat → NdT} {s : SlotT} : ∀ {os : List Nat}, blk F os s = none → splitD s (dOf F os) = none
  | [], _ => rfl
  | q :: os, h => by
    unfold blk at h
    rw [List.find?_cons] at h
    by_cases e : (F q).sl = s
    · rw [decide_eq_true e] at h; cases h
    · rw [decide_eq_false e] at h
      show splitD s (((F q).sl, (F q).dp) :: dOf F os) = none
      unfold splitD; rw [if_neg e, split_none (os := os) h]; rfl
set_option pp.deepTerms false
set_option pp.deepTerms.threshold 4
set_option maxHeartbeats 400000
abbrev bxT (B b : Nat) : Chunk := (B, .cells #[.pointer (some ⟨b, 0, none⟩)] 51 (0, 0))
abbrev bxL (B p : Nat) : Chunk := (B, .cells #[.pointer (some ⟨p, 0, none⟩)] 71 (0, 0))
theorem behind_any (b p : Nat) (l : List Chunk) : Fn Try.prog 56 [.pointer (some ⟨b, 0, none⟩), .pointer (some ⟨p, 0, none⟩)] l fun v l' => ∃ B1 B2, v = .func (.func 67) #[] #[.pointer (some ⟨B1, 0, none⟩), .pointer (some ⟨B2, 0, none⟩)] ∧ l' = bxL B1 p :: bxT B2 b :: l := by
  refine fn_of_body Try.func56 rfl rfl fun E => ?_
  simp only [argF, Try.ntmps56]
  refine gz ?_
  (first | refine t_e (e_box1 rfl rfl) rfl rfl rfl ?_ | refine t_e (e_boxA rfl) rfl rfl rfl ?_); rintro _ _ ⟨b2, _, rfl, rfl⟩
  refine gz ?_
  (first | refine t_e (e_box1 rfl rfl) rfl rfl rfl ?_ | refine t_e (e_boxA rfl) rfl rfl rfl ?_); rintro _ _ ⟨b3, _, rfl, rfl⟩
  refine gz ?_
  exact k_ret [] rfl .refl (by exact zRes) ⟨b3, b2, rfl, rfl⟩
theorem below_any (b p : Nat) (l : List Chunk) : Fn Try.prog 46 [.pointer (some ⟨b, 0, none⟩), .pointer (some ⟨p, 0, none⟩)] l fun v l' => ∃ B1 B2, v = .func (.func 59) #[] #[.pointer (some ⟨B2, 0, none⟩), .pointer (some ⟨B1, 0, none⟩)] ∧ l' = bxL B1 p :: bxT B2 b :: l := by
  refine fn_of_body Try.func46 rfl rfl fun E => ?_
  simp only [argF, Try.ntmps46]
  refine gz ?_
  (first | refine t_e (e_box1 rfl rfl) rfl rfl rfl ?_ | refine t_e (e_boxA rfl) rfl rfl rfl ?_); rintro _ _ ⟨b2, _, rfl, rfl⟩
  refine gz ?_
  (first | refine t_e (e_box1 rfl rfl) rfl rfl rfl ?_ | refine t_e (e_boxA rfl) rfl rfl rfl ?_); rintro _ _ ⟨b3, _, rfl, rfl⟩
  refine gz ?_
  exact k_ret [] rfl .refl (by exact zRes) ⟨b3, b2, rfl, rfl⟩
/-- the links are as they were -/
def Nxs (F : Nat → NdT) (L : List Nat) (l : List Chunk) : Prop := ∀ q, q ∈ L → ∃ x : NdT, ndC q x ∈ l ∧ x.nx = (F q).nx
theorem behind_iter (B1 B2 b rb m p : Nat) (F : Nat → NdT) (all os : List Nat) (es : List (EntS SlotT)) (clock : Nat) (lq : List Chunk) (hT : TB b rb m F all os es clock lq) (X Y : List Nat) (hX : rb :: os = X ++ p :: Y) :
    IterS Try.prog 67 [.pointer (some ⟨B1, 0, none⟩), .pointer (some ⟨B2, 0, none⟩)] (fun q : Nat => [.pointer (some ⟨q, 0, none⟩)]) (fun xs => xs = Y) (fun pre => pre <+: Y)
      (fun pre l => bxL B1 p ∈ l ∧ bxT B2 b ∈ l ∧ trC b rb m ∈ l ∧ Nxs F (rb :: os) l) := by
  refine ⟨fun r I Ix G0 hneed hY l G hG h0 => ?_⟩
  have hpc : p ∈ rb :: os := by rw [hX]; simp
  obtain ⟨n1, n2, n3, n4⟩ := hneed _ _ G hG h0
  obtain ⟨xp, hxp, hxn⟩ := n4 p hpc
  refine fn_of_body Try.func67 rfl rfl fun E => ?_
  simp only [argF, Try.ntmps67]
  refine gz ?_
  rw [hxn, hT.nxt hX]
  refine gz ?_
  refine k_loop (α := List Nat × List Nat × List Chunk) (fun x => [(0, .func (.yield r) #[] #[]), (1, .pointer (some ⟨B1, 0, none⟩)), (2, .pointer (some ⟨B2, 0, none⟩)), (4, .pointer (some ⟨x.2.1.headD rb, 0, none⟩))]) (fun x => x.2.2 ++ G) (fun x => x.1 ++ x.2.1 = Y ∧ I x.1 x.2.2) (fun x => x.2.1.length) ([], Y, l) ⟨rfl, h0⟩ ⟨rfl, rfl, rfl, rfl, trivial⟩ .refl ?_
  rintro ⟨pre, suf, l⟩ ⟨hps, hI⟩
  simp only at hps hI ⊢
  obtain ⟨n1, n2, n3, n4⟩ := hneed _ _ G hG hI
  obtain ⟨xr, hxr, hxrn⟩ := n4 rb List.mem_cons_self
  cases suf with
  | nil =>
    rw [List.append_nil] at hps
    subst hps
    simp only [List.headD_nil]
    refine gz ?_
    refine t_q (q_neptr rfl rfl (by decide) hxr hxr) rfl rfl rfl ?_
    rw [nep_f]
    refine gz ?_
    exact k_ret [] rfl .refl (by exact zRes) ⟨l, rfl, .inl ⟨_, rfl, hI⟩⟩
  | cons q suf =>
    have hX2 : rb :: os = (X ++ p :: pre) ++ q :: suf := by rw [hX, ← hps]; simp
    have hqc : q ∈ rb :: os := by rw [hX2]; simp
    have hqr : q ≠ rb := fun e => by
      have hnd := hT.ond
      cases X with
      | nil => rw [List.nil_append, List.cons.injEq] at hX; rw [hX.2, ← hps, ← e] at hnd; simp at hnd
      | cons x X => rw [List.cons_append, List.cons.injEq] at hX; rw [hX.2, ← hps, ← e] at hnd; simp at hnd
    obtain ⟨xq, hxq, hxqn⟩ := n4 q hqc
    simp only [List.headD_cons]
    refine gz ?_
    refine t_q (q_neptr rfl rfl (by decide) hxq hxr) rfl rfl rfl ?_
    rw [nep_t hqr]
    refine gz ?_
    have hsp : pre ++ [q] <+: Y := ⟨suf, by rw [← hps]; simp⟩
    refine t_e (e_yield rfl rfl (hY pre q l G hG hI hsp)) rfl rfl rfl ?_
    rintro v l' ⟨l1, rfl, ⟨rfl, hI'⟩ | ⟨rfl, hx⟩⟩
    · obtain ⟨k1, k2, k3, k4⟩ := hneed _ _ G hG hI'
      obtain ⟨xq2, hxq2, hxqn2⟩ := k4 q hqc
      refine gz ?_
      rw [hxqn2, hT.nxt hX2]
      refine gz ?_
      exact k_next (pre ++ [q], suf, l1) ⟨by rw [← hps]; simp, hI'⟩ (by simp) ⟨rfl, rfl, rfl, rfl, trivial⟩ .refl
    · refine gz ?_
      exact k_ret [] rfl .refl (by exact zRes) ⟨l1, rfl, .inr ⟨_, hsp, hx⟩⟩
end Go.Proofs.Ytpplknmmjlgadaa.Tr

/- The tree: the links below one. -/
set_option linter.unusedVariables false
set_option linter.unusedSimpArgs false
namespace Go.Proofs.Ytpplknmmjlgadaa.Tr
open Go.RowKit
set_option maxRecDepth 20000
set_option maxRecDepth 20000

theorem tw_take {α : Type} {P : α → Bool} {pre : List α} {y : α} {Y : List α} (h1 : pre ++ [y] <+: Y) (h2 : pre <+: Y.takeWhile P) (hy : P y = true) : pre ++ [y] <+: Y.takeWhile P := by
  obtain ⟨r, rfl⟩ := h1
  have hp : ∀ x, x ∈ pre → P x = true := fun x hx => List.all_eq_true.1 (List.all_takeWhile (p := P)) x (h2.subset hx)
  rw [List.append_assoc, List.takeWhile_append_of_pos hp]
  show pre ++ [y] <+: pre ++ List.takeWhile P (y :: r)
  rw [List.takeWhile_cons_of_pos hy]
  exact ⟨r.takeWhile P, by simp⟩
theorem tw_stop {α : Type} {P : α → Bool} {pre : List α} {y : α} {Y : List α} (h1 : pre ++ [y] <+: Y) (h2 : pre <+: Y.takeWhile P) (hy : P y = false) : pre = Y.takeWhile P := by
  obtain ⟨r, rfl⟩ := h1
  have hp : ∀ x, x ∈ pre → P x = true := fun x hx => List.all_eq_true.1 (List.all_takeWhile (p := P)) x (h2.subset hx)
  rw [List.append_assoc, List.takeWhile_append_of_pos hp]
  show pre = pre ++ List.takeWhile P (y :: r)
  rw [List.takeWhile_cons_of_neg (by rw [hy]; simp), List.append_nil]
theorem tw_all {α : Type} {P : α → Bool} {Y : List α} (h2 : Y <+: Y.takeWhile P) : Y = Y.takeWhile P := (h2.sublist.eq_of_length_le (List.takeWhile_prefix P).length_le)
theorem Keep.in_mid (A B C : List Chunk) : Keep (A ++ (B ++ C)) (B ++ (A ++ C)) := Keep.of_perm (List.perm_append_comm_assoc A B C)
set_option pp.deepTerms false
set_option pp.deepTerms.threshold 4
set_option maxHeartbeats 400000
/-- the depths of those that did not come yet are as they were -/
def Dps (F : Nat → NdT) (L pre : List Nat) (l : List Chunk) : Prop := ∀ q, q ∈ L → ∃ x : NdT, ndC q x ∈ l ∧ x.nx = (F q).nx ∧ (q ∉ pre → x.dp = (F q).dp)
theorem below_iter (B1 B2 b rb m p : Nat) (F : Nat → NdT) (all os : List Nat) (es : List (EntS SlotT)) (clock : Nat) (lq : List Chunk) (hT : TB b rb m F all os es clock lq) (X Y : List Nat) (hX : rb :: os = X ++ p :: Y) :
    IterS Try.prog 59 [.pointer (some ⟨B2, 0, none⟩), .pointer (some ⟨B1, 0, none⟩)] (fun q : Nat => [.pointer (some ⟨q, 0, none⟩)]) (fun xs => xs = Y.takeWhile fun q => decide ((F p).dp < (F q).dp)) (fun pre => pre <+: Y.takeWhile fun q => decide ((F p).dp < (F q).dp))
      (fun pre l => bxL B1 p ∈ l ∧ bxT B2 b ∈ l ∧ trC b rb m ∈ l ∧ Dps F (rb :: os) pre l) := by
  refine ⟨fun r I Ix G0 hneed hY l G hG h0 => ?_⟩
  have hnd : (p :: Y).Nodup := by have := hT.ond; rw [hX] at this; exact (List.nodup_append.1 this).2.1
  have hpc : p ∈ rb :: os := by rw [hX]; simp
  obtain ⟨tw, htw⟩ : ∃ tw, tw = Y.takeWhile fun q => decide ((F p).dp < (F q).dp) := ⟨_, rfl⟩
  rw [← htw] at hY ⊢
  obtain ⟨n1, n2, n3, n4⟩ := hneed _ _ G hG h0
  refine fn_of_body Try.func59 rfl rfl fun E => ?_
  simp only [argF, Try.ntmps59]
  refine gz ?_
  (first | refine t_e (e_box1 rfl rfl) rfl rfl rfl ?_ | refine t_e (e_boxA rfl) rfl rfl rfl ?_); rintro _ _ ⟨b3, _, rfl, rfl⟩
  refine gz ?_
  refine t_e (e_call rfl rfl (behind_any _ _ _)) rfl rfl rfl ?_
  rintro v l' ⟨C1, C2, rfl, rfl⟩
  refine gz ?_
  refine c_range (α := Nat) (ps := [8]) (lb := [.pointer (some ⟨C1, 0, none⟩), .pointer (some ⟨C2, 0, none⟩)]) rfl (behind_iter C1 C2 b rb m p F all os es clock lq hT X Y hX) (fun _ => rfl) rfl
    (fun pre l => ∃ l1, I pre l1 ∧ pre <+: tw ∧ l = [bxL C1 p, bxT C2 b, (b3, .cells #[.func (.yield r) #[] #[]] 101 (0, 0))] ++ l1)
    (fun c pre l => c = .exit 0 ∧ ∃ l1, ((pre <+: tw ∧ Ix pre l1) ∨ I tw l1) ∧ l = [bxL C1 p, bxT C2 b, (b3, .cells #[.func (.yield r) #[] #[]] 101 (0, 0))] ++ l1)
    _ G (fun pre l2 X2 hX2 h => by
      obtain ⟨l1, hI, _, rfl⟩ := h
      obtain ⟨k1, k2, k3, k4⟩ := hneed _ _ X2 (fun c hc => hX2 c (hG c hc)) hI
      refine ⟨.head _, .tail _ (.head _), .tail _ (.tail _ (.tail _ k3)), fun q hq => ?_⟩
      obtain ⟨x, h1, h2, h3⟩ := k4 q hq
      exact ⟨x, .tail _ (.tail _ (.tail _ h1)), h2⟩) (by exact zKeep) ⟨l, h0, List.nil_prefix, rfl⟩ ?_ ?_ ?_
  · rintro E r0 rec pre y l' T ⟨fn, tmps, D, rfl⟩ hT0 ⟨l1, hI, hpt, rfl⟩ hsp
    simp only [putPs, List.cons_append, List.nil_append]
    refine gz ?_
    refine p_begin (.there (.there (.there (upd_mid _ _ _ _ _)))) ?_
    generalize hX1 : (r0, Obj.loop (recOf fn tmps _ _ _ D .busy none)) :: T = X1
    have hG1 : ∀ c, c ∈ G0 → c ∈ X1 := fun c hc => by rw [← hX1]; exact .tail _ (hT0 c (hG c hc))
    have hyp : y ∉ pre ∧ p ∉ pre ∧ y ∈ rb :: os := by
      obtain ⟨r9, h9⟩ := hsp
      rw [← h9] at hnd hX
      refine ⟨fun h => ?_, fun h => ?_, by rw [hX]; simp⟩
      · have := (List.nodup_append.1 (List.nodup_append.1 (List.nodup_cons.1 hnd).2).1).2.2 y h y (by simp)
        exact this rfl
      · exact (List.nodup_cons.1 hnd).1 (by simp [h])
    obtain ⟨k1, k2, k3, k4⟩ := hneed _ _ X1 hG1 hI
    obtain ⟨xy, hxy, _, hyd⟩ := k4 y hyp.2.2
    obtain ⟨xp, hxp, _, hpd⟩ := k4 p hpc
    have hyd := hyd hyp.1
    have hpd := hpd hyp.2.1
    by_cases hlt : (F p).dp < (F y).dp
    · have hpt2 : pre ++ [y] <+: tw := by rw [htw] at hpt ⊢; exact tw_take hsp hpt (decide_eq_true hlt)
      refine gz ?_
      refine c_draw [(0, true), (1, true), (2, true), (3, true), (4, true), (5, true), (6, true), (7, true), (8, true), (9, true), (10, true), (11, true), (12, false), (13, true), (14, true)] [[], [0], [0, 1], [0, 1, 2], [], [4], [4, 5], [4, 5, 6], [0, 1, 2, 3, 4, 5, 6, 7], [0, 1, 2, 3, 4, 5, 6, 7, 8], [0, 1, 2, 3, 4, 5, 6, 7, 8, 9], [0, 1, 2, 3, 4, 5, 6, 7, 8, 9], [0, 1, 2, 3, 4, 5, 6, 7, 8, 9, 10, 11], [0, 1, 2, 3, 4, 5, 6, 7, 8, 9, 10, 11, 12], [0, 1, 2, 3, 4, 5, 6, 7, 8, 9, 10, 11, 12, 13]] ([(b3, .cells #[.func (.yield r) #[] #[]] 101 (0, 0))]) (by kernel_rfl) (by kernel_rfl) zAtt zHR ?_
      refine pz ?_
      apply pl_s (S := [ndC y xy])
      · exact q_load rfl (.head _) rfl
      · intro c hc; cases hc with
        | head => exact .tail _ (.tail _ (.tail _ hxy))
        | tail _ h => cases h
      · rfl
      · rfl
      · rfl
      refine pz ?_
      apply pl_s (S := [bxL B1 p])
      · exact q_load rfl (.head _) rfl
      · intro c hc; cases hc with
        | head => exact .tail _ (.tail _ (.tail _ k1))
        | tail _ h => cases h
      · rfl
      · rfl
      · rfl
      refine pz ?_
      apply pl_s (S := [ndC p xp])
      · exact q_load rfl (.head _) rfl
      · intro c hc; cases hc with
        | head => exact .tail _ (.tail _ (.tail _ hxp))
        | tail _ h => cases h
      · rfl
      · rfl
      · rfl
      refine pz ?_
      apply pl_geS
      · apply OpE.re (K' := fun v l3 => ∃ l2, l3 = bxL C1 p :: bxT C2 b :: (b3, .cells #[.func (.yield r) #[] #[]] 101 (0, 0)) :: (l2 ++ X1) ∧ ((v = .bool true ∧ I (pre ++ [y]) l2) ∨ (v = .bool false ∧ Ix (pre ++ [y]) l2))) (Keep.in_mid [bxL C1 p, bxT C2 b, (b3, .cells #[.func (.yield r) #[] #[]] 101 (0, 0))] l1 X1)
        · exact e_yield rfl rfl (hY pre y l1 _ (fun c hc => .tail _ (.tail _ (.tail _ (hG1 c hc)))) hI hpt2)
        · rintro v _ ⟨l2, rfl, hor⟩
          exact ⟨_, Keep.in_mid l2 [bxL C1 p, bxT C2 b, (b3, .cells #[.func (.yield r) #[] #[]] 101 (0, 0))] X1, l2, rfl, hor⟩
      · rfl
      · rfl
      · rfl
      · rintro _ _ ⟨l2, rfl, _⟩ c hc
        cases hc with
        | head => exact .tail _ (.tail _ (.head _))
        | tail _ h => cases h
      · exact fun _ _ _ x hx ha => anc_all (by kernel_rfl) hx ha
      rintro v _ ⟨l2, rfl, ⟨rfl, hI2⟩ | ⟨rfl, hI2⟩⟩
      · refine pz ?_
        refine gz ?_
        rw [← hX1]
        exact p_round _ (.refl) ⟨l2, hI2, hpt2, rfl⟩
      · refine pz ?_
        refine gz ?_
        rw [← hX1]
        exact p_round_exit _ (.refl) ⟨rfl, l2, .inl ⟨hpt2, hI2⟩, rfl⟩
    · have hpt2 : pre = tw := by rw [htw] at hpt ⊢; exact tw_stop hsp hpt (decide_eq_false hlt)
      refine gz ?_
      refine c_draw [(0, true), (1, true), (2, true), (3, true), (4, true), (5, true), (6, true), (7, true), (8, true), (9, true), (10, true), (11, true), (12, false), (13, true), (14, true)] [[], [0], [0, 1], [0, 1, 2], [], [4], [4, 5], [4, 5, 6], [0, 1, 2, 3, 4, 5, 6, 7], [0, 1, 2, 3, 4, 5, 6, 7, 8], [0, 1, 2, 3, 4, 5, 6, 7, 8, 9], [0, 1, 2, 3, 4, 5, 6, 7, 8, 9], [0, 1, 2, 3, 4, 5, 6, 7, 8, 9, 10, 11], [0, 1, 2, 3, 4, 5, 6, 7, 8, 9, 10, 11, 12], [0, 1, 2, 3, 4, 5, 6, 7, 8, 9, 10, 11, 12, 13]] _ (by kernel_rfl) (by kernel_rfl) zAtt (fun _ h => h) ?_
      refine pz ?_
      refine gz ?_
      rw [← hX1]
      exact p_round_exit _ (.refl) ⟨rfl, l1, .inr (hpt2 ▸ hI), rfl⟩
  · rintro D xs l' rfl ⟨l1, hI, hpt, rfl⟩
    simp only [List.cons_append, List.nil_append]
    have hall : xs = tw := by rw [htw] at hpt ⊢; exact tw_all hpt
    refine gz ?_
    exact k_ret2 [D] (l1 ++ G) rfl (l' := l1 ++ G) (by exact zKeep) (by exact zRes) .refl ⟨l1, rfl, .inl ⟨_, rfl, hall ▸ hI⟩⟩
  · rintro D c pre l' hsp ⟨rfl, l1, hor, rfl⟩
    simp only [List.cons_append, List.nil_append]
    refine gz ?_
    refine k_ret2 [D] (l1 ++ G) rfl (l' := l1 ++ G) (by exact zKeep) (by exact zRes) .refl ⟨l1, rfl, ?_⟩
    rcases hor with ⟨h1, h2⟩ | h
    · exact .inr ⟨_, h1, h2⟩
    · exact .inl ⟨_, rfl, h⟩
end Go.Proofs.Ytpplknmmjlgadaa.Tr
