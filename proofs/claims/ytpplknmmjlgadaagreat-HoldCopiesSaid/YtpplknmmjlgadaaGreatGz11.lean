/- hold: start, played, awake. hold: both tell the same; HoldScript. HoldScript: the walk. hold: who is used, and who is in the tree; a hold behind acts. HoldTree: the walk. HoldFinal: the plain law and the walk. HoldMoves: the plain law and the walk. HoldCopies: the plain law. Laws that the statement's proof leans on. -/
import Derived.Test.YtpplknmmjlgadaaGreatGz4
import Derived.Test.YtpplknmmjlgadaaGreatGz10
/- hold: start, played, awake. -/
-- GU
set_option linter.unusedVariables false
set_option linter.unusedSimpArgs false
namespace Go.Proofs.YtpplknmmjlgadaaGreat
open Go.RowKit
set_option maxRecDepth 20000

def stN : Nat → Int | 2 => 2 | _ => 4
def stD : Nat → SD | 0 => [] | k + 1 => (addN (stD k) ((k + 1 : Nat) : Int) (stN k)).2
theorem st_len : ∀ {k : Nat}, k < 3 → (stD k).length ≤ 3
  | 0, _ => by decide | 1, _ => by decide | 2, _ => by decide | n + 3, h => absurd h (by omega)
theorem ok_nil (s : slT) : okD [] s = false := by
  unfold okD sizeD
  rw [show findK Prod.fst ([] : SD) s.1 = none from rfl]
  by_cases h : 0 ≤ s.2
  · rw [decide_eq_true h, decide_eq_false (by simp only; omega)]; rfl
  · rw [decide_eq_false h]; rfl
theorem InvH.nil : InvH ([], []) 0 :=
  ⟨.none, List.Pairwise.nil, fun x hx => absurd hx (by simp), fun s => ⟨fun h => absurd h (by rw [Tr.hasD_no.2 fun x hx => absurd hx (by simp)]; decide), fun h => absurd h.1 (by rw [ok_nil]; decide)⟩, by simp⟩
theorem inv_st : ∀ k : Nat, InvH (stD k, []) k
  | 0 => InvH.nil
  | k + 1 => (inv_st k).add _ _
def H0 : HS := (stD 3, [])
theorem inv_0 : InvH H0 3 := inv_st 3
def playH (H : HS) (xs : List AcH) : HS := xs.foldl actH H
theorem playH_snoc (H : HS) (xs : List AcH) (x : AcH) : playH H (xs ++ [x]) = actH (playH H xs) x := by unfold playH; rw [List.foldl_append]; rfl
theorem inv_play {H : HS} {n : Nat} (h : InvH H n) : ∀ (xs : List AcH), (∀ x, x ∈ xs → OkA x) → InvH (playH H xs) (n + xs.length) := by
  intro xs
  induction xs generalizing H n with
  | nil => exact fun _ => h
  | cons x xs ih =>
    intro hx
    have := ih (h.act x (hx x (.head _))) fun y hy => hx y (.tail _ hy)
    rw [List.length_cons, show n + (xs.length + 1) = n + 1 + xs.length by omega]; exact this
set_option pp.deepTerms false
set_option pp.deepTerms.threshold 4
set_option maxHeartbeats 400000
theorem start_any (l : List Chunk) : Fn Tryz.prog 9 [] l fun v l' => ∃ b bw lq lr, v = .tuple #[.pointer (some ⟨b, 0, none⟩), .pointer (some ⟨bw, 0, none⟩)] ∧ IsH b H0 lq ∧ IsRH bw H0 lr ∧ l' = lq ++ (lr ++ l) := by
  refine fn_of_body Tryz.func9 rfl rfl fun E => ?_
  simp only [argF, Tryz.ntmps9]
  refine gzU ?_
  refine t_e (e_call0 rfl rfl (hnew_any _)) rfl rfl rfl ?_
  rintro _ _ ⟨b, rfl, lq, hq, rfl⟩
  refine gzU ?_
  refine t_e (e_call0 rfl rfl (rhnew_any _)) rfl rfl rfl ?_
  rintro _ _ ⟨bw, rfl, lr, hr, rfl⟩
  refine gzU ?_
  refine k_loop (α := Nat × List Chunk × List Chunk) (fun x => [(2, .pointer (some ⟨b, 0, none⟩)), (3, .pointer (some ⟨bw, 0, none⟩)), (4, .int .i64 ((x.1 + 1 : Nat) : Int))]) (fun x => x.2.1 ++ (x.2.2 ++ l)) (fun x => x.1 ≤ 3 ∧ IsH b (stD x.1, []) x.2.1 ∧ IsRH bw (stD x.1, []) x.2.2) (fun x => 3 - x.1) (0, lq, lr) ⟨Nat.zero_le _, hq, hr⟩ ⟨rfl, rfl, rfl, trivial⟩ (Keep.in_mid lr lq l) ?_
  clear hq hr
  rintro ⟨k, lq, lr⟩ ⟨hk, hq, hr⟩
  simp only at hk hq hr ⊢
  by_cases hlt : k < 3
  · have hlen := st_len hlt
    have HA := Fn.mvP (fun A => A ++ (lr ++ l)) (haddN_any b (stD k, []) lq hq ((k + 1 : Nat) : Int) (stN k) (lr ++ l))
    obtain ⟨bs, bt, ls, lt, rfl, hs, ht⟩ := hr
    have HR := fun lq => Fn.mvP (fun A => lq ++ (rhoC bw bs bt :: (A ++ (lt ++ l)))) (radd_any bs (stD k) ls hs (by omega) ((k + 1 : Nat) : Int) (stN k) (lq ++ (rhoC bw bs bt :: (lt ++ l))))
    simp only [List.cons_append, List.append_assoc] at HA HR ⊢
    have hfin : ∀ (lq ls2 : List Chunk), IsH b (stD (k + 1), []) lq → IsR bs (stD (k + 1)) ls2 → (k + 1 ≤ 3 ∧ IsH b (stD (k + 1), []) lq ∧ IsRH bw (stD (k + 1), []) (rhoC bw bs bt :: (ls2 ++ lt))) := fun lq ls2 h1 h2 => ⟨by omega, h1, ⟨bs, bt, ls2, lt, rfl, h2, ht⟩⟩
    by_cases h2 : k = 2
    case' pos =>
      rw [show stN k = 2 by rw [h2]; rfl] at HA HR
      have e1 : stD (k + 1) = (addN (stD k) ((k + 1 : Nat) : Int) 2).2 := by rw [h2]; rfl
    case' neg =>
      rw [show stN k = 4 by unfold stN; split; omega; rfl] at HA HR
      have e1 : stD (k + 1) = (addN (stD k) ((k + 1 : Nat) : Int) 4).2 := by show (addN (stD k) _ (stN k)).2 = _; rw [show stN k = 4 by unfold stN; split; omega; rfl]
    all_goals
      refine gzU ?_
      refine t_e (e_call rfl rfl HA) rfl rfl rfl ?_
      rintro _ _ ⟨rfl, lq1, hq1, rfl⟩
      have hm : rhoC bw bs bt ∈ lq1 ++ rhoC bw bs bt :: (ls ++ (lt ++ l)) := List.mem_append_right _ (.head _)
      refine gzU ?_
      refine t_e (e_call rfl rfl (HR lq1)) rfl rfl rfl ?_
      rintro _ _ ⟨rfl, ls1, hs1, rfl⟩
      rw [← e1] at hs1
      rw [← e1] at hq1
      refine gzU ?_
      exact k_next (k + 1, lq1, rhoC bw bs bt :: (ls1 ++ lt)) (hfin _ _ hq1 hs1) (by simp only; omega) ⟨rfl, rfl, rfl, trivial⟩ (.of_perm (.of_eq (by simp)))
  · obtain rfl : k = 3 := by omega
    refine gzU ?_
    exact k_ret [] rfl .refl (by exact zRes) ⟨b, bw, lq, lr, rfl, hq, hr, rfl⟩
theorem IsH.ulen {b n : Nat} {H : HS} {lq : List Chunk} (hq : IsH b H lq) (hI : InvH H n) (hn : n ≤ 1000) : (usedD H.1).length ≤ 32000 := by
  obtain ⟨bs, bt, ls, lt, hb⟩ := hq
  have h1 := usedD_len fun x hx => (hb.s.sz x hx).2
  have h2 := (hI.small hn).1
  omega
def W1 : HS := ((addN [] 7 4).2, [])
abbrev cA : CapT := ⟨8, 3, 7, 0, 0, 0, 0, 0⟩
abbrev cB : CapT := ⟨8, 3, 1, 0, 0, 0, 0, 0⟩
def W2 : HS := (rootH W1 (7, 0) cA).2
def W3 : HS := (derH W2 (7, 0) (7, 1) (copyC (atD W2.1 (7, 0)) 1)).2
theorem cA_w : CapW cA := ⟨by decide, by decide⟩
theorem inv_1 : InvH W1 1 := InvH.nil.add 7 4
theorem inv_2 : InvH W2 2 := inv_1.root _ _ cA_w
theorem inv_3 : InvH W3 3 := inv_2.der _ _ _ (copy_w (inv_2.at _).2 _)
theorem wk1 : (addN [] 7 4).1 = 0 := by decide +kernel
theorem wk2 : (rootH W1 (7, 0) cA).1 = 0 := by decide +kernel
theorem wk3 : (derH W2 (7, 0) (7, 1) (copyC (atD W2.1 (7, 0)) 1)).1 = 0 := by decide +kernel
theorem wk4 : getD' W3.1 (7, 1) = (cB, 0) := by kernel_rfl
theorem wk5 : finalH W3 (7, 0) = false := by decide +kernel
theorem wk6 : Tr.belowD W3.2 (7, 0) = [(7, 1)] := by decide +kernel
theorem awake_any (l : List Chunk) : Fn Tryz.prog 8 [] l fun v l' => v = .bool true ∧ ∃ X, l' = X ++ l := by
  refine fn_of_body Tryz.func8 rfl rfl fun E => ?_
  simp only [argF, Tryz.ntmps8]
  refine gzU ?_
  refine t_e (e_call0 rfl rfl (hnew_any _)) rfl rfl rfl ?_
  rintro _ _ ⟨b, rfl, lq, hq, rfl⟩
  have HA := haddN_any b ([], []) lq hq 7 4 l
  have HB := fun lq (hq : IsH b W1 lq) => hroot_any b W1 1 inv_1 lq hq (7, 0) cA l
  have HC := fun lq (hq : IsH b W2 lq) => hcopy_any b W2 2 inv_2 (by decide) lq hq (7, 0) (7, 1) 1 l
  rw [wk1] at HA
  rw [wk2] at HB
  rw [wk3] at HC
  refine gzU ?_
  refine t_eh (e_call0 rfl rfl HA) rfl rfl rfl ?_
  rintro _ _ ⟨rfl, lq, hq, rfl⟩
  refine gzU ?_
  refine t_eh (e_call rfl rfl (HB lq hq)) rfl rfl rfl ?_
  rintro _ _ ⟨rfl, lq, hq, rfl⟩
  refine gzU ?_
  refine t_eh (e_call rfl rfl (HC lq hq)) rfl rfl rfl ?_
  rintro _ _ ⟨rfl, lq, hq, rfl⟩
  have hul : (usedD W3.1).length ≤ 32000 := IsH.ulen (H := W3) hq inv_3 (by decide)
  have HG := fun l2 (h : ∀ c, c ∈ lq → c ∈ l2) => hget_any b W3 lq hq (7, 1) l2 h
  have HF := fun l2 (h : ∀ c, c ∈ lq → c ∈ l2) => hfinal_any b W3 3 inv_3 (by decide) lq hq (7, 0) (by omega) l2 h
  have HW := fun l2 (h : ∀ c, c ∈ lq → c ∈ l2) => hbelow_any b W3 lq hq (by decide) (7, 0) l2 h
  rw [wk4] at HG
  rw [wk5] at HF
  rw [wk6] at HW
  refine gzU ?_
  refine t_q (q_call rfl rfl fun l2 hl => HG l2 fun c hc => hl _ (List.mem_append_left _ hc)) rfl rfl rfl ?_
  refine gzU ?_
  refine t_e e_alloc rfl rfl rfl ?_; rintro _ _ ⟨b3, _, rfl, rfl⟩
  refine gzU ?_
  refine t_h (q_call rfl rfl fun l2 hl => HF l2 fun c hc => hl _ (.tail _ (List.mem_append_left _ hc))) rfl rfl rfl ?_
  refine gzU ?_
  refine t_eh (e_call0 rfl rfl (HW _ fun c hc => .tail _ (List.mem_append_left _ hc))) rfl rfl rfl ?_
  rintro v _ ⟨cs, ho, rfl⟩
  refine gzU ?_
  refine t_eh (e_litA (ws := encT (7, 1)) (k := 2) rfl rfl rfl (by decide) (by decide)) rfl rfl rfl ?_
  rintro _ _ ⟨bl, _, rfl, rfl⟩
  refine t_h (q_call rfl rfl fun l2 hl => Tr.sameSlots_any encT Tr.encT_inj Tr.encT_k _ _ [(7, 1)] [(7, 1)] l2 (OwnSl.rowSl (enc := encT) ho (fun _ => rfl) fun c hc => hl _ (.tail _ (List.mem_append_left _ hc))) ⟨_, 1, rfl, fun _ => ⟨bl, 0, _, _, _, rfl, hl _ (.head _), fun i x hx => ?_⟩⟩ (by decide)) rfl rfl rfl ?_
  · match i, hx with
    | 0, hx => cases hx; exact ⟨by simp, by simp⟩
  rw [decide_eq_true rfl]
  refine gzU ?_
  exact k_ret [] rfl (l' := (cs ++ lq) ++ l) (keep_ac (A := (bl, Obj.cells (List.toArray (encT (7, 1))) 30 (0, 0)) :: (cs ++ (capC b3 cB :: (lq ++ l)))) [(bl, Obj.cells (List.toArray (encT (7, 1))) 30 (0, 0)), capC b3 cB]) (by exact zRes) ⟨rfl, _, rfl⟩
end Go.Proofs.YtpplknmmjlgadaaGreat

/- hold: both tell the same; HoldScript. -/
-- GU
set_option linter.unusedVariables false
set_option linter.unusedSimpArgs false
namespace Go.Proofs.YtpplknmmjlgadaaGreat
open Go.RowKit
set_option maxRecDepth 20000


end Go.Proofs.YtpplknmmjlgadaaGreat
namespace Go.Proofs.YtpplknmmjlgadaaGreat.Tr
open Go.RowKit
theorem nV_inj : ∀ x y, nV x = nV y → x = y := fun x y h => by
  simp only [nV, List.cons.injEq, Value.int.injEq, true_and, and_true] at h
  exact Prod.ext (Prod.ext h.1 h.2.1) h.2.2
theorem nV_k : ∀ x, AllK [some .i64, some .i64, some .i64] (nV x) := fun a => ⟨_, _, rfl, ⟨_, rfl⟩, _, _, rfl, ⟨_, rfl⟩, _, _, rfl, ⟨_, rfl⟩, rfl⟩
theorem below_len (D : DT) (s : SlotT) : (belowD D s).length ≤ D.length := by
  unfold belowD
  cases h : splitD s D with
  | none => simp
  | some z =>
    obtain ⟨A, d, B⟩ := z
    simp only
    rw [List.length_map, (splitD_some h).1]
    have := (List.takeWhile_prefix (l := B) fun x => decide (d < x.2)).length_le
    simp; omega
end Go.Proofs.YtpplknmmjlgadaaGreat.Tr
namespace Go.Proofs.YtpplknmmjlgadaaGreat
open Go.RowKit
set_option maxRecDepth 20000
set_option pp.deepTerms false
set_option pp.deepTerms.threshold 4
set_option maxHeartbeats 400000
theorem both_any (b bw : Nat) (H : HS) (n : Nat) (hI : InvH H n) (hn : n ≤ 1000) (lq lr : List Chunk) (hq : IsH b H lq) (hr : IsRH bw H lr) (s : slT) (l : List Chunk) (hs1 : ∀ c, c ∈ lq → c ∈ l) (hs2 : ∀ c, c ∈ lr → c ∈ l) :
    Fn Tryz.prog 11 [.pointer (some ⟨b, 0, none⟩), .pointer (some ⟨bw, 0, none⟩), .agg (List.toArray (encT s))] l fun v l' => v = .bool true ∧ ∃ X, l' = X ++ l := by
  obtain ⟨z1, z2, z3⟩ := hI.small hn
  have hul := hq.ulen hI hn
  letI : DecidableEq HdT := fun _ _ => Classical.propDecidable _
  have hq0 := hq
  have hr0 := hr
  obtain ⟨qs, qt, qls, qlt, hqb⟩ := hq
  obtain ⟨bs, bt, ls, lt, hb⟩ := hr
  have hmr : rhoC bw bs bt ∈ l := hs2 _ hb.h
  obtain ⟨vt, ct, hlt, hot⟩ := hb.t
  have hmt : Tr.rcC bt vt ∈ l := hs2 _ (hb.m2 _ (by rw [hlt]; exact .head _))
  have hct : ∀ c, c ∈ ct → c ∈ l := fun c hc => hs2 _ (hb.m2 _ (by rw [hlt]; exact .tail _ hc))
  refine fn_of_body Tryz.func11 rfl rfl fun E => ?_
  simp only [argF, Tryz.ntmps11]
  refine gzU ?_
  (first | refine t_e (e_box1 rfl rfl) rfl rfl rfl ?_ | refine t_e (e_boxA rfl) rfl rfl rfl ?_); rintro _ _ ⟨b5, _, rfl, rfl⟩
  refine gzU ?_
  refine t_q (q_call rfl rfl fun l2 hl => hget_any b H lq hq0 s l2 fun c hc => hl _ (.tail _ (hs1 c hc))) rfl rfl rfl ?_
  obtain ⟨d, hd⟩ : ∃ d, (getD' H.1 s).1 = d := ⟨_, rfl⟩
  obtain ⟨e, he⟩ : ∃ e, (getD' H.1 s).2 = e := ⟨_, rfl⟩
  have HG := fun l2 (h : ∀ c, c ∈ ls → c ∈ l2) => rget_any bs H.1 ls hb.s (by omega) s l2 h
  rw [hd, he] at HG ⊢
  refine gzU ?_
  refine t_e e_alloc rfl rfl rfl ?_; rintro _ _ ⟨b7, _, rfl, rfl⟩
  refine gzU ?_
  refine c_draw [(0, true), (1, true), (2, true), (3, true), (4, true), (5, true), (6, true), (7, true), (8, true), (9, false), (10, false), (11, true)] [[], [0], [0, 1], [0, 1, 2], [], [0, 1, 2, 3, 4], [0, 1, 2, 3, 4, 5], [0, 1, 2, 3, 4, 5, 6], [0, 1, 2, 3, 4, 5, 6], [], [0, 1, 2, 3, 4, 5, 6, 7, 9], [0, 1, 2, 3, 4, 5, 6, 7, 8, 9, 10]] _ (by kernel_rfl) (by kernel_rfl) zAtt (fun _ h => h) ?_
  refine pzU ?_
  refine pl_h (q_call rfl rfl fun l2 hl => HG l2 fun c hc => hl _ (.tail _ (.tail _ (hs2 _ (hb.m1 c hc))))) rfl rfl rfl ?_
  refine pzU ?_
  apply pl_e
  · exact e_alloc
  · rfl
  · rfl
  · rfl
  · rintro _ _ ⟨b9, _, _, rfl⟩ z hz
    exact .tail _ hz
  rintro _ _ ⟨b9, _, rfl, rfl⟩
  refine pzU ?_
  refine gzU ?_
  obtain ⟨F, hF⟩ : ∃ F, F = capC b9 d :: capC b7 d :: slC b5 s :: l := ⟨_, rfl⟩
  have f9 : capC b9 d ∈ F := by rw [hF]; exact .head _
  have f7 : capC b7 d ∈ F := by rw [hF]; exact .tail _ (.head _)
  have f5 : slC b5 s ∈ F := by rw [hF]; exact .tail _ (.tail _ (.head _))
  have fl : ∀ c, c ∈ l → c ∈ F := fun c hc => by rw [hF]; exact .tail _ (.tail _ (.tail _ hc))
  refine c_keep (l' := F) (by rw [hF]; exact .refl) ?_
  have HU := fun X => hused_any b H lq hq0 z1 (X ++ F) fun c hc => List.mem_append_right _ (fl _ (hs1 c hc))
  have HT := fun X => htree_any b H lq hq0 z2 (X ++ F) fun c hc => List.mem_append_right _ (fl _ (hs1 c hc))
  have HB := fun X => hbelow_any b H lq hq0 z2 s (X ++ F) fun c hc => List.mem_append_right _ (fl _ (hs1 c hc))
  refine c_draw [(0, true), (2, true), (4, true), (5, true), (1, false), (3, false), (6, false), (7, true), (8, true), (9, true)] [[], [0], [], [0, 1, 2], [], [], [0, 1, 2, 3, 4, 5], [0, 1, 2, 3, 4, 5, 6], [0, 1, 2, 3, 4, 5, 6, 7], [0, 1, 2, 3, 4, 5, 6, 7, 8]] (F) (by kernel_rfl) (by kernel_rfl) zAtt zHR ?_
  refine pzU ?_
  apply pl_e
  · exact e_call0 rfl rfl (HU [])
  · rfl
  · rfl
  · rfl
  · rintro _ _ ⟨c1, _, rfl⟩ z hz
    exact List.mem_append_right _ hz
  rintro v1 _ ⟨c1, ho1, rfl⟩
  rw [List.nil_append]
  refine pzU ?_
  apply pl_e
  · exact e_call0 rfl rfl (HT c1)
  · rfl
  · rfl
  · rfl
  · rintro _ _ ⟨c2, _, rfl⟩ z hz
    exact List.mem_append_right _ (List.mem_append_right _ hz)
  rintro v2 _ ⟨c2, ho2, rfl⟩
  refine pzU ?_
  have HB2 := HB (c2 ++ c1)
  rw [List.append_assoc] at HB2
  apply pl_e
  · exact e_call0 rfl rfl HB2
  · rfl
  · rfl
  · rfl
  · rintro _ _ ⟨c3, _, rfl⟩ z hz
    exact List.mem_append_right _ (List.mem_append_right _ (List.mem_append_right _ hz))
  rintro v3 _ ⟨c3, ho3, rfl⟩
  refine pzU ?_
  refine gzU ?_
  have o1 : v1.oneCell' = true := ho1.one
  have o2 : v2.oneCell' = true := ho2.one
  have o3 : v3.oneCell' = true := ho3.one
  obtain ⟨R, hR⟩ : ∃ R, R = c3 ++ (c2 ++ (c1 ++ F)) := ⟨_, rfl⟩
  have mF : ∀ c, c ∈ F → c ∈ R := fun c hc => by rw [hR]; exact List.mem_append_right _ (List.mem_append_right _ (List.mem_append_right _ hc))
  have m1 : ∀ c, c ∈ c1 → c ∈ R := fun c hc => by rw [hR]; exact List.mem_append_right _ (List.mem_append_right _ (List.mem_append_left _ hc))
  have m2 : ∀ c, c ∈ c2 → c ∈ R := fun c hc => by rw [hR]; exact List.mem_append_right _ (List.mem_append_left _ hc)
  have m3 : ∀ c, c ∈ c3 → c ∈ R := fun c hc => by rw [hR]; exact List.mem_append_left _ hc
  have r9 := mF _ f9
  have r7 := mF _ f7
  have r5 := mF _ f5
  have rr := mF _ (fl _ hmr)
  have rt := mF _ (fl _ hmt)
  have ml : ∀ c, c ∈ l → c ∈ R := fun c hc => mF _ (fl _ hc)
  refine c_keep (l' := R) (by rw [hR]; exact .refl) ?_
  refine c_draw [(0, true), (1, true), (2, true), (3, true), (4, true), (5, true), (6, true), (7, true), (8, true), (9, true), (10, true), (11, true), (12, true), (13, true), (14, true), (15, false), (16, false), (17, true), (18, true), (19, true), (20, true), (21, true), (22, true), (23, true), (24, true), (25, true), (26, true), (27, true), (28, true), (29, true), (30, true), (31, true), (32, true), (33, true), (34, true), (35, true), (36, false), (37, false), (38, true), (39, true), (40, true), (41, true), (42, true), (43, true), (44, true), (45, false), (46, true), (47, true), (48, true), (49, true), (50, true), (52, true), (53, true), (54, true), (55, true), (51, false), (56, false), (57, false), (58, true), (59, true)] [[], [], [0, 1], [0, 1, 2], [0, 1, 2, 3], [0, 1, 2, 3, 4], [0, 1, 2, 3], [0, 1, 2, 3, 4, 5, 6], [0, 1, 2, 3, 4, 5, 6, 7], [0, 1, 2, 3, 4, 5, 6, 7, 8], [0, 1, 2, 3, 4, 5, 6, 7, 8, 9], [0, 1, 2, 3, 4, 5, 6, 7, 8, 9], [0, 1, 2, 3, 4, 5, 6, 7, 8, 9, 11], [0, 1, 2, 3, 4, 5, 6, 7, 8, 9, 11, 12], [0, 1, 2, 3, 4, 5, 6, 7, 8, 9, 11, 12, 13], [0, 1, 2, 3, 4, 5, 6, 7, 8, 9, 11, 12, 13, 14], [0, 1, 2, 3, 4, 5, 6, 7, 8, 9, 10, 11, 12, 13, 14, 15], [0, 1, 2, 3, 4, 5, 6, 7, 8, 9, 10, 11, 12, 13, 14, 15, 16], [0, 1, 2, 3, 4, 5, 6, 7, 8, 9, 10, 11, 12, 13, 14, 15, 16, 17], [0, 1, 2, 3, 4, 5, 6, 7, 8, 9, 10, 11, 12, 13, 14, 15, 16, 17, 18], [0, 1, 2, 3, 4, 5, 6, 7, 8, 9, 10, 11, 12, 13, 14, 15, 16, 17, 18], [0, 1, 2, 3, 4, 5, 6, 7, 8, 9, 10, 11, 12, 13, 14, 15, 16, 17, 18, 20], [0, 1, 2, 3, 4, 5, 6, 7, 8, 9, 10, 11, 12, 13, 14, 15, 16, 17, 18, 20, 21], [0, 1, 2, 3, 4, 5, 6, 7, 8, 9, 10, 11, 12, 13, 14, 15, 16, 17, 18, 20, 21, 22], [0, 1, 2, 3, 4, 5, 6, 7, 8, 9, 10, 11, 12, 13, 14, 15, 16, 17, 18, 20, 21, 22, 23], [0, 1, 2, 3, 4, 5, 6, 7, 8, 9, 10, 11, 12, 13, 14, 15, 16, 17, 18, 20, 21, 22, 23, 24], [0, 1, 2, 3, 4, 5, 6, 7, 8, 9, 10, 11, 12, 13, 14, 15, 16, 17, 18, 20, 21, 22, 23, 24, 25], [0, 1, 2, 3, 4, 5, 6, 7, 8, 9, 10, 11, 12, 13, 14, 15, 16, 17, 18, 19, 20, 21, 22, 23, 24, 25, 26], [0, 1, 2, 3, 4, 5, 6, 7, 8, 9, 10, 11, 12, 13, 14, 15, 16, 17, 18, 19, 20, 21, 22, 23, 24, 25, 26, 27], [0, 1, 2, 3, 4, 5, 6, 7, 8, 9, 10, 11, 12, 13, 14, 15, 16, 17, 18, 19, 20, 21, 22, 23, 24, 25, 26, 27, 28], [0, 1, 2, 3, 4, 5, 6, 7, 8, 9, 10, 11, 12, 13, 14, 15, 16, 17, 18, 19, 20, 21, 22, 23, 24, 25, 26, 27, 28, 29], [0, 1, 2, 3, 4, 5, 6, 7, 8, 9, 10, 11, 12, 13, 14, 15, 16, 17, 18, 19, 20, 21, 22, 23, 24, 25, 26, 27, 28, 29], [0, 1, 2, 3, 4, 5, 6, 7, 8, 9, 10, 11, 12, 13, 14, 15, 16, 17, 18, 19, 20, 21, 22, 23, 24, 25, 26, 27, 28, 29, 31], [0, 1, 2, 3, 4, 5, 6, 7, 8, 9, 10, 11, 12, 13, 14, 15, 16, 17, 18, 19, 20, 21, 22, 23, 24, 25, 26, 27, 28, 29, 31, 32], [0, 1, 2, 3, 4, 5, 6, 7, 8, 9, 10, 11, 12, 13, 14, 15, 16, 17, 18, 19, 20, 21, 22, 23, 24, 25, 26, 27, 28, 29, 31, 32, 33], [0, 1, 2, 3, 4, 5, 6, 7, 8, 9, 10, 11, 12, 13, 14, 15, 16, 17, 18, 19, 20, 21, 22, 23, 24, 25, 26, 27, 28, 29], [0, 1, 2, 3, 4, 5, 6, 7, 8, 9, 10, 11, 12, 13, 14, 15, 16, 17, 18, 19, 20, 21, 22, 23, 24, 25, 26, 27, 28, 29, 31, 32, 33, 34, 35], [0, 1, 2, 3, 4, 5, 6, 7, 8, 9, 10, 11, 12, 13, 14, 15, 16, 17, 18, 19, 20, 21, 22, 23, 24, 25, 26, 27, 28, 29, 30, 31, 32, 33, 34, 35, 36], [0, 1, 2, 3, 4, 5, 6, 7, 8, 9, 10, 11, 12, 13, 14, 15, 16, 17, 18, 19, 20, 21, 22, 23, 24, 25, 26, 27, 28, 29, 30, 31, 32, 33, 34, 35, 36, 37], [0, 1, 2, 3, 4, 5, 6, 7, 8, 9, 10, 11, 12, 13, 14, 15, 16, 17, 18, 19, 20, 21, 22, 23, 24, 25, 26, 27, 28, 29, 30, 31, 32, 33, 34, 35, 36, 37, 38], [0, 1, 2, 3, 4, 5, 6, 7, 8, 9, 10, 11, 12, 13, 14, 15, 16, 17, 18, 19, 20, 21, 22, 23, 24, 25, 26, 27, 28, 29, 30, 31, 32, 33, 34, 35, 36, 37, 38, 39], [0, 1, 2, 3, 4, 5, 6, 7, 8, 9, 10, 11, 12, 13, 14, 15, 16, 17, 18, 19, 20, 21, 22, 23, 24, 25, 26, 27, 28, 29, 30, 31, 32, 33, 34, 35, 36, 37, 38, 39], [0, 1, 2, 3, 4, 5, 6, 7, 8, 9, 10, 11, 12, 13, 14, 15, 16, 17, 18, 19, 20, 21, 22, 23, 24, 25, 26, 27, 28, 29, 30, 31, 32, 33, 34, 35, 36, 37, 38, 39, 40, 41], [0, 1, 2, 3, 4, 5, 6, 7, 8, 9, 10, 11, 12, 13, 14, 15, 16, 17, 18, 19, 20, 21, 22, 23, 24, 25, 26, 27, 28, 29, 30, 31, 32, 33, 34, 35, 36, 37, 38, 39], [0, 1, 2, 3, 4, 5, 6, 7, 8, 9, 10, 11, 12, 13, 14, 15, 16, 17, 18, 19, 20, 21, 22, 23, 24, 25, 26, 27, 28, 29, 30, 31, 32, 33, 34, 35, 36, 37, 38, 39], [0, 1, 2, 3, 4, 5, 6, 7, 8, 9, 10, 11, 12, 13, 14, 15, 16, 17, 18, 19, 20, 21, 22, 23, 24, 25, 26, 27, 28, 29, 30, 31, 32, 33, 34, 35, 36, 37, 38, 39, 40, 41, 42, 43, 44], [0, 1, 2, 3, 4, 5, 6, 7, 8, 9, 10, 11, 12, 13, 14, 15, 16, 17, 18, 19, 20, 21, 22, 23, 24, 25, 26, 27, 28, 29, 30, 31, 32, 33, 34, 35, 36, 37, 38, 39, 40, 41, 42, 43, 44, 45], [0, 1, 2, 3, 4, 5, 6, 7, 8, 9, 10, 11, 12, 13, 14, 15, 16, 17, 18, 19, 20, 21, 22, 23, 24, 25, 26, 27, 28, 29, 30, 31, 32, 33, 34, 35, 36, 37, 38, 39, 40, 41, 42, 43, 44, 45, 46], [0, 1, 2, 3, 4, 5, 6, 7, 8, 9, 10, 11, 12, 13, 14, 15, 16, 17, 18, 19, 20, 21, 22, 23, 24, 25, 26, 27, 28, 29, 30, 31, 32, 33, 34, 35, 36, 37, 38, 39, 40, 41, 42, 43, 44, 45, 46, 47], [0, 1, 2, 3, 4, 5, 6, 7, 8, 9, 10, 11, 12, 13, 14, 15, 16, 17, 18, 19, 20, 21, 22, 23, 24, 25, 26, 27, 28, 29, 30, 31, 32, 33, 34, 35, 36, 37, 38, 39, 40, 41, 42, 43, 44, 45, 46, 47, 48], [0, 1, 2, 3, 4, 5, 6, 7, 8, 9, 10, 11, 12, 13, 14, 15, 16, 17, 18, 19, 20, 21, 22, 23, 24, 25, 26, 27, 28, 29, 30, 31, 32, 33, 34, 35, 36, 37, 38, 39, 40, 41, 42, 43, 44, 45, 46, 47, 48, 49], [0, 1, 2, 3, 4, 5, 6, 7, 8, 9, 10, 11, 12, 13, 14, 15, 16, 17, 18, 19, 20, 21, 22, 23, 24, 25, 26, 27, 28, 29, 30, 31, 32, 33, 34, 35, 36, 37, 38, 39, 40, 41, 42, 43, 44, 45, 46, 47, 48, 49, 50], [0, 1, 2, 3, 4, 5, 6, 7, 8, 9, 10, 11, 12, 13, 14, 15, 16, 17, 18, 19, 20, 21, 22, 23, 24, 25, 26, 27, 28, 29, 30, 31, 32, 33, 34, 35, 36, 37, 38, 39, 40, 41, 42, 43, 44, 45, 46, 47, 48], [0, 1, 2, 3, 4, 5, 6, 7, 8, 9, 10, 11, 12, 13, 14, 15, 16, 17, 18, 19, 20, 21, 22, 23, 24, 25, 26, 27, 28, 29, 30, 31, 32, 33, 34, 35, 36, 37, 38, 39, 40, 41, 42, 43, 44, 45, 46, 47, 48, 52], [0, 1, 2, 3, 4, 5, 6, 7, 8, 9, 10, 11, 12, 13, 14, 15, 16, 17, 18, 19, 20, 21, 22, 23, 24, 25, 26, 27, 28, 29, 30, 31, 32, 33, 34, 35, 36, 37, 38, 39, 40, 41, 42, 43, 44, 45, 46, 47, 48, 52, 53], [0, 1, 2, 3, 4, 5, 6, 7, 8, 9, 10, 11, 12, 13, 14, 15, 16, 17, 18, 19, 20, 21, 22, 23, 24, 25, 26, 27, 28, 29, 30, 31, 32, 33, 34, 35, 36, 37, 38, 39, 40, 41, 42, 43, 44, 45, 46, 47, 48, 52, 53, 54], [0, 1, 2, 3, 4, 5, 6, 7, 8, 9, 10, 11, 12, 13, 14, 15, 16, 17, 18, 19, 20, 21, 22, 23, 24, 25, 26, 27, 28, 29, 30, 31, 32, 33, 34, 35, 36, 37, 38, 39, 40, 41, 42, 43, 44, 45, 46, 47, 48, 49, 50, 51, 52, 53, 54, 55], [0, 1, 2, 3, 4, 5, 6, 7, 8, 9, 10, 11, 12, 13, 14, 15, 16, 17, 18, 19, 20, 21, 22, 23, 24, 25, 26, 27, 28, 29, 30, 31, 32, 33, 34, 35, 36, 37, 38, 39, 40, 41, 42, 43, 44, 45, 46, 47, 48, 49, 50, 51, 52, 53, 54, 55, 56], [0, 1, 2, 3, 4, 5, 6, 7, 8, 9, 10, 11, 12, 13, 14, 15, 16, 17, 18, 19, 20, 21, 22, 23, 24, 25, 26, 27, 28, 29, 30, 31, 32, 33, 34, 35, 36, 37, 38, 39, 40, 41, 42, 43, 44, 45, 46, 47, 48, 49, 50, 51, 52, 53, 54, 55, 56, 57], [0, 1, 2, 3, 4, 5, 6, 7, 8, 9, 10, 11, 12, 13, 14, 15, 16, 17, 18, 19, 20, 21, 22, 23, 24, 25, 26, 27, 28, 29, 30, 31, 32, 33, 34, 35, 36, 37, 38, 39, 40, 41, 42, 43, 44, 45, 46, 47, 48, 49, 50, 51, 52, 53, 54, 55, 56, 57, 58]] _ (by kernel_rfl) (by kernel_rfl) zAtt (fun _ h => h) ?_
  refine pzU ?_
  refine pl_h (q_eqagg (xs := encC d) (ys := encC d) rfl rfl (encC_k d) (encC_k d)) rfl rfl rfl ?_
  rw [eqCells_self (encC_k d)]
  refine pzU ?_
  refine pl_h (q_call rfl rfl (fun l hl => num_any _ l)) rfl rfl rfl ?_
  refine pzU ?_
  apply pl_geS
  · exact e_call0 rfl rfl (rused_any bs H.1 ls hb.s (by omega) hI.valD _ (fun c hc => by repeat (first | exact ml _ (hs2 _ (hb.m1 c hc)) | apply List.mem_append_right)))
  · rfl
  · rfl
  · rfl
  · rintro _ _ ⟨u1, _, rfl⟩
    intro c hc; repeat (first | exact hc | apply List.mem_append_right)
  · intro _ _ _ _ h
    cases h
  rintro w1 _ ⟨u1, p1, rfl⟩
  obtain ⟨U, hU⟩ : ∃ U, usedD H.1 = U := ⟨_, rfl⟩
  rw [hU] at ho1 p1 hul HU
  refine pzU ?_
  apply pl_geS
  · exact e_call0 rfl rfl (sameHeld_any encE encE_inj encE_k v1 w1 U U _ (ho1.hds' fun c hc => List.mem_append_right _ (m1 c hc)) (p1.hds' fun c hc => List.mem_append_left _ hc) (by omega))
  · rfl
  · rfl
  · rfl
  · rintro _ _ ⟨_, rfl⟩
    intro c hc; repeat (first | exact hc | apply List.mem_append_right)
  · intro _ _ _ _ h
    cases h
  rintro _ _ ⟨rfl, rfl⟩
  rw [decide_eq_true (rfl : U = _)]
  refine pzU ?_
  refine pl_h (q_call rfl rfl fun l2 hl => Tr.sameNodes_any Tr.nV Tr.nV_inj Tr.nV_k v2 vt H.2 H.2 l2 (ho2.nodes fun c hc => hl _ (m2 c hc)) (hot.nodes fun c hc => hl _ (ml _ (hct c hc))) (by omega)) rfl rfl rfl ?_
  rw [decide_eq_true (rfl : H.2 = _)]
  refine pzU ?_
  apply pl_geS
  · exact e_call0 rfl rfl (Tr.rbelow_any bt H.2 lt hb.t (by omega) s _ (fun c hc => by repeat (first | exact ml _ (hs2 _ (hb.m2 c hc)) | apply List.mem_append_right)))
  · rfl
  · rfl
  · rfl
  · rintro _ _ ⟨u2, _, rfl⟩
    intro c hc; repeat (first | exact hc | apply List.mem_append_right)
  · intro _ _ _ _ h
    cases h
  rintro w2 _ ⟨u2, p2, rfl⟩
  have hbl := Tr.below_len H.2 s
  obtain ⟨B, hB⟩ : ∃ B, Tr.belowD H.2 s = B := ⟨_, rfl⟩
  rw [hB] at ho3 p2 hbl
  refine pzU ?_
  apply pl_geS
  · exact e_call0 rfl rfl (Tr.sameSlots_any Tr.encT Tr.encT_inj Tr.encT_k v3 w2 B B _ (OwnSl.rowSl (enc := Tr.encT) ho3 (fun _ => rfl) fun c hc => List.mem_append_right _ (List.mem_append_right _ (m3 c hc))) (OwnSl.rowSl (enc := Tr.encT) p2 (fun _ => rfl) fun c hc => List.mem_append_left _ hc) (by omega))
  · rfl
  · rfl
  · rfl
  · rintro _ _ ⟨_, rfl⟩
    intro c hc; repeat (first | exact hc | apply List.mem_append_right)
  · intro _ _ _ _ h
    cases h
  rintro _ _ ⟨rfl, rfl⟩
  rw [decide_eq_true (rfl : B = _)]
  refine pzU ?_
  refine pl_h (q_call rfl rfl fun l2 hl => hfinal_any b H n hI hn lq hq0 s (by rw [hU]; omega) l2 fun c hc => hl _ (ml _ (hs1 c hc))) rfl rfl rfl ?_
  refine pzU ?_
  apply pl_geS
  · exact e_call0 rfl rfl (rhfinal_any bw H n hI hn lr hr0 s (by rw [hU]; omega) _ (fun c hc => by repeat (first | exact ml _ (hs2 c hc) | apply List.mem_append_right)))
  · rfl
  · rfl
  · rfl
  · rintro _ _ ⟨_, u3, rfl⟩
    intro c hc; repeat (first | exact hc | apply List.mem_append_right)
  · intro _ _ _ _ h
    cases h
  rintro _ _ ⟨rfl, u3, rfl⟩
  refine pzU ?_
  rw [beq_self_eq_true]
  refine pzU ?_
  refine pl_h (q_call rfl rfl fun l2 hl => hslots_any b qs qt l2 (hl _ (ml _ (hs1 _ hqb.h)))) rfl rfl rfl ?_
  refine pzU ?_
  apply pl_geS
  · exact e_call0 rfl rfl (all_any qs H.1 qls hqb.s (by omega) _ (fun c hc => by repeat (first | exact ml _ (hs1 _ (hqb.m1 c hc)) | apply List.mem_append_right)))
  · rfl
  · rfl
  · rfl
  · rintro _ _ ⟨u4, _, rfl⟩
    intro c hc; repeat (first | exact hc | apply List.mem_append_right)
  · intro _ _ _ _ h
    cases h
  rintro w4 _ ⟨u4, p4, rfl⟩
  rw [hU] at p4
  refine pzU ?_
  apply pl_geS
  · exact e_call0 rfl rfl (rused_any bs H.1 ls hb.s (by omega) hI.valD _ (fun c hc => by repeat (first | exact ml _ (hs2 _ (hb.m1 c hc)) | apply List.mem_append_right)))
  · rfl
  · rfl
  · rfl
  · rintro _ _ ⟨u5, _, rfl⟩
    intro c hc; repeat (first | exact hc | apply List.mem_append_right)
  · intro _ _ _ _ h
    cases h
  rintro w5 _ ⟨u5, p5, rfl⟩
  rw [hU] at p5
  refine pzU ?_
  apply pl_geS
  · exact e_call0 rfl rfl (sameHeld_any encE encE_inj encE_k w4 w5 U U _ (p4.hds' fun c hc => List.mem_append_right _ (List.mem_append_left _ hc)) (p5.hds' fun c hc => List.mem_append_left _ hc) (by omega))
  · rfl
  · rfl
  · rfl
  · rintro _ _ ⟨_, rfl⟩
    intro c hc; repeat (first | exact hc | apply List.mem_append_right)
  · intro _ _ _ _ h
    cases h
  rintro _ _ ⟨rfl, rfl⟩
  rw [decide_eq_true (rfl : U = _)]
  refine pzU ?_
  refine gzU ?_
  have hlen2 := z2
  obtain ⟨X, hX⟩ : ∃ X, X = u5 ++ (u4 ++ (u3 ++ (u2 ++ u1))) := ⟨_, rfl⟩
  refine s_keep (l' := c1 ++ (X ++ (c3 ++ (c2 ++ F)))) (by rw [hR, hX]; exact keep_ac (A := u5 ++ (u4 ++ (u3 ++ (u2 ++ (u1 ++ (c3 ++ (c2 ++ (c1 ++ F)))))))) []) ?_
  refine gzU ?_
  refine t_e (e_call0 rfl rfl (overHeld_any v1 _ _ c1 _ ho1 (by omega))) rfl rfl rfl ?_
  rintro _ _ ⟨rfl, X1, rfl⟩
  refine gzU ?_
  refine s_keep (l' := c2 ++ (X1 ++ (X ++ (c3 ++ F)))) (keep_ac []) ?_
  refine t_e (e_call0 rfl rfl (Tr.overNodes_any v2 _ _ c2 _ ho2 (by omega))) rfl rfl rfl ?_
  rintro _ _ ⟨rfl, X2, rfl⟩
  refine gzU ?_
  refine s_keep (l' := c3 ++ (X2 ++ (X1 ++ (X ++ F)))) (keep_ac []) ?_
  refine t_e (e_call0 rfl rfl (Tr.overSlots_any v3 _ _ c3 _ ho3 (by omega))) rfl rfl rfl ?_
  rintro _ _ ⟨rfl, X3, rfl⟩
  refine gzU ?_
  exact k_ret [] rfl (l' := (X3 ++ (X2 ++ (X1 ++ X))) ++ l) (by rw [hF]; exact keep_ac [capC b9 d, capC b7 d, slC b5 s]) (by exact zRes) ⟨rfl, _, rfl⟩
end Go.Proofs.YtpplknmmjlgadaaGreat

/- HoldScript: the walk. -/
-- GU
set_option linter.unusedVariables false
set_option linter.unusedSimpArgs false
namespace Go.Proofs.YtpplknmmjlgadaaGreat
open Go.RowKit
set_option maxRecDepth 20000

theorem hacts_of : ∀ {rows : List (List Value)}, (∀ r, r ∈ rows → ∃ x : AcH, r = encK x ∧ OkA x) → ∃ xs : List AcH, rows = xs.map encK ∧ ∀ x, x ∈ xs → OkA x
  | [], _ => ⟨[], rfl, fun x hx => by cases hx⟩
  | r :: rows, h => by
    obtain ⟨x, hx, hg⟩ := h r List.mem_cons_self
    obtain ⟨xs, hxs, hgs⟩ := hacts_of fun r' hr' => h r' (List.mem_cons_of_mem _ hr')
    exact ⟨x :: xs, by rw [hx, hxs]; rfl, fun y hy => by
      rcases List.mem_cons.1 hy with rfl | hy
      · exact hg
      · exact hgs y hy⟩
theorem i64_le {a : Int} (h : (Lit.int .i64 a).wf = true) : a ≤ 9223372036854775807 := by
  simp [Lit.wf, IntKind.min, IntKind.max, IntKind.signed, IntKind.bits] at h
  omega
theorem u64_of {a : Int} (h : (Lit.int .u64 a).wf = true) : ∃ n : Nat, a = n ∧ n < 18446744073709551616 := by
  simp [Lit.wf, IntKind.min, IntKind.max, IntKind.signed, IntKind.bits] at h
  exact ⟨a.toNat, by omega, by omega⟩
abbrev acK : List (Option IntKind) := [some .i64, some .i64, some .i64, some .i64, some .i64, some .i64, some .i64, some .i64, some .u64, some .i64, some .i64, some .i64, some .i64, some .i64, some .u64]
theorem hacts_rows {W : World} {a : Option Addr} {n cap : Nat} {rows : List (List Value)} (h : IsRows acK W a n cap rows) : ∃ acts : List AcH, acts.length = n ∧ InRows (allOf W) a n 15 (acts.map encK) ∧ ∀ x, x ∈ acts → OkA x := by
  obtain ⟨acts, hx, hg⟩ := hacts_of (rows := rows) fun r hr => by
    obtain ⟨_, _, rfl, ⟨d, rfl, _⟩, _, _, rfl, ⟨a1, rfl, _⟩, _, _, rfl, ⟨a2, rfl, _⟩, _, _, rfl, ⟨b1, rfl, _⟩, _, _, rfl, ⟨b2, rfl, _⟩, _, _, rfl, ⟨c0, rfl, _⟩, _, _, rfl, ⟨c1, rfl, _⟩, _, _, rfl, ⟨c2, rfl, _⟩, _, _, rfl, ⟨c3, rfl, w3⟩, _, _, rfl, ⟨c4, rfl, w4⟩, _, _, rfl, ⟨c5, rfl, _⟩, _, _, rfl, ⟨c6, rfl, _⟩, _, _, rfl, ⟨c7, rfl, _⟩, _, _, rfl, ⟨m, rfl, _⟩, _, _, rfl, ⟨w, rfl, ww⟩, rfl⟩ := h.all r hr
    obtain ⟨wn, rfl, hwn⟩ := u64_of ww
    obtain ⟨bn, rfl, _⟩ := u64_of w3
    exact ⟨⟨d, (a1, a2), (b1, b2), ⟨c0, c1, c2, (bn : Nat), c4, c5, c6, c7⟩, m, wn⟩, rfl, ⟨by simp only; omega, i64_le w4⟩, hwn⟩
  refine ⟨acts, ?_, ?_, hg⟩
  · have := h.size; rw [hx] at this; simpa using this
  · rw [← hx]; exact rows_in h (by decide)
set_option pp.deepTerms false
set_option pp.deepTerms.threshold 4
set_option maxHeartbeats 400000
theorem holdScript_any (a0 : Option Addr) (n cap : Nat) (acts : List AcH) (l : List Chunk) (hin : InRows l a0 n 15 (acts.map encK)) (hsz : acts.length = n) (hok : ∀ x, x ∈ acts → OkA x) :
    Fn Tryz.prog 3 [.slice a0 n cap] l fun v l' => v = .bool true ∧ ∃ c, l' = c ++ l := by
  refine fn_of_body Tryz.func3 rfl rfl fun E => ?_
  simp only [argF, Tryz.ntmps3]
  refine gzU ?_
  by_cases h100 : 100 < n
  · refine gzU ?_
    refine t_e (e_call0 rfl rfl (awake_any _)) rfl rfl rfl ?_
    rintro _ _ ⟨rfl, cx, rfl⟩
    refine gzU ?_
    exact k_ret [] rfl (l' := cx ++ l) .refl (by exact zRes) ⟨rfl, _, rfl⟩
  refine gzU ?_
  refine t_e (e_call0 rfl rfl (start_any _)) rfl rfl rfl ?_
  rintro _ _ ⟨b, bw, lq, lr, rfl, hq, hr, rfl⟩
  refine gzU ?_
  refine k_loop (α := Nat × HS × List Chunk × List Chunk × List Chunk) (fun x => [(0, .slice a0 n cap), (3, .pointer (some ⟨b, 0, none⟩)), (4, .pointer (some ⟨bw, 0, none⟩)), (5, .int .i64 x.1)]) (fun x => x.2.2.1 ++ (x.2.2.2.1 ++ (x.2.2.2.2 ++ l))) (fun x => x.1 ≤ n ∧ InvH x.2.1 (3 + x.1) ∧ IsH b x.2.1 x.2.2.1 ∧ IsRH bw x.2.1 x.2.2.2.1) (fun x => n - x.1) (0, H0, lq, lr, []) ⟨Nat.zero_le _, inv_0, hq, hr⟩ ⟨rfl, rfl, rfl, rfl, trivial⟩ .refl ?_
  clear hq hr
  rintro ⟨i, H, lq, lr, X⟩ ⟨hi, hI, hq, hr⟩
  simp only at hi hI hq hr ⊢
  by_cases hlt : i < n
  case neg =>
    refine gzU ?_
    refine t_e (e_call0 rfl rfl (awake_any _)) rfl rfl rfl ?_
    rintro _ _ ⟨rfl, cx, rfl⟩
    refine gzU ?_
    exact k_ret [] rfl (l' := (cx ++ (lq ++ (lr ++ X))) ++ l) (keep_ac []) (by exact zRes) ⟨rfl, _, rfl⟩
  obtain ⟨bB, off, xs, ty, fz, rfl, hm, hxs⟩ := hin (by omega)
  obtain ⟨x, hx⟩ : ∃ x, acts[i]? = some x := ⟨_, List.getElem?_eq_getElem (by omega)⟩
  obtain ⟨hx1, hx2, _⟩ := hxs i (encK x) (by rw [List.getElem?_map, hx]; rfl)
  have hox := hok x (List.mem_of_getElem? hx)
  have hmm : ∀ lq lr X : List Chunk, (bB, Obj.cells xs ty fz) ∈ lq ++ (lr ++ (X ++ l)) := fun lq lr X => List.mem_append_right _ (List.mem_append_right _ (List.mem_append_right _ hm))
  have hA := ext_part (j := 1) (n := 2) hx2 hx1 (by omega)
  have hB := ext_part (j := 3) (n := 2) hx2 hx1 (by omega)
  have hI2 := hI.act x hox
  refine gzU ?_
  refine t_q (q_loadA rfl (hmm _ _ _) hx1 hx2) rfl rfl rfl ?_
  refine gzU ?_
  refine t_eh (e_call rfl rfl (done_any b bw H (3 + i) hI (by omega) lq lr hq hr x hox (X ++ l))) rfl rfl rfl ?_
  rintro _ _ ⟨rfl, lq, lr, hq, hr, rfl⟩
  refine gzU ?_
  refine t_h (q_loadA (n := 2) rfl (hmm _ _ _) (by omega) hA) rfl rfl rfl ?_
  refine gzU ?_
  refine t_eh (e_call (vs := [.pointer (some ⟨b, 0, none⟩), .pointer (some ⟨bw, 0, none⟩), .agg (List.toArray (encT x.a))]) rfl rfl (both_any b bw _ (3 + i + 1) hI2 (by omega) lq lr hq hr x.a (lq ++ (lr ++ (X ++ l))) (fun c hc => List.mem_append_left _ hc) (fun c hc => List.mem_append_right _ (List.mem_append_left _ hc)))) rfl rfl rfl ?_
  rintro _ _ ⟨rfl, X1, rfl⟩
  refine gzU ?_
  refine t_h (q_loadA (n := 2) rfl (List.mem_append_right _ (hmm _ _ _)) (by omega) hB) rfl rfl rfl ?_
  refine gzU ?_
  refine t_eh (e_call (vs := [.pointer (some ⟨b, 0, none⟩), .pointer (some ⟨bw, 0, none⟩), .agg (List.toArray (encT x.b))]) rfl rfl (both_any b bw _ (3 + i + 1) hI2 (by omega) lq lr hq hr x.b (X1 ++ (lq ++ (lr ++ (X ++ l)))) (fun c hc => List.mem_append_right _ (List.mem_append_left _ hc)) (fun c hc => List.mem_append_right _ (List.mem_append_right _ (List.mem_append_left _ hc))))) rfl rfl rfl ?_
  rintro _ _ ⟨rfl, X2, rfl⟩
  refine gzU ?_
  exact k_next (i + 1, actH H x, lq, lr, X2 ++ (X1 ++ X)) ⟨by simp only; omega, hI2, hq, hr⟩ (by simp only; omega) ⟨rfl, rfl, rfl, rfl, trivial⟩ (keep_ac [])
theorem holdScript_walk' (a0 : Option Addr) (len0 cap0 : Nat) (rows0 : List (List Value)) (W : World) (h : IsRows acK W a0 len0 cap0 rows0) :
    Calls Tryz.prog 3 #[.slice a0 len0 cap0] W fun e W' => e = .returned (.bool true) ∧ Below W.heap.size W W' := by
  obtain ⟨acts, h1, h2, h3⟩ := hacts_rows h
  exact law_walk (holdScript_any a0 len0 cap0 acts (allOf W) h2 h1 h3)
end Go.Proofs.YtpplknmmjlgadaaGreat

/- hold: who is used, and who is in the tree; a hold behind acts. -/
-- GU
set_option linter.unusedVariables false
set_option linter.unusedSimpArgs false
namespace Go.Proofs.YtpplknmmjlgadaaGreat
open Go.RowKit
set_option maxRecDepth 20000

theorem usedTo_lt {a : Int} {C : List CapT} {h : HdT} : ∀ {k : Nat}, h ∈ usedTo a C k → ∃ j : Nat, j < k ∧ h.1 = (a, (j : Int)) ∧ C[j]? = some h.2 ∧ h.2 ≠ capZ
  | 0, hm => by cases hm
  | k + 1, hm => by
    rcases List.mem_append.1 hm with hm | hm
    · obtain ⟨j, h1, h2⟩ := usedTo_lt hm
      exact ⟨j, by omega, h2⟩
    · split at hm
      · rename_i c hc
        split at hm
        · cases hm
        · rename_i hz
          rw [List.mem_singleton.1 hm]
          exact ⟨k, by omega, rfl, hc, fun e => hz (eqC_iff.2 e)⟩
      · cases hm
theorem usedTo_in {a : Int} {C : List CapT} {c : CapT} : ∀ {k j : Nat}, j < k → C[j]? = some c → c ≠ capZ → ((a, (j : Int)), c) ∈ usedTo a C k
  | 0, _, h, _, _ => by omega
  | k + 1, j, h, hc, hz => by
    by_cases hj : j < k
    · exact List.mem_append_left _ (usedTo_in hj hc hz)
    · obtain rfl : j = k := by omega
      refine List.mem_append_right _ ?_
      rw [hc]
      simp only
      rw [if_neg fun e => hz (eqC_iff.1 e)]
      exact List.mem_singleton.2 rfl
theorem usedTo_nd (a : Int) (C : List CapT) : ∀ k : Nat, ((usedTo a C k).map Prod.fst).Nodup
  | 0 => by simp [usedTo]
  | k + 1 => by
    show ((usedTo a C k ++ _).map Prod.fst).Nodup
    rw [List.map_append, List.nodup_append]
    refine ⟨usedTo_nd a C k, ?_, ?_⟩
    · split
      · split <;> simp
      · simp
    · intro x hx y hy e
      obtain ⟨h, hh, rfl⟩ := List.mem_map.1 hx
      obtain ⟨j, hj, h1, _⟩ := usedTo_lt hh
      obtain ⟨z, hz, rfl⟩ := List.mem_map.1 hy
      split at hz
      · split at hz
        · cases hz
        · rw [List.mem_singleton.1 hz, h1] at e
          have := (Prod.mk.inj e).2
          omega
      · cases hz
theorem used_nd {D : SD} (h : D.Pairwise fun x y => x.1 < y.1) : ((usedD D).map Prod.fst).Nodup := by
  induction D with
  | nil => simp [usedD]
  | cons x r ih =>
    rw [List.pairwise_cons] at h
    rw [show usedD (x :: r) = usedTo x.1 x.2 x.2.length ++ usedD r from rfl, List.map_append, List.nodup_append]
    refine ⟨usedTo_nd _ _ _, ih h.2, fun p hp q hq e => ?_⟩
    obtain ⟨u, hu, rfl⟩ := List.mem_map.1 hp
    obtain ⟨v, hv, rfl⟩ := List.mem_map.1 hq
    obtain ⟨j, _, h1, _⟩ := usedTo_lt hu
    obtain ⟨y, hy, hv⟩ := List.mem_flatMap.1 hv
    obtain ⟨k, _, h2, _⟩ := usedTo_lt hv
    rw [h1, h2] at e
    have := (Prod.mk.inj e).1
    have := h.1 y hy
    omega
theorem InvH.used {H : HS} {n : Nat} (h : InvH H n) (x : HdT) : x ∈ usedD H.1 ↔ okD H.1 x.1 = true ∧ atD H.1 x.1 = x.2 ∧ x.2.kind ≠ 0 := by
  constructor
  · intro hx
    obtain ⟨h1, h2, h3⟩ := used_at h.asc hx
    refine ⟨h1, h2, fun hk => ?_⟩
    obtain ⟨y, hy, hu⟩ := List.mem_flatMap.1 hx
    obtain ⟨j, _, _, _, hz⟩ := usedTo_lt hu
    exact hz (by rw [← h2]; exact h.zero (by rw [h2]; exact hk))
  · rintro ⟨h1, h2, h3⟩
    unfold okD sizeD at h1
    rw [Bool.and_eq_true, decide_eq_true_eq, decide_eq_true_eq] at h1
    unfold atD at h2
    cases hf : findK Prod.fst H.1 x.1.1 with
    | none => rw [hf] at h1; simp at h1; omega
    | some y =>
      rw [hf] at h1 h2
      simp only at h1 h2
      obtain ⟨hy, hk⟩ := findK_some hf
      refine List.mem_flatMap.2 ⟨y, hy, ?_⟩
      have hc : y.2[x.1.2.toNat]? = some x.2 := by
        rw [List.getD_eq_getElem?_getD] at h2
        rw [List.getElem?_eq_getElem (by omega)] at h2 ⊢
        exact congrArg some h2
      have := usedTo_in (a := y.1) (k := y.2.length) (by omega : x.1.2.toNat < y.2.length) hc (fun e => h3 (by rw [e]))
      rw [show x = ((y.1, ((x.1.2.toNat : Nat) : Int)), x.2) from Prod.ext (Prod.ext hk.symm (by simp only; omega)) rfl]
      exact this
theorem InvH.perm {H : HS} {n : Nat} (h : InvH H n) : ((usedD H.1).map Prod.fst).Perm (H.2.map Prod.fst) := by
  rw [List.perm_ext_iff_of_nodup (used_nd h.asc) h.tree.nd]
  intro s
  rw [← has_iff, h.link, List.mem_map]
  constructor
  · rintro ⟨x, hx, rfl⟩
    obtain ⟨h1, h2, h3⟩ := (h.used x).1 hx
    exact ⟨h1, by rw [h2]; exact h3⟩
  · rintro ⟨h1, h2⟩
    exact ⟨(s, atD H.1 s), (h.used _).2 ⟨h1, rfl, h2⟩, rfl⟩
theorem InvH.ulen {H : HS} {n : Nat} (h : InvH H n) : (usedD H.1).length = H.2.length := by
  have := h.perm.length_eq; simpa using this
theorem cnt_one : ∀ {D : Tr.DT}, (D.map Prod.fst).Nodup → ∀ {s : slT}, s ∈ D.map Prod.fst → D.countP (fun x => decide (x.1 = s)) = 1
  | [], _, s, hs => by cases hs
  | x :: r, h, s, hs => by
    rw [List.map_cons, List.nodup_cons] at h
    rw [List.countP_cons]
    by_cases e : x.1 = s
    · have : r.countP (fun x => decide (x.1 = s)) = 0 := List.countP_eq_zero.2 fun y hy hd => h.1 (List.mem_map.2 ⟨y, hy, by rw [of_decide_eq_true hd, e]⟩)
      rw [this, decide_eq_true e]; rfl
    · have hs2 : s ∈ r.map Prod.fst := by
        rw [List.map_cons] at hs
        rcases List.mem_cons.1 hs with h1 | h1
        · exact absurd h1.symm e
        · exact h1
      rw [cnt_one h.2 hs2, decide_eq_false e]; rfl
set_option pp.deepTerms false
set_option pp.deepTerms.threshold 4
set_option maxHeartbeats 400000
theorem played_any (a0 : Option Addr) (n cap : Nat) (acts : List AcH) (l : List Chunk) (hin : InRows l a0 n 15 (acts.map encK)) (hsz : acts.length = n) (hok : ∀ x, x ∈ acts → OkA x) (hn : n ≤ 200) :
    Fn Tryz.prog 12 [.slice a0 n cap] l fun v l' => ∃ b H lq X, v = .pointer (some ⟨b, 0, none⟩) ∧ InvH H (3 + n) ∧ IsH b H lq ∧ l' = lq ++ (X ++ l) := by
  refine fn_of_body Tryz.func12 rfl rfl fun E => ?_
  simp only [argF, Tryz.ntmps12]
  refine gzU ?_
  refine t_e (e_call0 rfl rfl (start_any _)) rfl rfl rfl ?_
  rintro _ _ ⟨b, bw, lq, lr, rfl, hq, hr, rfl⟩
  refine gzU ?_
  refine k_loop (α := Nat × HS × List Chunk × List Chunk) (fun x => [(0, .slice a0 n cap), (3, .pointer (some ⟨b, 0, none⟩)), (4, .pointer (some ⟨bw, 0, none⟩)), (5, .int .i64 x.1)]) (fun x => x.2.2.1 ++ (x.2.2.2 ++ l)) (fun x => x.1 ≤ n ∧ InvH x.2.1 (3 + x.1) ∧ IsH b x.2.1 x.2.2.1 ∧ IsRH bw x.2.1 x.2.2.2) (fun x => n - x.1) (0, H0, lq, lr) ⟨Nat.zero_le _, inv_0, hq, hr⟩ ⟨rfl, rfl, rfl, rfl, trivial⟩ .refl ?_
  clear hq hr
  rintro ⟨i, H, lq, lr⟩ ⟨hi, hI, hq, hr⟩
  simp only at hi hI hq hr ⊢
  by_cases hlt : i < n
  case neg =>
    obtain rfl : i = n := by omega
    refine gzU ?_
    exact k_ret [] rfl .refl (by exact zRes) ⟨b, H, lq, lr, rfl, hI, hq, rfl⟩
  obtain ⟨bB, off, xs, ty, fz, rfl, hm, hxs⟩ := hin (by omega)
  obtain ⟨x, hx⟩ : ∃ x, acts[i]? = some x := ⟨_, List.getElem?_eq_getElem (by omega)⟩
  obtain ⟨hx1, hx2, _⟩ := hxs i (encK x) (by rw [List.getElem?_map, hx]; rfl)
  have hox := hok x (List.mem_of_getElem? hx)
  have hmm : (bB, Obj.cells xs ty fz) ∈ lq ++ (lr ++ l) := List.mem_append_right _ (List.mem_append_right _ hm)
  have hI2 := hI.act x hox
  refine gzU ?_
  refine t_q (q_loadA rfl hmm hx1 hx2) rfl rfl rfl ?_
  refine gzU ?_
  refine t_e (e_call rfl rfl (done_any b bw H (3 + i) hI (by omega) lq lr hq hr x hox l)) rfl rfl rfl ?_
  rintro _ _ ⟨rfl, lq, lr, hq, hr, rfl⟩
  refine gzU ?_
  exact k_next (i + 1, actH H x, lq, lr) ⟨by simp only; omega, hI2, hq, hr⟩ (by simp only; omega) ⟨rfl, rfl, rfl, rfl, trivial⟩ .refl
end Go.Proofs.YtpplknmmjlgadaaGreat

/- HoldTree: the walk. -/
-- GU
set_option linter.unusedVariables false
set_option linter.unusedSimpArgs false
namespace Go.Proofs.YtpplknmmjlgadaaGreat
open Go.RowKit
set_option maxRecDepth 20000

theorem ext_cell {xs : Array Value} {o k j : Nat} {ys : List Value} {v : Value} (h : xs.extract o (o + k) = List.toArray ys) (hj : j < k) (hv : ys[j]? = some v) : xs[o + j]? = some v := by
  have e : (List.toArray ys)[j]? = ys[j]? := by simp
  rw [← hv, ← e, ← h, Array.getElem?_extract]
  split
  · rfl
  · have : (List.toArray ys)[j]? = some v := by rw [e, hv]
    rw [← h, Array.getElem?_extract] at this
    rename_i hc
    rw [if_neg hc] at this
    cases this
set_option pp.deepTerms false
set_option pp.deepTerms.threshold 4
set_option maxHeartbeats 400000
theorem holdTree_any (a0 : Option Addr) (n cap : Nat) (acts : List AcH) (l : List Chunk) (hin : InRows l a0 n 15 (acts.map encK)) (hsz : acts.length = n) (hok : ∀ x, x ∈ acts → OkA x) :
    Fn Tryz.prog 4 [.slice a0 n cap] l fun v l' => v = .bool true ∧ ∃ c, l' = c ++ l := by
  refine fn_of_body Tryz.func4 rfl rfl fun E => ?_
  simp only [argF, Tryz.ntmps4]
  refine gzU ?_
  by_cases h100 : 100 < n
  · refine gzU ?_
    refine t_e (e_call0 rfl rfl (awake_any _)) rfl rfl rfl ?_
    rintro _ _ ⟨rfl, cx, rfl⟩
    refine gzU ?_
    exact k_ret [] rfl (l' := cx ++ l) .refl (by exact zRes) ⟨rfl, _, rfl⟩
  refine gzU ?_
  refine t_e (e_call0 rfl rfl (played_any a0 n cap acts _ hin hsz hok (by omega))) rfl rfl rfl ?_
  rintro _ _ ⟨b, H, lq, X, rfl, hI, hq, rfl⟩
  obtain ⟨z1, z2, z3⟩ := hI.small (by omega)
  have hul := hI.ulen
  refine gzU ?_
  refine t_e (e_call0 rfl rfl (hused_any b H lq hq z1 _ fun c hc => List.mem_append_left _ hc)) rfl rfl rfl ?_
  rintro v1 _ ⟨c1, ho1, rfl⟩
  refine gzU ?_
  refine t_e (e_call0 rfl rfl (htree_any b H lq hq z2 _ fun c hc => List.mem_append_right _ (List.mem_append_left _ hc))) rfl rfl rfl ?_
  rintro v2 _ ⟨c2, ho2, rfl⟩
  have hU0 := hI.used
  have hp := hI.perm
  have hat := hI.at
  obtain ⟨U, hU⟩ : ∃ U, usedD H.1 = U := ⟨_, rfl⟩
  obtain ⟨T, hT⟩ : ∃ T, H.2 = T := ⟨_, rfl⟩
  have hnd := hI.tree.nd
  rw [hU, hT] at hul hp
  rw [hU] at ho1 hU0
  rw [hT] at ho2 hnd z2
  obtain ⟨L, hL⟩ : ∃ L, L = c2 ++ (c1 ++ (lq ++ (X ++ l))) := ⟨_, rfl⟩
  have r1 := ho1.hds' (l := L) fun c hc => by rw [hL]; exact List.mem_append_right _ (List.mem_append_left _ hc)
  have r2 := ho2.nodes (l := L) fun c hc => by rw [hL]; exact List.mem_append_left _ hc
  obtain ⟨p1, cp1, rfl, r1⟩ := r1
  obtain ⟨p2, cp2, rfl, r2⟩ := r2
  refine s_keep (l' := L) (by rw [hL]; exact .refl) ?_
  refine gzU ?_
  refine k_loop (α := Nat) (fun i => [(4, .slice p1 U.length cp1), (5, .slice p2 T.length cp2), (6, .int .i64 i)]) (fun _ => L) (fun i => i ≤ U.length) (fun i => U.length - i) 0 (Nat.zero_le _) ⟨rfl, rfl, rfl, trivial⟩ .refl ?_
  intro i hi
  by_cases hlt : i < U.length
  case neg =>
    obtain rfl : i = U.length := by omega
    refine gzU ?_
    refine t_eh (e_call0 rfl rfl (awake_any _)) rfl rfl rfl ?_
    rintro _ _ ⟨rfl, cx, rfl⟩
    refine gzU ?_
    exact k_ret [] rfl (l' := (cx ++ (c2 ++ (c1 ++ (lq ++ X)))) ++ l) (by rw [hL]; exact keep_ac []) (by exact zRes) ⟨rfl, _, rfl⟩
  obtain ⟨x, hx⟩ : ∃ x, U[i]? = some x := ⟨_, List.getElem?_eq_getElem hlt⟩
  obtain ⟨gb, off, xs, ty, fz, rfl, hm, hc⟩ := r1 (by omega)
  obtain ⟨g1, g2⟩ := hc i x hx
  have e2 := ext_part (j := 0) (n := 2) g2 g1 (by omega)
  have e8 := ext_part (j := 2) (n := 8) g2 g1 (by omega)
  have ek : xs[off + i * 10 + 2]? = some (.int .i64 x.2.kind) := ext_cell g2 (by omega) rfl
  have hxU := List.mem_of_getElem? hx
  obtain ⟨u1, u2, u3⟩ := (hU0 x).1 hxU
  have hmay : mayC x.2 = true := by rw [← u2]; exact (hat _).1
  have hcnt : T.countP (fun y => decide (y.1 = x.1)) = 1 := cnt_one hnd (hp.mem_iff.1 (List.mem_map.2 ⟨x, hxU, rfl⟩))
  refine gzU ?_
  refine k_loop (α := Nat) (fun k => [(4, .slice (some ⟨gb, off, none⟩) U.length cp1), (5, .slice p2 T.length cp2), (6, .int .i64 i), (7, .int .i64 ((T.take k).countP (fun y => decide (y.1 = x.1)) : Nat)), (8, .int .i64 k)]) (fun _ => L) (fun k => k ≤ T.length) (fun k => T.length - k) 0 (Nat.zero_le _) ⟨rfl, rfl, rfl, rfl, rfl, trivial⟩ .refl ?_
  intro k hk
  by_cases hlk : k < T.length
  · obtain ⟨y, hy⟩ : ∃ y, T[k]? = some y := ⟨_, List.getElem?_eq_getElem hlk⟩
    obtain ⟨gb2, off2, xs2, ty2, fz2, rfl, hm2, hc2⟩ := r2 (by omega)
    obtain ⟨k1, k2⟩ := hc2 k y hy
    have f2 := ext_part (j := 0) (n := 2) k2 k1 (by omega)
    have hcl : (T.take k).countP (fun y => decide (y.1 = x.1)) ≤ k := Nat.le_trans (List.countP_le_length ..) (by rw [List.length_take]; omega)
    have hsn : (T.take (k + 1)).countP (fun y => decide (y.1 = x.1)) = (T.take k).countP (fun y => decide (y.1 = x.1)) + if y.1 = x.1 then 1 else 0 := by
      rw [List.take_add_one, hy, Option.toList_some, List.countP_append, List.countP_cons, List.countP_nil, Nat.zero_add]
      by_cases e : y.1 = x.1
      · rw [if_pos e, decide_eq_true e]; rfl
      · rw [if_neg e, decide_eq_false e]; rfl
    obtain ⟨c, hc0⟩ : ∃ c, (T.take k).countP (fun y => decide (y.1 = x.1)) = c := ⟨_, rfl⟩
    rw [hc0] at hcl hsn ⊢
    refine gzU ?_
    refine c_draw [(0, true), (1, true), (2, true), (3, true), (4, true), (5, true), (6, true), (7, true), (8, true), (9, true), (10, true)] [[], [], [0, 1], [0, 1, 2], [0, 1, 2, 3], [], [], [5, 6], [5, 6, 7], [5, 6, 7, 8], [0, 1, 2, 3, 4, 5, 6, 7, 8, 9]] _ (by kernel_rfl) (by kernel_rfl) zAtt (fun _ h => h) ?_
    refine pzU ?_
    refine pl_h (q_loadA (n := 2) rfl hm2 (by omega) f2) rfl rfl rfl ?_
    refine pzU ?_
    refine pl_h (q_loadA (n := 2) rfl hm (by omega) e2) rfl rfl rfl ?_
    refine pzU ?_
    refine pl_h (q_eqagg (xs := encT y.1) (ys := encT x.1) rfl rfl (encT_k y.1) (encT_k x.1)) rfl rfl rfl ?_
    by_cases e : y.1 = x.1
    · rw [e, eqCells_self (encT_k x.1)]
      rw [if_pos e] at hsn
      refine pzU ?_
      refine gzU ?_
      exact k_next (k + 1) (by omega) (by omega) ⟨rfl, rfl, rfl, by rw [hsn]; rfl, rfl, trivial⟩ .refl
    · rw [eqT_f e]
      rw [if_neg e] at hsn
      refine pzU ?_
      refine gzU ?_
      exact k_next (k + 1) (by omega) (by omega) ⟨rfl, rfl, rfl, by rw [hsn]; rfl, rfl, trivial⟩ .refl
  obtain rfl : k = T.length := by omega
  rw [List.take_length, hcnt]
  refine gzU ?_
  refine t_h (q_loadA (n := 8) rfl hm (by omega) e8) rfl rfl rfl ?_
  refine gzU ?_
  refine t_h (q_call rfl rfl fun l2 _ => mayC_any x.2 l2) rfl rfl rfl ?_
  rw [hmay]
  refine gzU ?_
  exact k_next (i + 1) (by omega) (by omega) ⟨rfl, rfl, rfl, trivial⟩ .refl
theorem holdTree_walk' (a0 : Option Addr) (len0 cap0 : Nat) (rows0 : List (List Value)) (W : World) (h : IsRows acK W a0 len0 cap0 rows0) :
    Calls Tryz.prog 4 #[.slice a0 len0 cap0] W fun e W' => e = .returned (.bool true) ∧ Below W.heap.size W W' := by
  obtain ⟨acts, h1, h2, h3⟩ := hacts_rows h
  exact law_walk (holdTree_any a0 len0 cap0 acts (allOf W) h2 h1 h3)
end Go.Proofs.YtpplknmmjlgadaaGreat

/- HoldFinal: the plain law and the walk. -/
-- GU
set_option linter.unusedVariables false
set_option linter.unusedSimpArgs false
namespace Go.Proofs.YtpplknmmjlgadaaGreat
open Go.RowKit
set_option maxRecDepth 20000

theorem at_split' {α : Type} {D : List α} {j : Nat} {x : α} (h : D[j]? = some x) : D = D.take j ++ x :: D.drop (j + 1) := by
  have hl := (List.getElem?_eq_some_iff.1 h).1
  have h1 := List.take_append_drop j D
  rw [List.drop_eq_getElem_cons hl] at h1
  rw [List.getElem?_eq_getElem hl] at h
  rw [Option.some.inj h] at h1
  exact h1.symm
theorem alike_sym (a b : CapT) : alikeB a b = alikeB b a := alike_comm a b
theorem final_cnt {H : HS} {n : Nat} (hI : InvH H n) {x : HdT} {i : Nat} (hx : (usedD H.1)[i]? = some x) : finalH H x.1 = decide ((((usedD H.1).countP fun y => alikeB x.2 y.2 : Nat) : Int) = 1) := by
  obtain ⟨u1, u2, u3⟩ := (hI.used x).1 (List.mem_of_getElem? hx)
  have hs := at_split' hx
  have hnd := used_nd hI.asc
  have hmay := (hI.at x.1).1
  rw [u2] at hmay
  obtain ⟨A, hA⟩ : ∃ A, (usedD H.1).take i = A := ⟨_, rfl⟩
  obtain ⟨B, hB⟩ : ∃ B, (usedD H.1).drop (i + 1) = B := ⟨_, rfl⟩
  rw [hA, hB] at hs
  unfold finalH
  rw [u1, u2, decide_eq_false u3]
  rw [hs] at hnd ⊢
  rw [List.map_append, List.map_cons] at hnd
  have h1 := (List.nodup_cons.1 (List.perm_middle.nodup_iff.1 hnd)).1
  have hne : ∀ y, y ∈ A ∨ y ∈ B → ¬ y.1 = x.1 := fun y hy e => h1 (by
    rw [← e]
    rcases hy with hy | hy
    · exact List.mem_append_left _ (List.mem_map.2 ⟨y, hy, rfl⟩)
    · exact List.mem_append_right _ (List.mem_map.2 ⟨y, hy, rfl⟩))
  have hself : alikeB x.2 x.2 = true := by rw [alike_self, hmay, decide_eq_false u3]; rfl
  rw [List.countP_append, List.countP_cons, hself, if_pos rfl, List.all_append, List.all_cons, decide_eq_true (rfl : x.1 = x.1)]
  rw [Bool.eq_iff_iff, decide_eq_true_iff]
  simp only [Bool.not_false, Bool.true_and, Bool.true_or, Bool.and_eq_true, List.all_eq_true]
  constructor
  · rintro ⟨ha, hb⟩
    have ca : A.countP (fun y => alikeB x.2 y.2) = 0 := List.countP_eq_zero.2 fun y hy => by
      have := ha y hy
      rw [decide_eq_false (hne y (.inl hy)), Bool.false_or, alike_sym] at this
      simpa using this
    have cb : B.countP (fun y => alikeB x.2 y.2) = 0 := List.countP_eq_zero.2 fun y hy => by
      have := hb y hy
      rw [decide_eq_false (hne y (.inr hy)), Bool.false_or, alike_sym] at this
      simpa using this
    omega
  · intro h
    have ca : A.countP (fun y => alikeB x.2 y.2) = 0 := by omega
    have cb : B.countP (fun y => alikeB x.2 y.2) = 0 := by omega
    refine ⟨fun y hy => ?_, fun y hy => ?_⟩
    · have := List.countP_eq_zero.1 ca y hy
      rw [decide_eq_false (hne y (.inl hy)), Bool.false_or, alike_sym]; simpa using this
    · have := List.countP_eq_zero.1 cb y hy
      rw [decide_eq_false (hne y (.inr hy)), Bool.false_or, alike_sym]; simpa using this
theorem rem_len {D : Tr.DT} {s : slT} (h : Tr.hasD D s = true) : (Tr.removeD D s).2.length + 1 = D.length := by
  unfold Tr.hasD at h
  cases h2 : Tr.splitD s D with
  | none => rw [h2] at h; cases h
  | some z =>
    obtain ⟨A, d, B⟩ := z
    have e : Tr.removeD D s = (0, A ++ Tr.decW d B) := by unfold Tr.removeD; rw [h2]
    rw [e, (Tr.splitD_some h2).1]
    simp only [List.length_append, List.length_cons, Tr.decW_len]
    omega
/-- those that are left, ahead of the i-th clearing -/
structure LeftH (U : List HdT) (i : Nat) (H : HS) : Prop where
  len : H.2.length + i = U.length
  has : ∀ j y, i ≤ j → U[j]? = some y → okD H.1 y.1 = true ∧ atD H.1 y.1 = y.2
theorem LeftH.step {U : List HdT} {i n : Nat} {H : HS} (h : LeftH U i H) (hI : InvH H n) (hnd : (U.map Prod.fst).Nodup) (hk : ∀ y, y ∈ U → y.2.kind ≠ 0) {x : HdT} (hx : U[i]? = some x) : (clearH H x.1).1 = (x.2, 0) ∧ LeftH U (i + 1) (clearH H x.1).2 := by
  obtain ⟨h1, h2⟩ := h.has i x (Nat.le_refl _) hx
  have h3 := hk x (List.mem_of_getElem? hx)
  have e : clearH H x.1 = ((atD H.1 x.1, 0), (putD H.1 x.1 capZ, (Tr.removeD H.2 x.1).2)) := by
    unfold clearH
    rw [if_neg (by rw [h1]; decide), if_neg (by rw [h2]; exact h3)]
  have hh : Tr.hasD H.2 x.1 = true := (hI.link _).2 ⟨h1, by rw [h2]; exact h3⟩
  rw [e, h2]
  refine ⟨rfl, ⟨?_, fun j y hj hy => ?_⟩⟩
  · have := rem_len hh
    have := h.len
    simp only
    omega
  · obtain ⟨k1, k2⟩ := h.has j y (by omega) hy
    have hne : y.1 ≠ x.1 := fun e => by
      have hx' : (U.map Prod.fst)[i]? = some x.1 := by rw [List.getElem?_map, hx]; rfl
      have hy' : (U.map Prod.fst)[j]? = some x.1 := by rw [List.getElem?_map, hy]; show some y.1 = _; rw [e]
      obtain ⟨i1, i2⟩ := List.getElem?_eq_some_iff.1 hx'
      obtain ⟨j1, j2⟩ := List.getElem?_eq_some_iff.1 hy'
      exact (List.pairwise_iff_getElem.1 (List.nodup_iff_pairwise_ne.1 hnd) i j i1 j1 (by omega)) (i2.trans j2.symm)
    simp only
    rw [ok_put]
    exact ⟨k1, by rw [at_putI h1 k1, if_neg hne]; exact k2⟩
set_option pp.deepTerms false
set_option pp.deepTerms.threshold 4
set_option maxHeartbeats 400000
theorem holdFinal_any (a0 : Option Addr) (n cap : Nat) (acts : List AcH) (l : List Chunk) (hin : InRows l a0 n 15 (acts.map encK)) (hsz : acts.length = n) (hok : ∀ x, x ∈ acts → OkA x) :
    Fn Tryz.prog 6 [.slice a0 n cap] l fun v l' => v = .bool true ∧ ∃ c, l' = c ++ l := by
  refine fn_of_body Tryz.func6 rfl rfl fun E => ?_
  simp only [argF, Tryz.ntmps6]
  refine gzU ?_
  by_cases h60 : 60 < n
  · refine gzU ?_
    refine t_e (e_call0 rfl rfl (awake_any _)) rfl rfl rfl ?_
    rintro _ _ ⟨rfl, cx, rfl⟩
    refine gzU ?_
    exact k_ret [] rfl (l' := cx ++ l) .refl (by exact zRes) ⟨rfl, _, rfl⟩
  refine gzU ?_
  refine t_e (e_call0 rfl rfl (played_any a0 n cap acts _ hin hsz hok (by omega))) rfl rfl rfl ?_
  rintro _ _ ⟨b, H, lq, X, rfl, hI, hq, rfl⟩
  obtain ⟨z1, z2, z3⟩ := hI.small (by omega)
  have hul := hI.ulen
  have hul2 := hq.ulen hI (by omega)
  refine gzU ?_
  refine t_e (e_call0 rfl rfl (hused_any b H lq hq z1 _ fun c hc => List.mem_append_left _ hc)) rfl rfl rfl ?_
  rintro v1 _ ⟨c1, ho1, rfl⟩
  have hU0 := hI.used
  have hnd := used_nd hI.asc
  have hcnt := @final_cnt H (3 + n) hI
  obtain ⟨U, hU⟩ : ∃ U, usedD H.1 = U := ⟨_, rfl⟩
  rw [hU] at ho1 hU0 hul hul2 hnd
  have hfin : ∀ {x : HdT} {i : Nat}, U[i]? = some x → finalH H x.1 = decide (((U.countP fun y => alikeB x.2 y.2 : Nat) : Int) = 1) := fun {x i} h => by rw [← hU] at h ⊢; exact hcnt h
  clear hcnt
  obtain ⟨F, hF⟩ : ∃ F, F = c1 ++ (X ++ l) := ⟨_, rfl⟩
  obtain ⟨p1, cp1, rfl, r1⟩ := ho1.hds' (l := F) fun c hc => by rw [hF]; exact List.mem_append_left _ hc
  refine s_keep (l' := lq ++ F) (by rw [hF]; exact keep_ac []) ?_
  refine gzU ?_
  refine k_loop (α := Nat) (fun i => [(3, .pointer (some ⟨b, 0, none⟩)), (4, .slice p1 U.length cp1), (5, .int .i64 i)]) (fun _ => lq ++ F) (fun i => i ≤ U.length) (fun i => U.length - i) 0 (Nat.zero_le _) ⟨rfl, rfl, rfl, trivial⟩ .refl ?_
  intro i hi
  by_cases hlt : i < U.length
  · obtain ⟨x, hx⟩ : ∃ x, U[i]? = some x := ⟨_, List.getElem?_eq_getElem hlt⟩
    obtain ⟨gb, off, xs, ty, fz, rfl, hm, hc⟩ := r1 (by omega)
    have hmL : (gb, Obj.cells xs ty fz) ∈ lq ++ F := List.mem_append_right _ hm
    obtain ⟨g1, g2⟩ := hc i x hx
    have e2 := ext_part (j := 0) (n := 2) g2 g1 (by omega)
    have e8 := ext_part (j := 2) (n := 8) g2 g1 (by omega)
    have hf := hfin hx
    refine gzU ?_
    refine k_loop (α := Nat) (fun k => [(3, .pointer (some ⟨b, 0, none⟩)), (4, .slice (some ⟨gb, off, none⟩) U.length cp1), (5, .int .i64 i), (6, .int .i64 ((U.take k).countP (fun y => alikeB x.2 y.2) : Nat)), (7, .int .i64 k)]) (fun _ => lq ++ F) (fun k => k ≤ U.length) (fun k => U.length - k) 0 (Nat.zero_le _) ⟨rfl, rfl, rfl, rfl, rfl, trivial⟩ .refl ?_
    intro k hk
    by_cases hlk : k < U.length
    · obtain ⟨y, hy⟩ : ∃ y, U[k]? = some y := ⟨_, List.getElem?_eq_getElem hlk⟩
      obtain ⟨k1, k2⟩ := hc k y hy
      have f8 := ext_part (j := 2) (n := 8) k2 k1 (by omega)
      have hcl : (U.take k).countP (fun y => alikeB x.2 y.2) ≤ k := Nat.le_trans (List.countP_le_length ..) (by rw [List.length_take]; omega)
      have hsn : (U.take (k + 1)).countP (fun y => alikeB x.2 y.2) = (U.take k).countP (fun y => alikeB x.2 y.2) + if alikeB x.2 y.2 = true then 1 else 0 := by
        rw [List.take_add_one, hy, Option.toList_some, List.countP_append, List.countP_cons, List.countP_nil, Nat.zero_add]
      obtain ⟨c, hc0⟩ : ∃ c, (U.take k).countP (fun y => alikeB x.2 y.2) = c := ⟨_, rfl⟩
      rw [hc0] at hcl hsn ⊢
      refine gzU ?_
      refine c_draw [(0, true), (1, true), (2, true), (3, true), (4, true), (5, true), (6, true), (7, true), (8, true), (9, true), (10, true)] [[], [], [0, 1], [0, 1, 2], [0, 1, 2, 3], [], [], [5, 6], [5, 6, 7], [5, 6, 7, 8], [0, 1, 2, 3, 4, 5, 6, 7, 8, 9]] _ (by kernel_rfl) (by kernel_rfl) zAtt (fun _ h => h) ?_
      refine pzU ?_
      refine pl_h (q_loadA (n := 8) rfl hmL (by omega) e8) rfl rfl rfl ?_
      refine pzU ?_
      refine pl_h (q_loadA (n := 8) rfl hmL (by omega) f8) rfl rfl rfl ?_
      refine pzU ?_
      refine pl_h (q_call rfl rfl fun l2 _ => alike_any x.2 y.2 l2) rfl rfl rfl ?_
      cases ha : alikeB x.2 y.2 with
      | true =>
        rw [ha, if_pos rfl] at hsn
        refine pzU ?_
        refine gzU ?_
        exact k_next (k + 1) (by omega) (by omega) ⟨rfl, rfl, rfl, by rw [hsn]; rfl, rfl, trivial⟩ .refl
      | false =>
        rw [ha, if_neg (by decide)] at hsn
        refine pzU ?_
        refine gzU ?_
        exact k_next (k + 1) (by omega) (by omega) ⟨rfl, rfl, rfl, by rw [hsn]; rfl, rfl, trivial⟩ .refl
    obtain rfl : k = U.length := by omega
    rw [List.take_length]
    refine gzU ?_
    refine t_q (q_loadA (n := 2) rfl hmL (by omega) e2) rfl rfl rfl ?_
    refine t_q (q_call rfl rfl fun l2 hl => hfinal_any b H (3 + n) hI (by omega) lq hq x.1 (by rw [hU]; omega) l2 fun c hc => hl _ (List.mem_append_left _ hc)) rfl rfl rfl ?_
    refine gzU ?_
    rw [hf, beq_self_eq_true, Bool.not_true]
    refine gzU ?_
    exact k_next (i + 1) (by omega) (by omega) ⟨rfl, rfl, rfl, trivial⟩ .refl
  obtain rfl : i = U.length := by omega
  refine gzU ?_
  have hkn : ∀ y, y ∈ U → y.2.kind ≠ 0 := fun y hy => ((hU0 y).1 hy).2.2
  have hL0 : LeftH U 0 H := ⟨by omega, fun j y _ hy => by
    obtain ⟨h1, h2, _⟩ := (hU0 y).1 (List.mem_of_getElem? hy)
    exact ⟨h1, h2⟩⟩
  refine k_loop (α := Nat × HS × List Chunk × List Chunk) (fun x => [(3, .pointer (some ⟨b, 0, none⟩)), (4, .slice p1 U.length cp1), (8, .int .i64 x.1)]) (fun x => x.2.2.1 ++ (x.2.2.2 ++ F)) (fun x => x.1 ≤ U.length ∧ InvH x.2.1 (3 + n) ∧ IsH b x.2.1 x.2.2.1 ∧ LeftH U x.1 x.2.1) (fun x => U.length - x.1) (0, H, lq, []) ⟨Nat.zero_le _, hI, hq, hL0⟩ ⟨rfl, rfl, rfl, trivial⟩ .refl ?_
  clear hlt hi hq hI hfin hul hL0 z1 z2 z3 hU0 hU
  rintro ⟨i, H, lq, Y⟩ ⟨hi, hI, hq, hLe⟩
  simp only at hi hI hq hLe ⊢
  by_cases hlt : i < U.length
  case neg =>
    refine gzU ?_
    refine t_e (e_call0 rfl rfl (awake_any _)) rfl rfl rfl ?_
    rintro _ _ ⟨rfl, cx, rfl⟩
    refine gzU ?_
    exact k_ret [] rfl (l' := (cx ++ (lq ++ (Y ++ (c1 ++ X)))) ++ l) (by rw [hF]; exact keep_ac []) (by exact zRes) ⟨rfl, _, rfl⟩
  obtain ⟨x, hx⟩ : ∃ x, U[i]? = some x := ⟨_, List.getElem?_eq_getElem hlt⟩
  obtain ⟨gb, off, xs, ty, fz, rfl, hm, hc⟩ := r1 (by omega)
  have hmL : ∀ lq : List Chunk, (gb, Obj.cells xs ty fz) ∈ lq ++ (Y ++ F) := fun lq => List.mem_append_right _ (List.mem_append_right _ hm)
  obtain ⟨g1, g2⟩ := hc i x hx
  have e2 := ext_part (j := 0) (n := 2) g2 g1 (by omega)
  have e8 := ext_part (j := 2) (n := 8) g2 g1 (by omega)
  obtain ⟨hc1, hLs⟩ := hLe.step hI hnd hkn hx
  have hI2 := hI.clear x.1
  have HC := hclear_any b H (3 + n) hI (by omega) lq hq x.1 (Y ++ F)
  rw [hc1] at HC
  obtain ⟨H2, hH2⟩ : ∃ H2, (clearH H x.1).2 = H2 := ⟨_, rfl⟩
  rw [hH2] at HC hLs hI2
  refine gzU ?_
  refine t_q (q_loadA (n := 2) rfl (hmL _) (by omega) e2) rfl rfl rfl ?_
  refine t_e (e_call (vs := [.pointer (some ⟨b, 0, none⟩), .agg (List.toArray (encT x.1))]) rfl rfl HC) rfl rfl rfl ?_
  rintro _ _ ⟨rfl, lq2, hq2, rfl⟩
  obtain ⟨y1, y2, _⟩ := hI2.small (by omega)
  have hul := hI2.ulen
  have hle := hLs.len
  refine gzU ?_
  refine t_e e_alloc rfl rfl rfl ?_; rintro _ _ ⟨b9, _, rfl, rfl⟩
  refine gzU ?_
  refine c_draw [(0, true), (1, true), (2, true), (3, true), (4, true), (5, true), (6, true), (7, true), (8, true), (9, true), (10, true), (11, true), (12, true), (15, true), (16, true), (17, true), (18, true), (19, true), (13, false), (14, true), (20, true), (21, true), (22, true), (23, true), (26, true), (27, true), (28, true), (29, true), (30, true), (24, false), (25, true), (31, true), (32, true)] [[], [], [], [1, 2], [1, 2, 3], [1, 2, 3, 4], [0, 1, 2, 3, 4, 5], [0, 1, 2, 3, 4, 5, 6], [0, 1, 2, 3, 4, 5, 6, 7], [0, 1, 2, 3, 4, 5, 6, 7, 8], [0, 1, 2, 3, 4, 5, 6, 7, 8, 9], [0, 1, 2, 3, 4, 5, 6, 7, 8, 9, 10], [0, 1, 2, 3, 4, 5, 6, 7, 8, 9, 10, 11], [0, 1, 2, 3, 4, 5, 6, 7, 8, 9, 10, 11, 12], [0, 1, 2, 3, 4, 5, 6, 7, 8, 9, 10, 11, 12, 13], [0, 1, 2, 3, 4, 5, 6, 7, 8, 9, 10, 11], [0, 1, 2, 3, 4, 5, 6, 7, 8, 9, 10, 11, 15], [0, 1, 2, 3, 4, 5, 6, 7, 8, 9, 10, 11], [0, 1, 2, 3, 4, 5, 6, 7, 8, 9, 10, 11, 15, 16, 17], [0, 1, 2, 3, 4, 5, 6, 7, 8, 9, 10, 11, 15, 16, 17, 18], [0, 1, 2, 3, 4, 5, 6, 7, 8, 9, 10, 11, 12, 13, 14, 15, 16, 17, 18, 19], [0, 1, 2, 3, 4, 5, 6, 7, 8, 9, 10, 11, 12, 13, 14, 15, 16, 17, 18, 19, 20], [0, 1, 2, 3, 4, 5, 6, 7, 8, 9, 10, 11, 12, 13, 14, 15, 16, 17, 18, 19, 20, 21], [0, 1, 2, 3, 4, 5, 6, 7, 8, 9, 10, 11, 12, 13, 14, 15, 16, 17, 18, 19, 20, 21, 22], [0, 1, 2, 3, 4, 5, 6, 7, 8, 9, 10, 11, 12, 13, 14, 15, 16, 17, 18, 19, 20, 21, 22, 23], [0, 1, 2, 3, 4, 5, 6, 7, 8, 9, 10, 11, 12, 13, 14, 15, 16, 17, 18, 19, 20, 21, 22, 23, 24], [0, 1, 2, 3, 4, 5, 6, 7, 8, 9, 10, 11, 12, 13, 14, 15, 16, 17, 18, 19, 20, 21, 22], [0, 1, 2, 3, 4, 5, 6, 7, 8, 9, 10, 11, 12, 13, 14, 15, 16, 17, 18, 19, 20, 21, 22, 26], [0, 1, 2, 3, 4, 5, 6, 7, 8, 9, 10, 11, 12, 13, 14, 15, 16, 17, 18, 19, 20, 21, 22], [0, 1, 2, 3, 4, 5, 6, 7, 8, 9, 10, 11, 12, 13, 14, 15, 16, 17, 18, 19, 20, 21, 22, 26, 27, 28], [0, 1, 2, 3, 4, 5, 6, 7, 8, 9, 10, 11, 12, 13, 14, 15, 16, 17, 18, 19, 20, 21, 22, 26, 27, 28, 29], [0, 1, 2, 3, 4, 5, 6, 7, 8, 9, 10, 11, 12, 13, 14, 15, 16, 17, 18, 19, 20, 21, 22, 23, 24, 25, 26, 27, 28, 29, 30], [0, 1, 2, 3, 4, 5, 6, 7, 8, 9, 10, 11, 12, 13, 14, 15, 16, 17, 18, 19, 20, 21, 22, 23, 24, 25, 26, 27, 28, 29, 30, 31]] _ (by kernel_rfl) (by kernel_rfl) zAtt (fun _ h => h) ?_
  refine pzU ?_
  refine pl_h (q_loadA (n := 8) rfl (.tail _ (hmL _)) (by omega) e8) rfl rfl rfl ?_
  refine pzU ?_
  refine pl_h (q_neagg (xs := encC x.2) (ys := encC x.2) rfl rfl (encC_k x.2) (encC_k x.2)) rfl rfl rfl ?_
  rw [show (!eqCells (encC x.2) (encC x.2)) = false by rw [eqCells_self (encC_k x.2)]; rfl]
  refine pzU ?_
  apply pl_geS
  · exact e_call0 rfl rfl (hused_any b H2 lq2 hq2 y1 _ fun c hc => .tail _ (List.mem_append_left _ hc))
  · rfl
  · rfl
  · rfl
  · rintro _ _ ⟨u1, _, rfl⟩
    exact fun c hc => List.mem_append_right _ hc
  · intro _ _ _ _ h
    cases h
  rintro w1 _ ⟨u1, q1, rfl⟩
  obtain ⟨pa, ca, rfl⟩ := q1.shape
  rw [hul]
  refine pzU ?_
  apply pl_geS
  · exact e_call0 rfl rfl (htree_any b H2 lq2 hq2 y2 _ fun c hc => List.mem_append_right _ (.tail _ (List.mem_append_left _ hc)))
  · rfl
  · rfl
  · rfl
  · rintro _ _ ⟨u2, _, rfl⟩
    exact fun c hc => List.mem_append_right _ (List.mem_append_right _ hc)
  · intro _ _ _ _ h
    cases h
  rintro w2 _ ⟨u2, q2, rfl⟩
  obtain ⟨pb, cb, rfl⟩ := q2.shape
  refine pzU ?_
  refine gzU ?_
  exact k_next (i + 1, H2, lq2, u2 ++ (u1 ++ Y)) ⟨by simp only; omega, hI2, hq2, hLs⟩ (by simp only; omega) ⟨rfl, rfl, rfl, trivial⟩ (keep_ac (A := u2 ++ (u1 ++ (capC b9 x.2 :: (lq2 ++ (Y ++ F))))) [capC b9 x.2])
theorem holdFinal_walk' (a0 : Option Addr) (len0 cap0 : Nat) (rows0 : List (List Value)) (W : World) (h : IsRows acK W a0 len0 cap0 rows0) :
    Calls Tryz.prog 6 #[.slice a0 len0 cap0] W fun e W' => e = .returned (.bool true) ∧ Below W.heap.size W W' := by
  obtain ⟨acts, h1, h2, h3⟩ := hacts_rows h
  exact law_walk (holdFinal_any a0 len0 cap0 acts (allOf W) h2 h1 h3)
end Go.Proofs.YtpplknmmjlgadaaGreat

/- HoldMoves: the plain law and the walk. -/
-- GU
set_option linter.unusedVariables false
set_option linter.unusedSimpArgs false
namespace Go.Proofs.YtpplknmmjlgadaaGreat
open Go.RowKit
set_option maxRecDepth 20000

theorem put_self {D : SD} (h : D.Pairwise fun x y => x.1 < y.1) {s : slT} (hok : okD D s = true) : putD D s (atD D s) = D := by
  unfold putD
  have : ∀ x, x ∈ D → (if x.1 = s.1 then (x.1, x.2.set s.2.toNat (atD D s)) else x) = x := fun x hx => by
    by_cases e : x.1 = s.1
    · rw [if_pos e]
      have hf := asc_at (key := Prod.fst) h hx
      unfold okD sizeD at hok
      rw [← e, hf, Bool.and_eq_true, decide_eq_true_eq, decide_eq_true_eq] at hok
      simp only at hok
      have hat : atD D s = x.2.getD s.2.toNat capZ := by unfold atD; rw [← e, hf]
      rw [hat, List.getD_eq_getElem?_getD, List.getElem?_eq_getElem (by omega), Option.getD_some, List.set_getElem_self]
    · rw [if_neg e]
  rw [List.map_congr_left this, List.map_id']
theorem put_put (D : SD) (s : slT) (c d : CapT) : putD (putD D s c) s d = putD D s d := by
  unfold putD
  rw [List.map_map]
  apply List.map_congr_left
  intro x _
  simp only [Function.comp_apply]
  by_cases e : x.1 = s.1
  · rw [if_pos e]
    simp only
    rw [if_pos e, List.set_set, if_pos e]
  · simp only [if_neg e]
theorem move_ok {H : HS} {a c : slT} (h : (moveH H a c).1 = 0) : fromE H a c = 0 ∧ (moveH H a c).2 = (putD (putD H.1 a capZ) c (atD H.1 a), (Tr.moveD H.2 a c).2) := by
  unfold moveH at h ⊢
  by_cases e : fromE H a c = 0
  · rw [if_neg (by simpa using e)]; exact ⟨e, rfl⟩
  · rw [if_pos e] at h; exact absurd h e
theorem move_no {H : HS} {a c : slT} (h : (moveH H a c).1 ≠ 0) : (moveH H a c).2 = H := by
  unfold moveH at h ⊢
  by_cases e : fromE H a c = 0
  · rw [if_neg (by simpa using e)] at h; exact absurd rfl h
  · rw [if_pos e]
theorem below_move {D : Tr.DT} {a c : slT} (hc : Tr.hasD D c = false) (ha : Tr.hasD D a = true) : Tr.belowD (Tr.moveD D a c).2 c = Tr.belowD D a := by
  unfold Tr.hasD at ha
  cases h2 : Tr.splitD a D with
  | none => rw [h2] at ha; cases ha
  | some z =>
    obtain ⟨A, d, B⟩ := z
    have e : Tr.moveD D a c = (0, A ++ (c, d) :: B) := by unfold Tr.moveD; rw [h2]; simp only; rw [if_neg (by rw [hc]; decide)]
    have hD := (Tr.splitD_some h2).1
    have hA : ∀ x, x ∈ A → x.1 ≠ c := fun x hx => Tr.hasD_no.1 hc x (by rw [hD]; exact List.mem_append_left _ hx)
    rw [e]
    unfold Tr.belowD
    rw [h2, Tr.splitD_of hA]
structure MovedH (H : HS) (a c : slT) (H1 : HS) : Prop where
  at_c : getD' H1.1 c = (atD H.1 a, 0)
  at_a : getD' H1.1 a = (capZ, 0)
  below : Tr.belowD H1.2 c = Tr.belowD H.2 a
  back : moveH H1 c a = (0, H)
  get : getD' H.1 a = (atD H.1 a, 0)
theorem moved {H : HS} {n : Nat} (hI : InvH H n) {a c : slT} (h : (moveH H a c).1 = 0) : MovedH H a c (moveH H a c).2 := by
  obtain ⟨h0, h1⟩ := move_ok h
  obtain ⟨oka, okc, ka, kc⟩ := from_0 h0
  have hne : a ≠ c := fun e => ka (e ▸ kc)
  have hz := hI.zero kc
  have hnc := hI.no kc
  have hha : Tr.hasD H.2 a = true := (hI.link a).2 ⟨oka, ka⟩
  rw [h1]
  obtain ⟨D1, hD1⟩ : ∃ D1, putD (putD H.1 a capZ) c (atD H.1 a) = D1 := ⟨_, rfl⟩
  have ok1 : ∀ s, okD D1 s = okD H.1 s := fun s => by rw [← hD1, ok_put, ok_put]
  have at1 : ∀ s, okD H.1 s = true → atD D1 s = if s = c then atD H.1 a else if s = a then capZ else atD H.1 s := fun s hs => by
    rw [← hD1, at_putI (by rw [ok_put]; exact okc) (by rw [ok_put]; exact hs), at_putI oka hs]
  have ac : atD D1 c = atD H.1 a := by rw [at1 c okc, if_pos rfl]
  have aa : atD D1 a = capZ := by rw [at1 a oka, if_neg hne, if_pos rfl]
  have hf : fromE (D1, (Tr.moveD H.2 a c).2) c a = 0 := by
    unfold fromE
    simp only
    rw [ok1, ok1, oka, okc, ac, aa, if_neg (by decide), if_neg ka, if_neg (by decide)]
  rw [hD1]
  refine ⟨by rw [get_t (by rw [ok1]; exact okc), ac], by rw [get_t (by rw [ok1]; exact oka), aa], below_move hnc hha, ?_, get_t oka⟩
  unfold moveH
  rw [if_neg (by rw [hf]; decide)]
  simp only
  have hb := Tr.move_back hI.tree (a := a) (c := c) (has_move (t := c) hI.tree hha hnc).1
  rw [hb, ac, ← hD1, put_put, put_comm _ (Ne.symm hne) (ok_nn okc) (ok_nn oka), put_put, put_self hI.asc oka]
  have : putD H.1 c capZ = H.1 := by rw [← hz]; exact put_self hI.asc okc
  rw [this]
set_option pp.deepTerms false
set_option pp.deepTerms.threshold 4
set_option maxHeartbeats 400000
theorem holdMoves_any (a0 : Option Addr) (n cap : Nat) (acts : List AcH) (a c : slT) (l : List Chunk) (hin : InRows l a0 n 15 (acts.map encK)) (hsz : acts.length = n) (hok : ∀ x, x ∈ acts → OkA x) :
    Fn Tryz.prog 5 [.slice a0 n cap, .agg (List.toArray (encT a)), .agg (List.toArray (encT c))] l fun v l' => v = .bool true ∧ ∃ c, l' = c ++ l := by
  letI : DecidableEq HdT := fun _ _ => Classical.propDecidable _
  refine fn_of_body Tryz.func5 rfl rfl fun E => ?_
  simp only [argF, Tryz.ntmps5]
  refine gzU ?_
  (first | refine t_e (e_box1 rfl rfl) rfl rfl rfl ?_ | refine t_e (e_boxA rfl) rfl rfl rfl ?_); rintro _ _ ⟨b4, _, rfl, rfl⟩
  refine gzU ?_
  (first | refine t_e (e_box1 rfl rfl) rfl rfl rfl ?_ | refine t_e (e_boxA rfl) rfl rfl rfl ?_); rintro _ _ ⟨b5, _, rfl, rfl⟩
  refine gzU ?_
  by_cases h60 : 60 < n
  · refine gzU ?_
    refine t_e (e_call0 rfl rfl (awake_any _)) rfl rfl rfl ?_
    rintro _ _ ⟨rfl, cx, rfl⟩
    refine gzU ?_
    exact k_ret [] rfl (l' := cx ++ l) (keep_ac (A := cx ++ (slC b5 c :: slC b4 a :: l)) [slC b5 c, slC b4 a]) (by exact zRes) ⟨rfl, _, rfl⟩
  refine gzU ?_
  refine t_e (e_call0 rfl rfl (played_any a0 n cap acts _ (fun h => by obtain ⟨bB, off, cs, t, fz, h1, h2, h3⟩ := hin h; exact ⟨bB, off, cs, t, fz, h1, .tail _ (.tail _ h2), h3⟩) hsz hok (by omega))) rfl rfl rfl ?_
  rintro _ _ ⟨b, H, lq, X, rfl, hI, hq, rfl⟩
  obtain ⟨z1, z2, z3⟩ := hI.small (by omega)
  have hul := hq.ulen hI (by omega)
  obtain ⟨F0, hF0⟩ : ∃ F0, F0 = slC b5 c :: slC b4 a :: (X ++ l) := ⟨_, rfl⟩
  refine s_keep (l' := lq ++ F0) (by rw [hF0]; exact keep_ac (A := lq ++ (X ++ (slC b5 c :: slC b4 a :: l))) []) ?_
  have m5 : slC b5 c ∈ F0 := by rw [hF0]; exact .head _
  have m4 : slC b4 a ∈ F0 := by rw [hF0]; exact .tail _ (.head _)
  have q4 : slC b4 a ∈ lq ++ F0 := List.mem_append_right _ m4
  refine gzU ?_
  refine c_draw [(0, true), (2, true), (4, true), (5, true), (1, false), (3, false), (6, false), (7, true), (8, true), (9, true)] [[], [0], [], [0, 1, 2], [], [], [0, 1, 2, 3, 4, 5], [0, 1, 2, 3, 4, 5, 6], [0, 1, 2, 3, 4, 5, 6, 7], [0, 1, 2, 3, 4, 5, 6, 7, 8]] _ (by kernel_rfl) (by kernel_rfl) zAtt (fun _ h => h) ?_
  refine pzU ?_
  apply pl_e
  · exact e_call0 rfl rfl (hused_any b H lq hq z1 _ fun c hc => List.mem_append_left _ hc)
  · rfl
  · rfl
  · rfl
  · rintro _ _ ⟨c1, _, rfl⟩ z hz
    exact List.mem_append_right _ hz
  rintro v1 _ ⟨c1, ho1, rfl⟩
  refine pzU ?_
  apply pl_e
  · exact e_call0 rfl rfl (htree_any b H lq hq z2 _ fun c hc => List.mem_append_right _ (List.mem_append_left _ hc))
  · rfl
  · rfl
  · rfl
  · rintro _ _ ⟨c2, _, rfl⟩ z hz
    exact List.mem_append_right _ (List.mem_append_right _ hz)
  rintro v2 _ ⟨c2, ho2, rfl⟩
  refine pzU ?_
  apply pl_e
  · exact e_call0 rfl rfl (hbelow_any b H lq hq z2 a _ fun c hc => List.mem_append_right _ (List.mem_append_right _ (List.mem_append_left _ hc)))
  · rfl
  · rfl
  · rfl
  · rintro _ _ ⟨c3, _, rfl⟩ z hz
    exact List.mem_append_right _ (List.mem_append_right _ (List.mem_append_right _ hz))
  rintro v3 _ ⟨c3, ho3, rfl⟩
  refine pzU ?_
  refine gzU ?_
  have o1 : v1.oneCell' = true := ho1.one
  have o2 : v2.oneCell' = true := ho2.one
  have o3 : v3.oneCell' = true := ho3.one
  obtain ⟨F, hF⟩ : ∃ F, F = c3 ++ (c2 ++ (c1 ++ F0)) := ⟨_, rfl⟩
  have mF : ∀ x, x ∈ F0 → x ∈ F := fun c hc => by rw [hF]; exact List.mem_append_right _ (List.mem_append_right _ (List.mem_append_right _ hc))
  have w1 : ∀ x, x ∈ c1 → x ∈ F := fun c hc => by rw [hF]; exact List.mem_append_right _ (List.mem_append_right _ (List.mem_append_left _ hc))
  have w2 : ∀ x, x ∈ c2 → x ∈ F := fun c hc => by rw [hF]; exact List.mem_append_right _ (List.mem_append_left _ hc)
  have w3 : ∀ x, x ∈ c3 → x ∈ F := fun c hc => by rw [hF]; exact List.mem_append_left _ hc
  have f4 := mF _ m4
  have f5 := mF _ m5
  have hbl := Tr.below_len H.2 a
  refine s_keep (l' := lq ++ F) (by rw [hF]; exact keep_ac []) ?_
  have f4' : slC b4 a ∈ lq ++ F := List.mem_append_right _ f4
  refine gzU ?_
  refine t_q (q_call rfl rfl fun l2 hl => hget_any b H lq hq a l2 fun c hc => hl _ (List.mem_append_left _ hc)) rfl rfl rfl ?_
  obtain ⟨d, hd⟩ : ∃ d, (getD' H.1 a).1 = d := ⟨_, rfl⟩
  rw [hd]
  refine gzU ?_
  refine t_e e_alloc rfl rfl rfl ?_; rintro _ _ ⟨b11, _, rfl, rfl⟩
  have f4'' : slC b4 a ∈ lq ++ F := f4'
  have f5'' : slC b5 c ∈ lq ++ F := List.mem_append_right _ f5
  refine gzU ?_
  have HM := Fn.mvP (fun A => capC b11 d :: (A ++ F)) (hmove_any b H (3 + n) hI lq hq a c (capC b11 d :: F))
  by_cases hmv : (moveH H a c).1 = 0
  case neg =>
    rw [move_no hmv] at HM
    refine t_eh (e_call rfl rfl HM) rfl rfl rfl ?_
    rintro _ _ ⟨rfl, lq, hq, rfl⟩
    refine gzU ?_
    refine t_eh (e_call0 rfl rfl (hused_any b H lq hq z1 _ fun c hc => .tail _ (List.mem_append_left _ hc))) rfl rfl rfl ?_
    rintro u1 _ ⟨k1, p1, rfl⟩
    refine gzU ?_
    refine t_h (q_call rfl rfl fun l2 hl => sameHeld_any encE encE_inj encE_k u1 v1 _ _ l2 (p1.hds' fun c hc => hl _ (List.mem_append_left _ hc)) (ho1.hds' fun c hc => hl _ (List.mem_append_right _ (.tail _ (List.mem_append_right _ (w1 c hc))))) (by omega)) rfl rfl rfl ?_
    rw [decide_eq_true (rfl : usedD H.1 = _)]
    refine gzU ?_
    refine t_eh (e_call0 rfl rfl (htree_any b H lq hq z2 _ fun c hc => List.mem_append_right _ (.tail _ (List.mem_append_left _ hc)))) rfl rfl rfl ?_
    rintro u2 _ ⟨k2, p2, rfl⟩
    refine gzU ?_
    refine t_h (q_call rfl rfl fun l2 hl => Tr.sameNodes_any Tr.nV Tr.nV_inj Tr.nV_k u2 v2 H.2 H.2 l2 (p2.nodes fun c hc => hl _ (List.mem_append_left _ hc)) (ho2.nodes fun c hc => hl _ (List.mem_append_right _ (List.mem_append_right _ (.tail _ (List.mem_append_right _ (w2 c hc)))))) (by omega)) rfl rfl rfl ?_
    rw [decide_eq_true (rfl : H.2 = _)]
    refine gzU ?_
    refine t_eh (e_call0 rfl rfl (awake_any _)) rfl rfl rfl ?_
    rintro _ _ ⟨rfl, cx, rfl⟩
    refine gzU ?_
    exact k_ret [] rfl (l' := (cx ++ (k2 ++ (k1 ++ (lq ++ (c3 ++ (c2 ++ (c1 ++ X))))))) ++ l) (by rw [hF, hF0]; exact keep_ac (A := cx ++ (k2 ++ (k1 ++ (capC b11 d :: (lq ++ (c3 ++ (c2 ++ (c1 ++ (slC b5 c :: slC b4 a :: (X ++ l)))))))))) [capC b11 d, slC b5 c, slC b4 a]) (by exact zRes) ⟨rfl, _, rfl⟩
  obtain ⟨y1, y2, y3, y4, y5⟩ := moved hI hmv
  have hI2 := hI.move a c
  rw [hmv] at HM
  obtain ⟨H2, hH2⟩ : ∃ H2, (moveH H a c).2 = H2 := ⟨_, rfl⟩
  rw [hH2] at HM hI2 y1 y2 y3 y4
  rw [y5] at hd
  simp only at hd
  rw [hd] at y1
  refine t_eh (e_call rfl rfl HM) rfl rfl rfl ?_
  clear hq
  rintro _ _ ⟨rfl, lq, hq, rfl⟩
  have j4 : ∀ lq : List Chunk, slC b4 a ∈ lq ++ F := fun lq => List.mem_append_right _ f4
  have j5 : ∀ lq : List Chunk, slC b5 c ∈ lq ++ F := fun lq => List.mem_append_right _ f5
  have i4 := j4 lq
  have i5 := j5 lq
  clear f4' f4'' f5''
  refine gzU ?_
  refine t_q (q_call rfl rfl fun l2 hl => hget_any b H2 lq hq c l2 fun c hc => hl _ (.tail _ (List.mem_append_left _ hc))) rfl rfl rfl ?_
  rw [y1]
  refine gzU ?_
  refine t_e e_alloc rfl rfl rfl ?_; rintro _ _ ⟨b13, _, rfl, rfl⟩
  refine gzU ?_
  refine t_q (q_call rfl rfl fun l2 hl => hget_any b H2 lq hq a l2 fun c hc => hl _ (.tail _ (.tail _ (List.mem_append_left _ hc)))) rfl rfl rfl ?_
  rw [y2]
  refine gzU ?_
  refine t_e e_alloc rfl rfl rfl ?_; rintro _ _ ⟨b15, _, rfl, rfl⟩
  refine gzU ?_
  refine t_q (q_neagg (xs := encC d) (ys := encC d) rfl rfl (encC_k d) (encC_k d)) rfl rfl rfl ?_
  rw [show (!eqCells (encC d) (encC d)) = false by rw [eqCells_self (encC_k d)]; rfl]
  refine gzU ?_
  refine t_h (q_neagg (xs := encC capZ) (ys := encC capZ) rfl rfl (encC_k capZ) (encC_k capZ)) rfl rfl rfl ?_
  rw [show (!eqCells (encC capZ) (encC capZ)) = false by rw [eqCells_self (encC_k capZ)]; rfl]
  refine gzU ?_
  obtain ⟨x1, x2, x3⟩ := hI2.small (by omega)
  have HW := fun l2 (h : ∀ z, z ∈ lq → z ∈ l2) => hbelow_any b H2 lq hq x2 c l2 h
  rw [y3] at HW
  refine t_eh (e_call0 rfl rfl (HW _ fun z hz => .tail _ (.tail _ (.tail _ (List.mem_append_left _ hz))))) rfl rfl rfl ?_
  rintro u0 _ ⟨k0, p0, rfl⟩
  refine gzU ?_
  refine t_h (q_call rfl rfl fun l2 hl => Tr.sameSlots_any Tr.encT Tr.encT_inj Tr.encT_k u0 v3 _ _ l2 (OwnSl.rowSl (enc := Tr.encT) p0 (fun _ => rfl) fun c hc => hl _ (List.mem_append_left _ hc)) (OwnSl.rowSl (enc := Tr.encT) ho3 (fun _ => rfl) fun c hc => hl _ (List.mem_append_right _ (.tail _ (.tail _ (.tail _ (List.mem_append_right _ (w3 c hc))))))) (by omega)) rfl rfl rfl ?_
  rw [decide_eq_true (rfl : Tr.belowD H.2 a = _)]
  refine gzU ?_
  have HB := Fn.mvP (fun A => k0 ++ (capC b15 capZ :: capC b13 d :: capC b11 d :: (A ++ F))) (hmove_any b H2 (3 + n) hI2 lq hq c a (k0 ++ (capC b15 capZ :: capC b13 d :: capC b11 d :: F)))
  rw [y4] at HB
  have n4 : slC b4 a ∈ k0 ++ (capC b15 capZ :: capC b13 d :: capC b11 d :: (lq ++ F)) := List.mem_append_right _ (.tail _ (.tail _ (.tail _ i4)))
  have n5 : slC b5 c ∈ k0 ++ (capC b15 capZ :: capC b13 d :: capC b11 d :: (lq ++ F)) := List.mem_append_right _ (.tail _ (.tail _ (.tail _ i5)))
  refine gzU ?_
  refine t_eh (e_call rfl rfl HB) rfl rfl rfl ?_
  clear hq
  rintro _ _ ⟨rfl, lq, hq, rfl⟩
  refine gzU ?_
  obtain ⟨F3, hF3⟩ : ∃ F3, F3 = k0 ++ (capC b15 capZ :: capC b13 d :: capC b11 d :: F) := ⟨_, rfl⟩
  have wF : ∀ z, z ∈ F → z ∈ F3 := fun z hz => by rw [hF3]; exact List.mem_append_right _ (.tail _ (.tail _ (.tail _ hz)))
  refine s_keep (l' := lq ++ F3) (by rw [hF3]; exact keep_ac (A := k0 ++ (capC b15 capZ :: capC b13 d :: capC b11 d :: (lq ++ F))) []) ?_
  refine gzU ?_
  refine t_eh (e_call0 rfl rfl (hused_any b H lq hq z1 _ fun c hc => List.mem_append_left _ hc)) rfl rfl rfl ?_
  rintro u1 _ ⟨k1, p1, rfl⟩
  refine gzU ?_
  refine t_h (q_call rfl rfl fun l2 hl => sameHeld_any encE encE_inj encE_k u1 v1 _ _ l2 (p1.hds' fun c hc => hl _ (List.mem_append_left _ hc)) (ho1.hds' fun c hc => hl _ (List.mem_append_right _ (List.mem_append_right _ (wF _ (w1 c hc))))) (by omega)) rfl rfl rfl ?_
  rw [decide_eq_true (rfl : usedD H.1 = _)]
  refine gzU ?_
  refine t_eh (e_call0 rfl rfl (htree_any b H lq hq z2 _ fun c hc => List.mem_append_right _ (List.mem_append_left _ hc))) rfl rfl rfl ?_
  rintro u2 _ ⟨k2, p2, rfl⟩
  refine gzU ?_
  refine t_h (q_call rfl rfl fun l2 hl => Tr.sameNodes_any Tr.nV Tr.nV_inj Tr.nV_k u2 v2 H.2 H.2 l2 (p2.nodes fun c hc => hl _ (List.mem_append_left _ hc)) (ho2.nodes fun c hc => hl _ (List.mem_append_right _ (List.mem_append_right _ (List.mem_append_right _ (wF _ (w2 c hc)))))) (by omega)) rfl rfl rfl ?_
  rw [decide_eq_true (rfl : H.2 = _)]
  refine gzU ?_
  refine t_eh (e_call0 rfl rfl (awake_any _)) rfl rfl rfl ?_
  rintro _ _ ⟨rfl, cx, rfl⟩
  refine gzU ?_
  exact k_ret [] rfl (l' := (cx ++ (k2 ++ (k1 ++ (lq ++ (k0 ++ (c3 ++ (c2 ++ (c1 ++ X)))))))) ++ l) (by rw [hF3, hF, hF0]; exact keep_ac [capC b15 capZ, capC b13 d, capC b11 d, slC b5 c, slC b4 a]) (by exact zRes) ⟨rfl, _, rfl⟩
theorem holdMoves_walk' (a0 : Option Addr) (len0 cap0 : Nat) (rows0 : List (List Value)) (c1 : List Value) (w1 : AllIs [some .i64, some .i64] c1) (c2 : List Value) (w2 : AllIs [some .i64, some .i64] c2) (W : World) (h : IsRows acK W a0 len0 cap0 rows0) :
    Calls Tryz.prog 5 #[.slice a0 len0 cap0, .agg c1.toArray, .agg c2.toArray] W fun e W' => e = .returned (.bool true) ∧ Below W.heap.size W W' := by
  obtain ⟨_, _, rfl, ⟨a, rfl, _⟩, _, _, rfl, ⟨i, rfl, _⟩, rfl⟩ := w1
  obtain ⟨_, _, rfl, ⟨c, rfl, _⟩, _, _, rfl, ⟨j, rfl, _⟩, rfl⟩ := w2
  obtain ⟨acts, h1, h2, h3⟩ := hacts_rows h
  exact law_walk (holdMoves_any a0 len0 cap0 acts (a, i) (c, j) (allOf W) h2 h1 h3)
end Go.Proofs.YtpplknmmjlgadaaGreat

/- HoldCopies: the plain law. -/
-- GU
set_option linter.unusedVariables false
set_option linter.unusedSimpArgs false
namespace Go.Proofs.YtpplknmmjlgadaaGreat
open Go.RowKit
set_option maxRecDepth 20000

def rHas (r need : Int) : Bool := rMay r && rMay need && decide (r.toNat &&& need.toNat = need.toNat)
theorem may_rights {c : CapT} (h : mayC c = true) (h3 : c.kind ≠ 3) (h8 : c.kind ≠ 8) : c.rights = 0 := by
  unfold mayC at h
  split at h
  · rw [eqC_iff.1 h]
  split at h
  · rw [Bool.and_eq_true] at h; rw [eqC_iff.1 h.1]
  split at h
  · rw [Bool.and_eq_true, Bool.and_eq_true] at h; rw [eqC_iff.1 h.2.1]
  · first | (rw [if_neg h3, if_neg h8] at h; cases h) | cases h
theorem may_r38 {c : CapT} (h : mayC c = true) (hk : c.kind = 3 ∨ c.kind = 8) : rMay c.rights = true := by
  unfold mayC at h
  rw [if_neg (by omega), if_neg (by omega), if_neg (by omega)] at h
  split at h
  · unfold frameB at h
    simp only [Bool.and_eq_true, decide_eq_true_eq] at h
    unfold rMay
    rw [decide_eq_true (by omega), decide_eq_true (by omega)]; rfl
  · rw [if_pos (by omega)] at h
    unfold endB at h
    simp only [Bool.and_eq_true, decide_eq_true_eq] at h
    unfold rMay
    rw [decide_eq_true (by omega), decide_eq_true (by omega)]; rfl
theorem has_mask {a b : Int} (ha : rMay a = true) (hb : rMay b = true) : rHas a (maskV a b) = true := by
  obtain ⟨x, rfl, hx⟩ := rMay_nat ha
  obtain ⟨y, rfl, hy⟩ := rMay_nat hb
  have hl : x &&& y < 8 := Nat.lt_of_le_of_lt Nat.and_le_left hx
  unfold rHas maskV
  rw [ha, hb]
  simp only [Bool.and_self, if_true, Bool.true_and, Int.toNat_natCast]
  rw [← Nat.and_assoc, Nat.and_self, decide_eq_true rfl, Bool.and_true]
  unfold rMay
  rw [decide_eq_true (by omega), decide_eq_true (by omega)]; rfl
theorem has_self {a : Int} (ha : rMay a = true) : rHas a a = true := by
  unfold rHas
  rw [ha, Nat.and_self, decide_eq_true rfl]; rfl
theorem copy_facts {c : CapT} {mask : Int} (hm : mayC c = true) (h : (copyC c mask).2 = 0) : (copyC c mask).1.kind = c.kind ∧ (copyC c mask).1.obj = c.obj ∧ rHas c.rights (copyC c mask).1.rights = true := by
  unfold copyC at h ⊢
  rw [hm] at h ⊢
  by_cases hr : rMay mask = false
  · rw [if_pos (.inr hr)] at h; cases h
  have hr' : rMay mask = true := by simpa using hr
  rw [if_neg (by rw [hr']; decide)] at h ⊢
  by_cases k0 : c.kind = 0
  · rw [if_pos k0] at h; cases h
  rw [if_neg k0] at h ⊢
  by_cases k17 : c.kind = 1 ∨ c.kind = 7
  · rw [if_pos k17] at h; cases h
  rw [if_neg k17] at h ⊢
  by_cases k3 : c.kind = 3
  · rw [if_pos k3] at h ⊢
    by_cases hz : maskV c.rights mask = 0
    · rw [if_pos hz] at h; cases h
    · rw [if_neg hz]
      exact ⟨rfl, rfl, has_mask (may_r38 hm (.inl k3)) hr'⟩
  rw [if_neg k3] at h ⊢
  by_cases k8 : c.kind = 8
  · rw [if_pos k8]
    exact ⟨rfl, rfl, has_mask (may_r38 hm (.inr k8)) hr'⟩
  rw [if_neg k8]
  exact ⟨rfl, rfl, has_self (by rw [may_rights hm k3 k8]; rfl)⟩
theorem mint_facts {c : CapT} {mask : Int} {data : Nat} (hm : mayC c = true) (h : (mintC c mask data).2 = 0) : (mintC c mask data).1.kind = c.kind ∧ (mintC c mask data).1.obj = c.obj ∧ rHas c.rights (mintC c mask data).1.rights = true := by
  unfold mintC at h ⊢
  by_cases he : (copyC c mask).2 ≠ 0
  · rw [if_pos he] at h; exact absurd h he
  rw [if_neg he] at h ⊢
  obtain ⟨h1, h2, h3⟩ := copy_facts hm (by simpa using he)
  unfold mintD at h ⊢
  by_cases k8 : (copyC c mask).1.kind = 8
  · rw [if_pos k8] at h ⊢
    by_cases g1 : data > 16777215
    · rw [if_pos g1] at h; cases h
    rw [if_neg g1] at h ⊢
    by_cases g2 : (copyC c mask).1.badge ≠ 0
    · rw [if_pos g2] at h; cases h
    rw [if_neg g2]
    exact ⟨h1, h2, h3⟩
  rw [if_neg k8] at h ⊢
  by_cases k2 : (copyC c mask).1.kind = 2
  · rw [if_pos k2] at h ⊢
    by_cases g1 : data ≥ 65536
    · rw [if_pos g1] at h; cases h
    rw [if_neg g1] at h ⊢
    by_cases g2 : mayC (nodeC (copyC c mask).1 data) = false
    · rw [if_pos g2] at h; cases h
    rw [if_neg g2]
    exact ⟨h1, h2, h3⟩
  rw [if_neg k2] at h ⊢
  by_cases g1 : data ≠ 0
  · rw [if_pos g1] at h; cases h
  rw [if_neg g1]
  exact ⟨h1, h2, h3⟩
theorem der_no {H : HS} {a c : slT} {r : CapT × Int} (h : (derH H a c r).1 ≠ 0) : (derH H a c r).2 = H := by
  unfold derH at h ⊢
  split
  · rfl
  · rename_i h1
    rw [if_neg h1] at h
    split
    · rfl
    · rename_i h2
      rw [if_neg h2] at h
      unfold childH at h ⊢
      split
      · rfl
      · rename_i g1
        rw [if_neg g1] at h
        split
        · rfl
        · rename_i g2
          rw [if_neg g2] at h
          split
          · rfl
          · rename_i g3
            rw [if_neg g3] at h
            split
            · rfl
            · rename_i g4
              rw [if_neg g4] at h
              exact absurd rfl h
theorem der_ok {H : HS} {a c : slT} {r : CapT × Int} (h : (derH H a c r).1 = 0) : fromE H a c = 0 ∧ r.2 = 0 ∧ someC r.1 = true ∧ (derH H a c r).2 = (putD H.1 c r.1, (Tr.childD H.2 a c).2) := by
  unfold derH at h ⊢
  by_cases h1 : fromE H a c ≠ 0
  · rw [if_pos h1] at h; exact absurd h h1
  rw [if_neg h1] at h ⊢
  by_cases h2 : r.2 ≠ 0
  · rw [if_pos h2] at h; exact absurd h h2
  rw [if_neg h2] at h ⊢
  refine ⟨by simpa using h1, by simpa using h2, ?_⟩
  unfold childH at h ⊢
  by_cases g1 : okD H.1 a = false ∨ okD H.1 c = false
  · rw [if_pos g1] at h; cases h
  rw [if_neg g1] at h ⊢
  by_cases g2 : someC r.1 = false
  · rw [if_pos g2] at h; cases h
  rw [if_neg g2] at h ⊢
  by_cases g3 : (atD H.1 a).kind = 0
  · rw [if_pos g3] at h; cases h
  rw [if_neg g3] at h ⊢
  by_cases g4 : (atD H.1 c).kind ≠ 0
  · rw [if_pos g4] at h; cases h
  rw [if_neg g4]
  exact ⟨by simpa using g2, rfl⟩
structure CopiedH (H : HS) (a c : slT) (d : CapT) (H2 : HS) : Prop where
  get_a : getD' H2.1 a = (atD H.1 a, 0)
  get_c : getD' H2.1 c = (d, 0)
  alike : alikeB (atD H.1 a) d = true
  rights : rHas (atD H.1 a).rights d.rights = true
  below : ∃ L, Tr.belowD H2.2 a = c :: L
  len : H2.2.length = H.2.length + 1
  same : ∀ x, x ∈ usedD H.1 → getD' H2.1 x.1 = (x.2, 0)
theorem copied {H : HS} {n : Nat} (hI : InvH H n) {a c : slT} {r : CapT × Int} (hr : r.2 = 0 → r.1.kind = (atD H.1 a).kind ∧ r.1.obj = (atD H.1 a).obj ∧ rHas (atD H.1 a).rights r.1.rights = true) (h : (derH H a c r).1 = 0) : CopiedH H a c r.1 (derH H a c r).2 := by
  obtain ⟨h0, h1, h2, h3⟩ := der_ok h
  obtain ⟨oka, okc, ka, kc⟩ := from_0 h0
  obtain ⟨f1, f2, f3⟩ := hr h1
  obtain ⟨s1, s2⟩ := some_c h2
  have hne : a ≠ c := fun e => ka (e ▸ kc)
  have hnc := hI.no kc
  have hha : Tr.hasD H.2 a = true := (hI.link a).2 ⟨oka, ka⟩
  rw [h3]
  have at1 : ∀ s, okD H.1 s = true → getD' (putD H.1 c r.1) s = (if s = c then r.1 else atD H.1 s, 0) := fun s hs => by
    rw [get_t (by rw [ok_put]; exact hs), at_putI okc hs]
  have hsp : ∃ A d B, Tr.splitD a H.2 = some (A, d, B) := by
    unfold Tr.hasD at hha
    cases h2 : Tr.splitD a H.2 with
    | none => rw [h2] at hha; cases hha
    | some z => exact ⟨z.1, z.2.1, z.2.2, rfl⟩
  obtain ⟨A, d, B, hs⟩ := hsp
  have hc2 : Tr.childD H.2 a c = (0, A ++ (a, d) :: (c, d + 1) :: B) := by unfold Tr.childD; rw [hs]; simp only; rw [if_neg (by rw [hnc]; decide)]
  obtain ⟨hD, hA⟩ := Tr.splitD_some hs
  refine ⟨by rw [at1 a oka, if_neg hne], by rw [at1 c okc, if_pos rfl], ?_, f3, ?_, ?_, fun x hx => ?_⟩
  · unfold alikeB
    rw [(hI.at a).1, s1, decide_eq_false ka, f1, f2, decide_eq_true rfl, decide_eq_true rfl]; rfl
  · refine ⟨(B.takeWhile fun x => decide (d < x.2)).map Prod.fst, ?_⟩
    rw [hc2]
    unfold Tr.belowD
    rw [Tr.splitD_of hA]
    simp only
    rw [List.takeWhile_cons_of_pos (by simp only [decide_eq_true_eq]; omega)]; rfl
  · rw [hc2, hD]; simp only [List.length_append, List.length_cons]; omega
  · obtain ⟨u1, u2, u3⟩ := (hI.used x).1 hx
    rw [at1 x.1 u1, if_neg fun e => u3 (by rw [← u2, e]; exact kc), u2]
set_option pp.deepTerms false
set_option pp.deepTerms.threshold 4
set_option maxHeartbeats 400000
theorem phas_any (a b : Int) (l : List Chunk) : Fn Tryz.prog 27 [.int .i64 a, .int .i64 b] l fun v l' => v = .bool (rHas a b) ∧ l' = l := by
  refine fn_of_body Tryz.func27 rfl rfl fun E => ?_
  simp only [argF, Tryz.ntmps27]
  refine gzU ?_
  refine t_q (q_call rfl rfl fun l2 _ => pmay_any a l2) rfl rfl rfl ?_
  unfold rHas
  cases ha : rMay a with
  | false =>
    refine gzU ?_
    exact k_ret [] rfl .refl (by exact zRes) ⟨rfl, rfl⟩
  | true =>
  refine gzU ?_
  refine t_h (q_call rfl rfl fun l2 _ => pmay_any b l2) rfl rfl rfl ?_
  cases hb : rMay b with
  | false =>
    refine gzU ?_
    exact k_ret [] rfl .refl (by exact zRes) ⟨rfl, rfl⟩
  | true =>
  obtain ⟨a, rfl, ha8⟩ := rMay_nat ha
  obtain ⟨b, rfl, hb8⟩ := rMay_nat hb
  refine gzU ?_
  refine t_h (q_andI rfl rfl (by omega) (by omega)) rfl rfl rfl ?_
  refine gzU ?_
  refine k_ret [] rfl .refl (by exact zRes) ⟨?_, rfl⟩
  simp only [Int.toNat_natCast, Bool.and_self, Bool.true_and]
  rw [← (decide_eq_decide.2 Int.natCast_inj : decide (((a &&& b : Nat) : Int) = ((b : Nat) : Int)) = decide (a &&& b = b))]; rfl
theorem holdCopies_any (a0 : Option Addr) (n cap : Nat) (acts : List AcH) (a c : slT) (mask : Int) (data : Nat) (hdata : data < 18446744073709551616) (mint : Bool) (l : List Chunk) (hin : InRows l a0 n 15 (acts.map encK)) (hsz : acts.length = n) (hok : ∀ x, x ∈ acts → OkA x) :
    Fn Tryz.prog 7 [.slice a0 n cap, .agg (List.toArray (encT a)), .agg (List.toArray (encT c)), .int .i64 mask, .int .u64 (data : Nat), .bool mint] l fun v l' => v = .bool true ∧ ∃ c, l' = c ++ l := by
  letI : DecidableEq HdT := fun _ _ => Classical.propDecidable _
  refine fn_of_body Tryz.func7 rfl rfl fun E => ?_
  simp only [argF, Tryz.ntmps7]
  refine gzU ?_
  (first | refine t_e (e_box1 rfl rfl) rfl rfl rfl ?_ | refine t_e (e_boxA rfl) rfl rfl rfl ?_); rintro _ _ ⟨b7, _, rfl, rfl⟩
  refine gzU ?_
  (first | refine t_e (e_box1 rfl rfl) rfl rfl rfl ?_ | refine t_e (e_boxA rfl) rfl rfl rfl ?_); rintro _ _ ⟨b8, _, rfl, rfl⟩
  refine gzU ?_
  by_cases h60 : 60 < n
  · refine gzU ?_
    refine t_e (e_call0 rfl rfl (awake_any _)) rfl rfl rfl ?_
    rintro _ _ ⟨rfl, cx, rfl⟩
    refine gzU ?_
    exact k_ret [] rfl (l' := cx ++ l) (keep_ac (A := cx ++ (slC b8 c :: slC b7 a :: l)) [slC b8 c, slC b7 a]) (by exact zRes) ⟨rfl, _, rfl⟩
  refine gzU ?_
  refine t_e (e_call0 rfl rfl (played_any a0 n cap acts _ (fun h => by obtain ⟨bB, off, cs, t, fz, h1, h2, h3⟩ := hin h; exact ⟨bB, off, cs, t, fz, h1, .tail _ (.tail _ h2), h3⟩) hsz hok (by omega))) rfl rfl rfl ?_
  rintro _ _ ⟨b, H, lq, X, rfl, hI, hq, rfl⟩
  obtain ⟨z1, z2, z3⟩ := hI.small (by omega)
  have hul := hq.ulen hI (by omega)
  have hul2 := hI.ulen
  obtain ⟨F0, hF0⟩ : ∃ F0, F0 = slC b8 c :: slC b7 a :: (X ++ l) := ⟨_, rfl⟩
  refine s_keep (l' := lq ++ F0) (by rw [hF0]; exact keep_ac (A := lq ++ (X ++ (slC b8 c :: slC b7 a :: l))) []) ?_
  have m8 : slC b8 c ∈ F0 := by rw [hF0]; exact .head _
  have m7 : slC b7 a ∈ F0 := by rw [hF0]; exact .tail _ (.head _)
  refine gzU ?_
  refine t_e (e_call0 rfl rfl (hused_any b H lq hq z1 _ fun c hc => List.mem_append_left _ hc)) rfl rfl rfl ?_
  rintro v1 _ ⟨c1, ho1, rfl⟩
  refine gzU ?_
  refine t_e (e_call0 rfl rfl (htree_any b H lq hq z2 _ fun c hc => List.mem_append_right _ (List.mem_append_left _ hc))) rfl rfl rfl ?_
  rintro v2 _ ⟨c2, ho2, rfl⟩
  refine gzU ?_
  have o1 : v1.oneCell' = true := ho1.one
  have o2 : v2.oneCell' = true := ho2.one
  obtain ⟨F, hF⟩ : ∃ F, F = c2 ++ (c1 ++ F0) := ⟨_, rfl⟩
  have mF : ∀ x, x ∈ F0 → x ∈ F := fun c hc => by rw [hF]; exact List.mem_append_right _ (List.mem_append_right _ hc)
  have w1 : ∀ x, x ∈ c1 → x ∈ F := fun c hc => by rw [hF]; exact List.mem_append_right _ (List.mem_append_left _ hc)
  have w2 : ∀ x, x ∈ c2 → x ∈ F := fun c hc => by rw [hF]; exact List.mem_append_left _ hc
  have f7 := mF _ m7
  have f8 := mF _ m8
  refine s_keep (l' := lq ++ F) (by rw [hF]; exact keep_ac []) ?_
  have f7' : slC b7 a ∈ lq ++ F := List.mem_append_right _ f7
  have f8' : slC b8 c ∈ lq ++ F := List.mem_append_right _ f8
  have hma := (hI.at a).1
  have K1 := copied hI (c := c) (r := copyC (atD H.1 a) mask) fun h => copy_facts hma h
  have K2 := copied hI (c := c) (r := mintC (atD H.1 a) mask data) fun h => mint_facts hma h
  have J1 := hI.der a c (copyC (atD H.1 a) mask) (copy_w (hI.at a).2 mask)
  have J2 := hI.der a c (mintC (atD H.1 a) mask data) (mint_w (hI.at a).2 mask data)
  have N1 := @der_no H a c (copyC (atD H.1 a) mask)
  have N2 := @der_no H a c (mintC (atD H.1 a) mask data)
  have HC := hcopy_any b H (3 + n) hI (by omega) lq hq a c mask F
  have HM := fun lq hq => hmint_any b H (3 + n) hI (by omega) lq hq a c mask data hdata F
  obtain ⟨D1, hD1⟩ : ∃ D1, derH H a c (copyC (atD H.1 a) mask) = D1 := ⟨_, rfl⟩
  obtain ⟨D2, hD2⟩ : ∃ D2, derH H a c (mintC (atD H.1 a) mask data) = D2 := ⟨_, rfl⟩
  rw [hD1] at K1 J1 N1 HC
  rw [hD2] at K2 J2 N2 HM
  refine gzU ?_
  refine t_e (e_call rfl rfl HC) rfl rfl rfl ?_
  clear hq f7' f8'
  rintro _ _ ⟨rfl, lq, hq, rfl⟩
  iterate 3 refine gzSU ?_
  refine c_join (α := Int × HS × List Chunk) (fun x => [(7, .pointer (some ⟨b7, 0, none⟩)), (8, .pointer (some ⟨b8, 0, none⟩)), (13, .pointer (some ⟨b, 0, none⟩)), (14, v1), (15, v2), (16, .int .i64 x.1)]) (fun x => x.2.2 ++ F) (fun x => IsH b x.2.1 x.2.2 ∧ ((x.1 ≠ 0 ∧ x.2.1 = H) ∨ (x.1 = 0 ∧ InvH x.2.1 (3 + n + 1) ∧ ∃ d, CopiedH H a c d x.2.1))) ?_ ?_
  · skip
    have f7' : slC b7 a ∈ lq ++ F := List.mem_append_right _ f7
    have f8' : slC b8 c ∈ lq ++ F := List.mem_append_right _ f8
    by_cases h1 : D1.1 = 0
    · rw [h1]
      refine gzU ?_
      exact p_join (0, D1.2, lq) ⟨hq, .inr ⟨rfl, J1, _, K1 h1⟩⟩ ⟨rfl, rfl, rfl, rfl, rfl, rfl, trivial⟩ .refl
    cases mint with
    | false =>
      refine gzU ?_
      exact p_join (D1.1, D1.2, lq) ⟨hq, .inl ⟨h1, N1 h1⟩⟩ ⟨rfl, rfl, rfl, rfl, rfl, rfl, trivial⟩ .refl
    | true =>
      rw [N1 h1] at hq
      refine gzU ?_
      refine t_e (e_call rfl rfl (HM lq hq)) rfl rfl rfl ?_
      clear hq f7' f8'
      rintro _ _ ⟨rfl, lq, hq, rfl⟩
      refine gzU ?_
      refine p_join (D2.1, D2.2, lq) ⟨hq, ?_⟩ ⟨rfl, rfl, rfl, rfl, rfl, rfl, trivial⟩ .refl
      by_cases h2 : D2.1 = 0
      · exact .inr ⟨h2, J2, _, K2 h2⟩
      · exact .inl ⟨h2, N2 h2⟩
  clear hq K1 K2 J1 J2 N1 N2 HC HM
  rintro ⟨e, H2, lq⟩ ⟨hq, hcase⟩
  simp only at hq hcase ⊢
  have f7' : slC b7 a ∈ lq ++ F := List.mem_append_right _ f7
  have f8' : slC b8 c ∈ lq ++ F := List.mem_append_right _ f8
  rcases hcase with ⟨he, rfl⟩ | ⟨rfl, hI2, d, hC⟩
  · refine gzU ?_
    refine t_eh (e_call0 rfl rfl (hused_any b H2 lq hq z1 _ fun c hc => List.mem_append_left _ hc)) rfl rfl rfl ?_
    rintro u1 _ ⟨k1, p1, rfl⟩
    refine gzU ?_
    refine t_h (q_call rfl rfl fun l2 hl => sameHeld_any encE encE_inj encE_k u1 v1 _ _ l2 (p1.hds' fun c hc => hl _ (List.mem_append_left _ hc)) (ho1.hds' fun c hc => hl _ (List.mem_append_right _ (List.mem_append_right _ (w1 c hc)))) (by omega)) rfl rfl rfl ?_
    rw [decide_eq_true (rfl : usedD H2.1 = _)]
    refine gzU ?_
    refine t_eh (e_call0 rfl rfl (htree_any b H2 lq hq z2 _ fun c hc => List.mem_append_right _ (List.mem_append_left _ hc))) rfl rfl rfl ?_
    rintro u2 _ ⟨k2, p2, rfl⟩
    refine gzU ?_
    refine t_h (q_call rfl rfl fun l2 hl => Tr.sameNodes_any Tr.nV Tr.nV_inj Tr.nV_k u2 v2 H2.2 H2.2 l2 (p2.nodes fun c hc => hl _ (List.mem_append_left _ hc)) (ho2.nodes fun c hc => hl _ (List.mem_append_right _ (List.mem_append_right _ (List.mem_append_right _ (w2 c hc))))) (by omega)) rfl rfl rfl ?_
    rw [decide_eq_true (rfl : H2.2 = _)]
    refine gzU ?_
    refine t_eh (e_call0 rfl rfl (awake_any _)) rfl rfl rfl ?_
    rintro _ _ ⟨rfl, cx, rfl⟩
    refine gzU ?_
    exact k_ret [] rfl (l' := (cx ++ (k2 ++ (k1 ++ (lq ++ (c2 ++ (c1 ++ X)))))) ++ l) (by rw [hF, hF0]; exact keep_ac [slC b8 c, slC b7 a]) (by exact zRes) ⟨rfl, _, rfl⟩
  obtain ⟨g1, g2, g3, g4, ⟨L, g5⟩, g6, g7⟩ := hC
  obtain ⟨y1, y2, y3⟩ := hI2.small (by omega)
  have hu2 := hI2.ulen
  have hbl := Tr.below_len H2.2 a
  rw [g5] at hbl
  obtain ⟨d0, hd0⟩ : ∃ d0, atD H.1 a = d0 := ⟨_, rfl⟩
  rw [hd0] at g1 g3 g4
  refine gzU ?_
  refine t_q (q_call rfl rfl fun l2 hl => hget_any b H2 lq hq a l2 fun c hc => hl _ (List.mem_append_left _ hc)) rfl rfl rfl ?_
  rw [g1]
  refine gzU ?_
  refine t_e e_alloc rfl rfl rfl ?_; rintro _ _ ⟨b17, _, rfl, rfl⟩
  refine gzU ?_
  refine t_q (q_call rfl rfl fun l2 hl => hget_any b H2 lq hq c l2 fun c hc => hl _ (.tail _ (List.mem_append_left _ hc))) rfl rfl rfl ?_
  rw [g2]
  refine gzU ?_
  refine t_e e_alloc rfl rfl rfl ?_; rintro _ _ ⟨b19, _, rfl, rfl⟩
  refine gzU ?_
  have HW := fun l2 (h : ∀ z, z ∈ lq → z ∈ l2) => hbelow_any b H2 lq hq y2 a l2 h
  rw [g5] at HW
  refine t_e (e_call0 rfl rfl (HW _ fun z hz => .tail _ (.tail _ (List.mem_append_left _ hz)))) rfl rfl rfl ?_
  rintro v3 _ ⟨c3, ho3, rfl⟩
  refine gzU ?_
  obtain ⟨M, hM⟩ : ∃ M, M = c3 ++ (capC b19 d :: capC b17 d0 :: (lq ++ F)) := ⟨_, rfl⟩
  have t19 : capC b19 d ∈ M := by rw [hM]; exact List.mem_append_right _ (.head _)
  have t17 : capC b17 d0 ∈ M := by rw [hM]; exact List.mem_append_right _ (.tail _ (.head _))
  have tF : ∀ z, z ∈ F → z ∈ M := fun z hz => by rw [hM]; exact List.mem_append_right _ (.tail _ (.tail _ (List.mem_append_right _ hz)))
  have tq : ∀ z, z ∈ lq → z ∈ M := fun z hz => by rw [hM]; exact List.mem_append_right _ (.tail _ (.tail _ (List.mem_append_left _ hz)))
  have t8 := tF _ f8
  have r3 : RowSl M v3 2 encT (c :: L) := OwnSl.rowSl (enc := encT) ho3 (fun _ => rfl) fun z hz => by rw [hM]; exact List.mem_append_left _ hz
  obtain ⟨pa, ca, rfl, r3⟩ := r3
  obtain ⟨gb, off, xs, ty, fz, rfl, hm, hc3⟩ := r3 (by simp)
  obtain ⟨s1, s2⟩ := hc3 0 c rfl
  have hl1 : (c :: L).length = L.length + 1 := rfl
  rw [hl1] at hbl ⊢
  refine c_keep (l' := M) (by rw [hM]; exact .refl) ?_
  obtain ⟨p1, cp1, rfl⟩ := ho1.shape
  refine c_draw [(0, true), (1, true), (2, true), (3, true), (4, true), (5, true), (6, true), (7, true), (8, true), (9, true), (10, true), (11, true), (12, true), (13, true), (14, true), (15, true), (16, true), (17, true), (18, true), (19, true), (20, true), (21, true), (22, true), (23, true), (24, true), (25, true), (28, true), (29, true), (30, true), (26, false), (27, true), (31, true), (32, true)] [[], [], [0, 1], [0, 1, 2], [0, 1, 2, 3], [0, 1, 2, 3, 4], [0, 1, 2, 3, 4, 5], [0, 1, 2, 3, 4], [0, 1, 2, 3, 4, 7], [0, 1, 2, 3, 4, 5, 6, 7, 8], [0, 1, 2, 3, 4, 5, 6, 7, 8, 9], [0, 1, 2, 3, 4, 5, 6, 7, 8, 9, 10], [0, 1, 2, 3, 4, 5, 6, 7, 8, 9, 10, 11], [0, 1, 2, 3, 4, 5, 6, 7, 8, 9, 10, 11, 12], [0, 1, 2, 3, 4, 5, 6, 7, 8, 9, 10, 11, 12, 13], [0, 1, 2, 3, 4, 5, 6, 7, 8, 9, 10, 11, 12, 13, 14], [0, 1, 2, 3, 4, 5, 6, 7, 8, 9, 10, 11, 12, 13, 14, 15], [0, 1, 2, 3, 4, 5, 6, 7, 8, 9, 10, 11, 12, 13, 14, 15, 16], [0, 1, 2, 3, 4, 5, 6, 7, 8, 9, 10, 11, 12, 13, 14, 15, 16, 17], [0, 1, 2, 3, 4, 5, 6, 7, 8, 9, 10, 11, 12, 13, 14, 15, 16, 17, 18], [0, 1, 2, 3, 4, 5, 6, 7, 8, 9, 10, 11, 12, 13, 14, 15, 16, 17, 18, 19], [0, 1, 2, 3, 4, 5, 6, 7, 8, 9, 10, 11, 12, 13, 14, 15, 16, 17], [0, 1, 2, 3, 4, 5, 6, 7, 8, 9, 10, 11, 12, 13, 14, 15, 16, 17, 18, 19, 20, 21], [0, 1, 2, 3, 4, 5, 6, 7, 8, 9, 10, 11, 12, 13, 14, 15, 16, 17, 18, 19, 20, 21, 22], [0, 1, 2, 3, 4, 5, 6, 7, 8, 9, 10, 11, 12, 13, 14, 15, 16, 17, 18, 19, 20, 21, 22, 23], [0, 1, 2, 3, 4, 5, 6, 7, 8, 9, 10, 11, 12, 13, 14, 15, 16, 17, 18, 19, 20, 21, 22, 23, 24], [0, 1, 2, 3, 4, 5, 6, 7, 8, 9, 10, 11, 12, 13, 14, 15, 16, 17, 18, 19, 20, 21, 22, 23, 24, 25], [0, 1, 2, 3, 4, 5, 6, 7, 8, 9, 10, 11, 12, 13, 14, 15, 16, 17, 18, 19, 20, 21, 22, 23, 24, 25, 26], [0, 1, 2, 3, 4, 5, 6, 7, 8, 9, 10, 11, 12, 13, 14, 15, 16, 17, 18, 19, 20, 21, 22, 23, 24], [0, 1, 2, 3, 4, 5, 6, 7, 8, 9, 10, 11, 12, 13, 14, 15, 16, 17, 18, 19, 20, 21, 22, 23, 24, 28], [0, 1, 2, 3, 4, 5, 6, 7, 8, 9, 10, 11, 12, 13, 14, 15, 16, 17, 18, 19, 20, 21, 22, 23, 24, 28, 29], [0, 1, 2, 3, 4, 5, 6, 7, 8, 9, 10, 11, 12, 13, 14, 15, 16, 17, 18, 19, 20, 21, 22, 23, 24, 25, 26, 27, 28, 29, 30], [0, 1, 2, 3, 4, 5, 6, 7, 8, 9, 10, 11, 12, 13, 14, 15, 16, 17, 18, 19, 20, 21, 22, 23, 24, 25, 26, 27, 28, 29, 30, 31]] _ (by kernel_rfl) (by kernel_rfl) zAtt (fun _ h => h) ?_
  refine pzU ?_
  refine pl_h (q_call rfl rfl fun l2 _ => alike_any d0 d l2) rfl rfl rfl ?_
  rw [g3]
  refine pzU ?_
  refine pl_h (q_call rfl rfl fun l2 _ => phas_any d0.rights d.rights l2) rfl rfl rfl ?_
  rw [g4]
  refine pzU ?_
  refine pl_h (q_loadA (n := 2) rfl hm (by simpa using s1) (by simpa using s2)) rfl rfl rfl ?_
  refine pzU ?_
  refine pl_h (q_neagg (xs := encT c) (ys := encT c) rfl rfl (encT_k c) (encT_k c)) rfl rfl rfl ?_
  rw [show (!eqCells (encT c) (encT c)) = false by rw [eqCells_self (encT_k c)]; rfl]
  refine pzU ?_
  apply pl_geS
  · exact e_call0 rfl rfl (hused_any b H2 lq hq y1 _ tq)
  · rfl
  · rfl
  · rfl
  · rintro _ _ ⟨k5, _, rfl⟩
    exact fun z hz => List.mem_append_right _ hz
  · intro _ _ _ _ h
    cases h
  rintro u5 _ ⟨k5, p5, rfl⟩
  obtain ⟨pb, cb, rfl⟩ := p5.shape
  refine pzU ?_
  refine gzU ?_
  obtain ⟨U, hU⟩ : ∃ U, usedD H.1 = U := ⟨_, rfl⟩
  rw [hU] at ho1 hul hul2 g7 ⊢
  obtain ⟨R, hR⟩ : ∃ R, R = k5 ++ M := ⟨_, rfl⟩
  have rF : ∀ z, z ∈ F → z ∈ R := fun z hz => by rw [hR]; exact List.mem_append_right _ (tF z hz)
  have rq : ∀ z, z ∈ lq → z ∈ R := fun z hz => by rw [hR]; exact List.mem_append_right _ (tq z hz)
  obtain ⟨pc, cc, hpc, r1⟩ := ho1.hds' (l := R) fun z hz => rF _ (w1 z hz)
  cases hpc
  refine k_loop (α := Nat) (fun i => [(13, .pointer (some ⟨b, 0, none⟩)), (14, .slice p1 U.length cp1), (22, .int .i64 i)]) (fun _ => R) (fun i => i ≤ U.length) (fun i => U.length - i) 0 (Nat.zero_le _) ⟨rfl, rfl, rfl, trivial⟩ (by rw [hR]; exact .refl) ?_
  intro i hi
  by_cases hlt : i < U.length
  case neg =>
    refine gzU ?_
    refine t_e (e_call0 rfl rfl (awake_any _)) rfl rfl rfl ?_
    rintro _ _ ⟨rfl, cx, rfl⟩
    refine gzU ?_
    exact k_ret [] rfl (l' := (cx ++ (k5 ++ (c3 ++ (lq ++ (c2 ++ (c1 ++ X)))))) ++ l) (by rw [hR, hM, hF, hF0]; exact keep_ac [capC b19 d, capC b17 d0, slC b8 c, slC b7 a]) (by exact zRes) ⟨rfl, _, rfl⟩
  obtain ⟨x, hx⟩ : ∃ x, U[i]? = some x := ⟨_, List.getElem?_eq_getElem hlt⟩
  obtain ⟨gb1, off1, xs1, ty1, fz1, rfl, hm1, hc1⟩ := r1 (by omega)
  obtain ⟨k1, k2⟩ := hc1 i x hx
  have e2 := ext_part (j := 0) (n := 2) k2 k1 (by omega)
  have e8 := ext_part (j := 2) (n := 8) k2 k1 (by omega)
  have HG := fun l2 (h : ∀ z, z ∈ lq → z ∈ l2) => hget_any b H2 lq hq x.1 l2 h
  rw [g7 x (List.mem_of_getElem? hx)] at HG
  refine gzU ?_
  refine t_q (q_loadA (n := 2) rfl hm1 (by omega) e2) rfl rfl rfl ?_
  refine t_q (q_call (vs := [.pointer (some ⟨b, 0, none⟩), .agg (List.toArray (encT x.1))]) rfl rfl fun l2 hl => HG l2 fun z hz => hl _ (rq z hz)) rfl rfl rfl ?_
  refine gzU ?_
  refine t_e e_alloc rfl rfl rfl ?_; rintro _ _ ⟨b23, _, rfl, rfl⟩
  refine gzU ?_
  refine c_draw [(0, true), (1, true), (2, true), (3, true), (4, true), (5, true), (6, true)] [[], [], [], [1, 2], [1, 2, 3], [1, 2, 3, 4], [0, 1, 2, 3, 4, 5]] _ (by kernel_rfl) (by kernel_rfl) zAtt (fun _ h => h) ?_
  refine pzU ?_
  refine pl_h (q_loadA (n := 8) rfl (.tail _ hm1) (by omega) e8) rfl rfl rfl ?_
  refine pzU ?_
  refine pl_h (q_neagg (xs := encC x.2) (ys := encC x.2) rfl rfl (encC_k x.2) (encC_k x.2)) rfl rfl rfl ?_
  rw [show (!eqCells (encC x.2) (encC x.2)) = false by rw [eqCells_self (encC_k x.2)]; rfl]
  refine pzU ?_
  refine gzU ?_
  exact k_next (i + 1) (by omega) (by omega) ⟨rfl, rfl, rfl, trivial⟩ (.drop .refl)
theorem holdCopies_walk' (a0 : Option Addr) (len0 cap0 : Nat) (rows0 : List (List Value)) (c1 : List Value) (w1 : AllIs [some .i64, some .i64] c1) (c2 : List Value) (w2 : AllIs [some .i64, some .i64] c2) (a3 : Int) (w3 : (Lit.int .i64 a3).wf = true) (a4 : Int) (w4 : (Lit.int .u64 a4).wf = true) (a5 : Bool) (W : World) (h : IsRows acK W a0 len0 cap0 rows0) :
    Calls Tryz.prog 7 #[.slice a0 len0 cap0, .agg c1.toArray, .agg c2.toArray, .int .i64 a3, .int .u64 a4, .bool a5] W fun e W' => e = .returned (.bool true) ∧ Below W.heap.size W W' := by
  obtain ⟨_, _, rfl, ⟨a, rfl, _⟩, _, _, rfl, ⟨i, rfl, _⟩, rfl⟩ := w1
  obtain ⟨_, _, rfl, ⟨c, rfl, _⟩, _, _, rfl, ⟨j, rfl, _⟩, rfl⟩ := w2
  obtain ⟨dn, rfl, hdn⟩ := u64_of w4
  obtain ⟨acts, h1, h2, h3⟩ := hacts_rows h
  exact law_walk (holdCopies_any a0 len0 cap0 acts (a, i) (c, j) a3 dn hdn a5 (allOf W) h2 h1 h3)
end Go.Proofs.YtpplknmmjlgadaaGreat
