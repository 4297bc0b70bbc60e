/- hold: start, played, awake. hold: both tell the same; HoldScript. HoldScript: the walk. Laws that the statement's proof leans on. -/
import Derived.Test.YtpplknmmjlgadaaGreatGz4
import Derived.Test.YtpplknmmjlgadaaGreatGz10
/- hold: start, played, awake. -/
-- GU
set_option linter.unusedVariables false
set_option linter.unusedSimpArgs false
namespace Go.Proofs.YtpplknmmjlgadaaGreat
open Go.RowKit
set_option maxRecDepth 20000

def stN : Nat → Int | 2 => 2 | _ => 4
def stD : Nat → SD | 0 => [] | k + 1 => (addN (stD k) ((k + 1 : Nat) : Int) (stN k)).2
theorem st_len : ∀ {k : Nat}, k < 3 → (stD k).length ≤ 3
  | 0, _ => by decide | 1, _ => by decide | 2, _ => by decide | n + 3, h => absurd h (by omega)
theorem ok_nil (s : slT) : okD [] s = false := by
  unfold okD sizeD
  rw [show findK Prod.fst ([] : SD) s.1 = none from rfl]
  by_cases h : 0 ≤ s.2
  · rw [decide_eq_true h, decide_eq_false (by simp only; omega)]; rfl
  · rw [decide_eq_false h]; rfl
theorem InvH.nil : InvH ([], []) 0 :=
  ⟨.none, List.Pairwise.nil, fun x hx => absurd hx (by simp), fun s => ⟨fun h => absurd h (by rw [Tr.hasD_no.2 fun x hx => absurd hx (by simp)]; decide), fun h => absurd h.1 (by rw [ok_nil]; decide)⟩, by simp⟩
theorem inv_st : ∀ k : Nat, InvH (stD k, []) k
  | 0 => InvH.nil
  | k + 1 => (inv_st k).add _ _
def H0 : HS := (stD 3, [])
theorem inv_0 : InvH H0 3 := inv_st 3
def playH (H : HS) (xs : List AcH) : HS := xs.foldl actH H
theorem playH_snoc (H : HS) (xs : List AcH) (x : AcH) : playH H (xs ++ [x]) = actH (playH H xs) x := by unfold playH; rw [List.foldl_append]; rfl
theorem inv_play {H : HS} {n : Nat} (h : InvH H n) : ∀ (xs : List AcH), (∀ x, x ∈ xs → OkA x) → InvH (playH H xs) (n + xs.length) := by
  intro xs
  induction xs generalizing H n with
  | nil => exact fun _ => h
  | cons x xs ih =>
    intro hx
    have := ih (h.act x (hx x (.head _))) fun y hy => hx y (.tail _ hy)
    rw [List.length_cons, show n + (xs.length + 1) = n + 1 + xs.length by omega]; exact this
set_option pp.deepTerms false
set_option pp.deepTerms.threshold 4
set_option maxHeartbeats 400000
theorem start_any (l : List Chunk) : Fn Tryz.prog 9 [] l fun v l' => ∃ b bw lq lr, v = .tuple #[.pointer (some ⟨b, 0, none⟩), .pointer (some ⟨bw, 0, none⟩)] ∧ IsH b H0 lq ∧ IsRH bw H0 lr ∧ l' = lq ++ (lr ++ l) := by
  refine fn_of_body Tryz.func9 rfl rfl fun E => ?_
  simp only [argF, Tryz.ntmps9]
  refine gzU ?_
  refine t_e (e_call0 rfl rfl (hnew_any _)) rfl rfl rfl ?_
  rintro _ _ ⟨b, rfl, lq, hq, rfl⟩
  refine gzU ?_
  refine t_e (e_call0 rfl rfl (rhnew_any _)) rfl rfl rfl ?_
  rintro _ _ ⟨bw, rfl, lr, hr, rfl⟩
  refine gzU ?_
  refine k_loop (α := Nat × List Chunk × List Chunk) (fun x => [(2, .pointer (some ⟨b, 0, none⟩)), (3, .pointer (some ⟨bw, 0, none⟩)), (4, .int .i64 ((x.1 + 1 : Nat) : Int))]) (fun x => x.2.1 ++ (x.2.2 ++ l)) (fun x => x.1 ≤ 3 ∧ IsH b (stD x.1, []) x.2.1 ∧ IsRH bw (stD x.1, []) x.2.2) (fun x => 3 - x.1) (0, lq, lr) ⟨Nat.zero_le _, hq, hr⟩ ⟨rfl, rfl, rfl, trivial⟩ (Keep.in_mid lr lq l) ?_
  clear hq hr
  rintro ⟨k, lq, lr⟩ ⟨hk, hq, hr⟩
  simp only at hk hq hr ⊢
  by_cases hlt : k < 3
  · have hlen := st_len hlt
    have HA := Fn.mvP (fun A => A ++ (lr ++ l)) (haddN_any b (stD k, []) lq hq ((k + 1 : Nat) : Int) (stN k) (lr ++ l))
    obtain ⟨bs, bt, ls, lt, rfl, hs, ht⟩ := hr
    have HR := fun lq => Fn.mvP (fun A => lq ++ (rhoC bw bs bt :: (A ++ (lt ++ l)))) (radd_any bs (stD k) ls hs (by omega) ((k + 1 : Nat) : Int) (stN k) (lq ++ (rhoC bw bs bt :: (lt ++ l))))
    simp only [List.cons_append, List.append_assoc] at HA HR ⊢
    have hfin : ∀ (lq ls2 : List Chunk), IsH b (stD (k + 1), []) lq → IsR bs (stD (k + 1)) ls2 → (k + 1 ≤ 3 ∧ IsH b (stD (k + 1), []) lq ∧ IsRH bw (stD (k + 1), []) (rhoC bw bs bt :: (ls2 ++ lt))) := fun lq ls2 h1 h2 => ⟨by omega, h1, ⟨bs, bt, ls2, lt, rfl, h2, ht⟩⟩
    by_cases h2 : k = 2
    case' pos =>
      rw [show stN k = 2 by rw [h2]; rfl] at HA HR
      have e1 : stD (k + 1) = (addN (stD k) ((k + 1 : Nat) : Int) 2).2 := by rw [h2]; rfl
    case' neg =>
      rw [show stN k = 4 by unfold stN; split; omega; rfl] at HA HR
      have e1 : stD (k + 1) = (addN (stD k) ((k + 1 : Nat) : Int) 4).2 := by show (addN (stD k) _ (stN k)).2 = _; rw [show stN k = 4 by unfold stN; split; omega; rfl]
    all_goals
      refine gzU ?_
      refine t_e (e_call rfl rfl HA) rfl rfl rfl ?_
      rintro _ _ ⟨rfl, lq1, hq1, rfl⟩
      have hm : rhoC bw bs bt ∈ lq1 ++ rhoC bw bs bt :: (ls ++ (lt ++ l)) := List.mem_append_right _ (.head _)
      refine gzU ?_
      refine t_e (e_call rfl rfl (HR lq1)) rfl rfl rfl ?_
      rintro _ _ ⟨rfl, ls1, hs1, rfl⟩
      rw [← e1] at hs1
      rw [← e1] at hq1
      refine gzU ?_
      exact k_next (k + 1, lq1, rhoC bw bs bt :: (ls1 ++ lt)) (hfin _ _ hq1 hs1) (by simp only; omega) ⟨rfl, rfl, rfl, trivial⟩ (.of_perm (.of_eq (by simp)))
  · obtain rfl : k = 3 := by omega
    refine gzU ?_
    exact k_ret [] rfl .refl (by exact zRes) ⟨b, bw, lq, lr, rfl, hq, hr, rfl⟩
theorem IsH.ulen {b n : Nat} {H : HS} {lq : List Chunk} (hq : IsH b H lq) (hI : InvH H n) (hn : n ≤ 1000) : (usedD H.1).length ≤ 32000 := by
  obtain ⟨bs, bt, ls, lt, hb⟩ := hq
  have h1 := usedD_len fun x hx => (hb.s.sz x hx).2
  have h2 := (hI.small hn).1
  omega
def W1 : HS := ((addN [] 7 4).2, [])
abbrev cA : CapT := ⟨8, 3, 7, 0, 0, 0, 0, 0⟩
abbrev cB : CapT := ⟨8, 3, 1, 0, 0, 0, 0, 0⟩
def W2 : HS := (rootH W1 (7, 0) cA).2
def W3 : HS := (derH W2 (7, 0) (7, 1) (copyC (atD W2.1 (7, 0)) 1)).2
theorem cA_w : CapW cA := ⟨by decide, by decide⟩
theorem inv_1 : InvH W1 1 := InvH.nil.add 7 4
theorem inv_2 : InvH W2 2 := inv_1.root _ _ cA_w
theorem inv_3 : InvH W3 3 := inv_2.der _ _ _ (copy_w (inv_2.at _).2 _)
theorem wk1 : (addN [] 7 4).1 = 0 := by decide +kernel
theorem wk2 : (rootH W1 (7, 0) cA).1 = 0 := by decide +kernel
theorem wk3 : (derH W2 (7, 0) (7, 1) (copyC (atD W2.1 (7, 0)) 1)).1 = 0 := by decide +kernel
theorem wk4 : getD' W3.1 (7, 1) = (cB, 0) := by kernel_rfl
theorem wk5 : finalH W3 (7, 0) = false := by decide +kernel
theorem wk6 : Tr.belowD W3.2 (7, 0) = [(7, 1)] := by decide +kernel
theorem awake_any (l : List Chunk) : Fn Tryz.prog 8 [] l fun v l' => v = .bool true ∧ ∃ X, l' = X ++ l := by
  refine fn_of_body Tryz.func8 rfl rfl fun E => ?_
  simp only [argF, Tryz.ntmps8]
  refine gzU ?_
  refine t_e (e_call0 rfl rfl (hnew_any _)) rfl rfl rfl ?_
  rintro _ _ ⟨b, rfl, lq, hq, rfl⟩
  have HA := haddN_any b ([], []) lq hq 7 4 l
  have HB := fun lq (hq : IsH b W1 lq) => hroot_any b W1 1 inv_1 lq hq (7, 0) cA l
  have HC := fun lq (hq : IsH b W2 lq) => hcopy_any b W2 2 inv_2 (by decide) lq hq (7, 0) (7, 1) 1 l
  rw [wk1] at HA
  rw [wk2] at HB
  rw [wk3] at HC
  refine gzU ?_
  refine t_eh (e_call0 rfl rfl HA) rfl rfl rfl ?_
  rintro _ _ ⟨rfl, lq, hq, rfl⟩
  refine gzU ?_
  refine t_eh (e_call rfl rfl (HB lq hq)) rfl rfl rfl ?_
  rintro _ _ ⟨rfl, lq, hq, rfl⟩
  refine gzU ?_
  refine t_eh (e_call rfl rfl (HC lq hq)) rfl rfl rfl ?_
  rintro _ _ ⟨rfl, lq, hq, rfl⟩
  have hul : (usedD W3.1).length ≤ 32000 := IsH.ulen (H := W3) hq inv_3 (by decide)
  have HG := fun l2 (h : ∀ c, c ∈ lq → c ∈ l2) => hget_any b W3 lq hq (7, 1) l2 h
  have HF := fun l2 (h : ∀ c, c ∈ lq → c ∈ l2) => hfinal_any b W3 3 inv_3 (by decide) lq hq (7, 0) (by omega) l2 h
  have HW := fun l2 (h : ∀ c, c ∈ lq → c ∈ l2) => hbelow_any b W3 lq hq (by decide) (7, 0) l2 h
  rw [wk4] at HG
  rw [wk5] at HF
  rw [wk6] at HW
  refine gzU ?_
  refine t_q (q_call rfl rfl fun l2 hl => HG l2 fun c hc => hl _ (List.mem_append_left _ hc)) rfl rfl rfl ?_
  refine gzU ?_
  refine t_e e_alloc rfl rfl rfl ?_; rintro _ _ ⟨b3, _, rfl, rfl⟩
  refine gzU ?_
  refine t_h (q_call rfl rfl fun l2 hl => HF l2 fun c hc => hl _ (.tail _ (List.mem_append_left _ hc))) rfl rfl rfl ?_
  refine gzU ?_
  refine t_eh (e_call0 rfl rfl (HW _ fun c hc => .tail _ (List.mem_append_left _ hc))) rfl rfl rfl ?_
  rintro v _ ⟨cs, ho, rfl⟩
  refine gzU ?_
  refine t_eh (e_litA (ws := encT (7, 1)) (k := 2) rfl rfl rfl (by decide) (by decide)) rfl rfl rfl ?_
  rintro _ _ ⟨bl, _, rfl, rfl⟩
  refine t_h (q_call rfl rfl fun l2 hl => Tr.sameSlots_any encT Tr.encT_inj Tr.encT_k _ _ [(7, 1)] [(7, 1)] l2 (OwnSl.rowSl (enc := encT) ho (fun _ => rfl) fun c hc => hl _ (.tail _ (List.mem_append_left _ hc))) ⟨_, 1, rfl, fun _ => ⟨bl, 0, _, _, _, rfl, hl _ (.head _), fun i x hx => ?_⟩⟩ (by decide)) rfl rfl rfl ?_
  · match i, hx with
    | 0, hx => cases hx; exact ⟨by simp, by simp⟩
  rw [decide_eq_true rfl]
  refine gzU ?_
  exact k_ret [] rfl (l' := (cs ++ lq) ++ l) (keep_ac (A := (bl, Obj.cells (List.toArray (encT (7, 1))) 30 (0, 0)) :: (cs ++ (capC b3 cB :: (lq ++ l)))) [(bl, Obj.cells (List.toArray (encT (7, 1))) 30 (0, 0)), capC b3 cB]) (by exact zRes) ⟨rfl, _, rfl⟩
end Go.Proofs.YtpplknmmjlgadaaGreat

/- hold: both tell the same; HoldScript. -/
-- GU
set_option linter.unusedVariables false
set_option linter.unusedSimpArgs false
namespace Go.Proofs.YtpplknmmjlgadaaGreat
open Go.RowKit
set_option maxRecDepth 20000


end Go.Proofs.YtpplknmmjlgadaaGreat
namespace Go.Proofs.YtpplknmmjlgadaaGreat.Tr
open Go.RowKit
theorem nV_inj : ∀ x y, nV x = nV y → x = y := fun x y h => by
  simp only [nV, List.cons.injEq, Value.int.injEq, true_and, and_true] at h
  exact Prod.ext (Prod.ext h.1 h.2.1) h.2.2
theorem nV_k : ∀ x, AllK [some .i64, some .i64, some .i64] (nV x) := fun a => ⟨_, _, rfl, ⟨_, rfl⟩, _, _, rfl, ⟨_, rfl⟩, _, _, rfl, ⟨_, rfl⟩, rfl⟩
theorem below_len (D : DT) (s : SlotT) : (belowD D s).length ≤ D.length := by
  unfold belowD
  cases h : splitD s D with
  | none => simp
  | some z =>
    obtain ⟨A, d, B⟩ := z
    simp only
    rw [List.length_map, (splitD_some h).1]
    have := (List.takeWhile_prefix (l := B) fun x => decide (d < x.2)).length_le
    simp; omega
end Go.Proofs.YtpplknmmjlgadaaGreat.Tr
namespace Go.Proofs.YtpplknmmjlgadaaGreat
open Go.RowKit
set_option maxRecDepth 20000
set_option pp.deepTerms false
set_option pp.deepTerms.threshold 4
set_option maxHeartbeats 400000
theorem both_any (b bw : Nat) (H : HS) (n : Nat) (hI : InvH H n) (hn : n ≤ 1000) (lq lr : List Chunk) (hq : IsH b H lq) (hr : IsRH bw H lr) (s : slT) (l : List Chunk) (hs1 : ∀ c, c ∈ lq → c ∈ l) (hs2 : ∀ c, c ∈ lr → c ∈ l) :
    Fn Tryz.prog 11 [.pointer (some ⟨b, 0, none⟩), .pointer (some ⟨bw, 0, none⟩), .agg (List.toArray (encT s))] l fun v l' => v = .bool true ∧ ∃ X, l' = X ++ l := by
  obtain ⟨z1, z2, z3⟩ := hI.small hn
  have hul := hq.ulen hI hn
  letI : DecidableEq HdT := fun _ _ => Classical.propDecidable _
  have hq0 := hq
  have hr0 := hr
  obtain ⟨qs, qt, qls, qlt, hqb⟩ := hq
  obtain ⟨bs, bt, ls, lt, hb⟩ := hr
  have hmr : rhoC bw bs bt ∈ l := hs2 _ hb.h
  obtain ⟨vt, ct, hlt, hot⟩ := hb.t
  have hmt : Tr.rcC bt vt ∈ l := hs2 _ (hb.m2 _ (by rw [hlt]; exact .head _))
  have hct : ∀ c, c ∈ ct → c ∈ l := fun c hc => hs2 _ (hb.m2 _ (by rw [hlt]; exact .tail _ hc))
  refine fn_of_body Tryz.func11 rfl rfl fun E => ?_
  simp only [argF, Tryz.ntmps11]
  refine gzU ?_
  (first | refine t_e (e_box1 rfl rfl) rfl rfl rfl ?_ | refine t_e (e_boxA rfl) rfl rfl rfl ?_); rintro _ _ ⟨b5, _, rfl, rfl⟩
  refine gzU ?_
  refine t_q (q_call rfl rfl fun l2 hl => hget_any b H lq hq0 s l2 fun c hc => hl _ (.tail _ (hs1 c hc))) rfl rfl rfl ?_
  obtain ⟨d, hd⟩ : ∃ d, (getD' H.1 s).1 = d := ⟨_, rfl⟩
  obtain ⟨e, he⟩ : ∃ e, (getD' H.1 s).2 = e := ⟨_, rfl⟩
  have HG := fun l2 (h : ∀ c, c ∈ ls → c ∈ l2) => rget_any bs H.1 ls hb.s (by omega) s l2 h
  rw [hd, he] at HG ⊢
  refine gzU ?_
  refine t_e e_alloc rfl rfl rfl ?_; rintro _ _ ⟨b7, _, rfl, rfl⟩
  refine gzU ?_
  refine c_draw [(0, true), (1, true), (2, true), (3, true), (4, true), (5, true), (6, true), (7, true), (8, true), (9, false), (10, false), (11, true)] [[], [0], [0, 1], [0, 1, 2], [], [0, 1, 2, 3, 4], [0, 1, 2, 3, 4, 5], [0, 1, 2, 3, 4, 5, 6], [0, 1, 2, 3, 4, 5, 6], [], [0, 1, 2, 3, 4, 5, 6, 7, 9], [0, 1, 2, 3, 4, 5, 6, 7, 8, 9, 10]] _ (by kernel_rfl) (by kernel_rfl) zAtt (fun _ h => h) ?_
  refine pzU ?_
  refine pl_h (q_call rfl rfl fun l2 hl => HG l2 fun c hc => hl _ (.tail _ (.tail _ (hs2 _ (hb.m1 c hc))))) rfl rfl rfl ?_
  refine pzU ?_
  apply pl_e
  · exact e_alloc
  · rfl
  · rfl
  · rfl
  · rintro _ _ ⟨b9, _, _, rfl⟩ z hz
    exact .tail _ hz
  rintro _ _ ⟨b9, _, rfl, rfl⟩
  refine pzU ?_
  refine gzU ?_
  obtain ⟨F, hF⟩ : ∃ F, F = capC b9 d :: capC b7 d :: slC b5 s :: l := ⟨_, rfl⟩
  have f9 : capC b9 d ∈ F := by rw [hF]; exact .head _
  have f7 : capC b7 d ∈ F := by rw [hF]; exact .tail _ (.head _)
  have f5 : slC b5 s ∈ F := by rw [hF]; exact .tail _ (.tail _ (.head _))
  have fl : ∀ c, c ∈ l → c ∈ F := fun c hc => by rw [hF]; exact .tail _ (.tail _ (.tail _ hc))
  refine c_keep (l' := F) (by rw [hF]; exact .refl) ?_
  have HU := fun X => hused_any b H lq hq0 z1 (X ++ F) fun c hc => List.mem_append_right _ (fl _ (hs1 c hc))
  have HT := fun X => htree_any b H lq hq0 z2 (X ++ F) fun c hc => List.mem_append_right _ (fl _ (hs1 c hc))
  have HB := fun X => hbelow_any b H lq hq0 z2 s (X ++ F) fun c hc => List.mem_append_right _ (fl _ (hs1 c hc))
  refine c_draw [(0, true), (2, true), (4, true), (5, true), (1, false), (3, false), (6, false), (7, true), (8, true), (9, true)] [[], [0], [], [0, 1, 2], [], [], [0, 1, 2, 3, 4, 5], [0, 1, 2, 3, 4, 5, 6], [0, 1, 2, 3, 4, 5, 6, 7], [0, 1, 2, 3, 4, 5, 6, 7, 8]] (F) (by kernel_rfl) (by kernel_rfl) zAtt zHR ?_
  refine pzU ?_
  apply pl_e
  · exact e_call0 rfl rfl (HU [])
  · rfl
  · rfl
  · rfl
  · rintro _ _ ⟨c1, _, rfl⟩ z hz
    exact List.mem_append_right _ hz
  rintro v1 _ ⟨c1, ho1, rfl⟩
  rw [List.nil_append]
  refine pzU ?_
  apply pl_e
  · exact e_call0 rfl rfl (HT c1)
  · rfl
  · rfl
  · rfl
  · rintro _ _ ⟨c2, _, rfl⟩ z hz
    exact List.mem_append_right _ (List.mem_append_right _ hz)
  rintro v2 _ ⟨c2, ho2, rfl⟩
  refine pzU ?_
  have HB2 := HB (c2 ++ c1)
  rw [List.append_assoc] at HB2
  apply pl_e
  · exact e_call0 rfl rfl HB2
  · rfl
  · rfl
  · rfl
  · rintro _ _ ⟨c3, _, rfl⟩ z hz
    exact List.mem_append_right _ (List.mem_append_right _ (List.mem_append_right _ hz))
  rintro v3 _ ⟨c3, ho3, rfl⟩
  refine pzU ?_
  refine gzU ?_
  have o1 : v1.oneCell' = true := ho1.one
  have o2 : v2.oneCell' = true := ho2.one
  have o3 : v3.oneCell' = true := ho3.one
  obtain ⟨R, hR⟩ : ∃ R, R = c3 ++ (c2 ++ (c1 ++ F)) := ⟨_, rfl⟩
  have mF : ∀ c, c ∈ F → c ∈ R := fun c hc => by rw [hR]; exact List.mem_append_right _ (List.mem_append_right _ (List.mem_append_right _ hc))
  have m1 : ∀ c, c ∈ c1 → c ∈ R := fun c hc => by rw [hR]; exact List.mem_append_right _ (List.mem_append_right _ (List.mem_append_left _ hc))
  have m2 : ∀ c, c ∈ c2 → c ∈ R := fun c hc => by rw [hR]; exact List.mem_append_right _ (List.mem_append_left _ hc)
  have m3 : ∀ c, c ∈ c3 → c ∈ R := fun c hc => by rw [hR]; exact List.mem_append_left _ hc
  have r9 := mF _ f9
  have r7 := mF _ f7
  have r5 := mF _ f5
  have rr := mF _ (fl _ hmr)
  have rt := mF _ (fl _ hmt)
  have ml : ∀ c, c ∈ l → c ∈ R := fun c hc => mF _ (fl _ hc)
  refine c_keep (l' := R) (by rw [hR]; exact .refl) ?_
  refine c_draw [(0, true), (1, true), (2, true), (3, true), (4, true), (5, true), (6, true), (7, true), (8, true), (9, true), (10, true), (11, true), (12, true), (13, true), (14, true), (15, false), (16, false), (17, true), (18, true), (19, true), (20, true), (21, true), (22, true), (23, true), (24, true), (25, true), (26, true), (27, true), (28, true), (29, true), (30, true), (31, true), (32, true), (33, true), (34, true), (35, true), (36, false), (37, false), (38, true), (39, true), (40, true), (41, true), (42, true), (43, true), (44, true), (45, false), (46, true), (47, true), (48, true), (49, true), (50, true), (52, true), (53, true), (54, true), (55, true), (51, false), (56, false), (57, false), (58, true), (59, true)] [[], [], [0, 1], [0, 1, 2], [0, 1, 2, 3], [0, 1, 2, 3, 4], [0, 1, 2, 3], [0, 1, 2, 3, 4, 5, 6], [0, 1, 2, 3, 4, 5, 6, 7], [0, 1, 2, 3, 4, 5, 6, 7, 8], [0, 1, 2, 3, 4, 5, 6, 7, 8, 9], [0, 1, 2, 3, 4, 5, 6, 7, 8, 9], [0, 1, 2, 3, 4, 5, 6, 7, 8, 9, 11], [0, 1, 2, 3, 4, 5, 6, 7, 8, 9, 11, 12], [0, 1, 2, 3, 4, 5, 6, 7, 8, 9, 11, 12, 13], [0, 1, 2, 3, 4, 5, 6, 7, 8, 9, 11, 12, 13, 14], [0, 1, 2, 3, 4, 5, 6, 7, 8, 9, 10, 11, 12, 13, 14, 15], [0, 1, 2, 3, 4, 5, 6, 7, 8, 9, 10, 11, 12, 13, 14, 15, 16], [0, 1, 2, 3, 4, 5, 6, 7, 8, 9, 10, 11, 12, 13, 14, 15, 16, 17], [0, 1, 2, 3, 4, 5, 6, 7, 8, 9, 10, 11, 12, 13, 14, 15, 16, 17, 18], [0, 1, 2, 3, 4, 5, 6, 7, 8, 9, 10, 11, 12, 13, 14, 15, 16, 17, 18], [0, 1, 2, 3, 4, 5, 6, 7, 8, 9, 10, 11, 12, 13, 14, 15, 16, 17, 18, 20], [0, 1, 2, 3, 4, 5, 6, 7, 8, 9, 10, 11, 12, 13, 14, 15, 16, 17, 18, 20, 21], [0, 1, 2, 3, 4, 5, 6, 7, 8, 9, 10, 11, 12, 13, 14, 15, 16, 17, 18, 20, 21, 22], [0, 1, 2, 3, 4, 5, 6, 7, 8, 9, 10, 11, 12, 13, 14, 15, 16, 17, 18, 20, 21, 22, 23], [0, 1, 2, 3, 4, 5, 6, 7, 8, 9, 10, 11, 12, 13, 14, 15, 16, 17, 18, 20, 21, 22, 23, 24], [0, 1, 2, 3, 4, 5, 6, 7, 8, 9, 10, 11, 12, 13, 14, 15, 16, 17, 18, 20, 21, 22, 23, 24, 25], [0, 1, 2, 3, 4, 5, 6, 7, 8, 9, 10, 11, 12, 13, 14, 15, 16, 17, 18, 19, 20, 21, 22, 23, 24, 25, 26], [0, 1, 2, 3, 4, 5, 6, 7, 8, 9, 10, 11, 12, 13, 14, 15, 16, 17, 18, 19, 20, 21, 22, 23, 24, 25, 26, 27], [0, 1, 2, 3, 4, 5, 6, 7, 8, 9, 10, 11, 12, 13, 14, 15, 16, 17, 18, 19, 20, 21, 22, 23, 24, 25, 26, 27, 28], [0, 1, 2, 3, 4, 5, 6, 7, 8, 9, 10, 11, 12, 13, 14, 15, 16, 17, 18, 19, 20, 21, 22, 23, 24, 25, 26, 27, 28, 29], [0, 1, 2, 3, 4, 5, 6, 7, 8, 9, 10, 11, 12, 13, 14, 15, 16, 17, 18, 19, 20, 21, 22, 23, 24, 25, 26, 27, 28, 29], [0, 1, 2, 3, 4, 5, 6, 7, 8, 9, 10, 11, 12, 13, 14, 15, 16, 17, 18, 19, 20, 21, 22, 23, 24, 25, 26, 27, 28, 29, 31], [0, 1, 2, 3, 4, 5, 6, 7, 8, 9, 10, 11, 12, 13, 14, 15, 16, 17, 18, 19, 20, 21, 22, 23, 24, 25, 26, 27, 28, 29, 31, 32], [0, 1, 2, 3, 4, 5, 6, 7, 8, 9, 10, 11, 12, 13, 14, 15, 16, 17, 18, 19, 20, 21, 22, 23, 24, 25, 26, 27, 28, 29, 31, 32, 33], [0, 1, 2, 3, 4, 5, 6, 7, 8, 9, 10, 11, 12, 13, 14, 15, 16, 17, 18, 19, 20, 21, 22, 23, 24, 25, 26, 27, 28, 29], [0, 1, 2, 3, 4, 5, 6, 7, 8, 9, 10, 11, 12, 13, 14, 15, 16, 17, 18, 19, 20, 21, 22, 23, 24, 25, 26, 27, 28, 29, 31, 32, 33, 34, 35], [0, 1, 2, 3, 4, 5, 6, 7, 8, 9, 10, 11, 12, 13, 14, 15, 16, 17, 18, 19, 20, 21, 22, 23, 24, 25, 26, 27, 28, 29, 30, 31, 32, 33, 34, 35, 36], [0, 1, 2, 3, 4, 5, 6, 7, 8, 9, 10, 11, 12, 13, 14, 15, 16, 17, 18, 19, 20, 21, 22, 23, 24, 25, 26, 27, 28, 29, 30, 31, 32, 33, 34, 35, 36, 37], [0, 1, 2, 3, 4, 5, 6, 7, 8, 9, 10, 11, 12, 13, 14, 15, 16, 17, 18, 19, 20, 21, 22, 23, 24, 25, 26, 27, 28, 29, 30, 31, 32, 33, 34, 35, 36, 37, 38], [0, 1, 2, 3, 4, 5, 6, 7, 8, 9, 10, 11, 12, 13, 14, 15, 16, 17, 18, 19, 20, 21, 22, 23, 24, 25, 26, 27, 28, 29, 30, 31, 32, 33, 34, 35, 36, 37, 38, 39], [0, 1, 2, 3, 4, 5, 6, 7, 8, 9, 10, 11, 12, 13, 14, 15, 16, 17, 18, 19, 20, 21, 22, 23, 24, 25, 26, 27, 28, 29, 30, 31, 32, 33, 34, 35, 36, 37, 38, 39], [0, 1, 2, 3, 4, 5, 6, 7, 8, 9, 10, 11, 12, 13, 14, 15, 16, 17, 18, 19, 20, 21, 22, 23, 24, 25, 26, 27, 28, 29, 30, 31, 32, 33, 34, 35, 36, 37, 38, 39, 40, 41], [0, 1, 2, 3, 4, 5, 6, 7, 8, 9, 10, 11, 12, 13, 14, 15, 16, 17, 18, 19, 20, 21, 22, 23, 24, 25, 26, 27, 28, 29, 30, 31, 32, 33, 34, 35, 36, 37, 38, 39], [0, 1, 2, 3, 4, 5, 6, 7, 8, 9, 10, 11, 12, 13, 14, 15, 16, 17, 18, 19, 20, 21, 22, 23, 24, 25, 26, 27, 28, 29, 30, 31, 32, 33, 34, 35, 36, 37, 38, 39], [0, 1, 2, 3, 4, 5, 6, 7, 8, 9, 10, 11, 12, 13, 14, 15, 16, 17, 18, 19, 20, 21, 22, 23, 24, 25, 26, 27, 28, 29, 30, 31, 32, 33, 34, 35, 36, 37, 38, 39, 40, 41, 42, 43, 44], [0, 1, 2, 3, 4, 5, 6, 7, 8, 9, 10, 11, 12, 13, 14, 15, 16, 17, 18, 19, 20, 21, 22, 23, 24, 25, 26, 27, 28, 29, 30, 31, 32, 33, 34, 35, 36, 37, 38, 39, 40, 41, 42, 43, 44, 45], [0, 1, 2, 3, 4, 5, 6, 7, 8, 9, 10, 11, 12, 13, 14, 15, 16, 17, 18, 19, 20, 21, 22, 23, 24, 25, 26, 27, 28, 29, 30, 31, 32, 33, 34, 35, 36, 37, 38, 39, 40, 41, 42, 43, 44, 45, 46], [0, 1, 2, 3, 4, 5, 6, 7, 8, 9, 10, 11, 12, 13, 14, 15, 16, 17, 18, 19, 20, 21, 22, 23, 24, 25, 26, 27, 28, 29, 30, 31, 32, 33, 34, 35, 36, 37, 38, 39, 40, 41, 42, 43, 44, 45, 46, 47], [0, 1, 2, 3, 4, 5, 6, 7, 8, 9, 10, 11, 12, 13, 14, 15, 16, 17, 18, 19, 20, 21, 22, 23, 24, 25, 26, 27, 28, 29, 30, 31, 32, 33, 34, 35, 36, 37, 38, 39, 40, 41, 42, 43, 44, 45, 46, 47, 48], [0, 1, 2, 3, 4, 5, 6, 7, 8, 9, 10, 11, 12, 13, 14, 15, 16, 17, 18, 19, 20, 21, 22, 23, 24, 25, 26, 27, 28, 29, 30, 31, 32, 33, 34, 35, 36, 37, 38, 39, 40, 41, 42, 43, 44, 45, 46, 47, 48, 49], [0, 1, 2, 3, 4, 5, 6, 7, 8, 9, 10, 11, 12, 13, 14, 15, 16, 17, 18, 19, 20, 21, 22, 23, 24, 25, 26, 27, 28, 29, 30, 31, 32, 33, 34, 35, 36, 37, 38, 39, 40, 41, 42, 43, 44, 45, 46, 47, 48, 49, 50], [0, 1, 2, 3, 4, 5, 6, 7, 8, 9, 10, 11, 12, 13, 14, 15, 16, 17, 18, 19, 20, 21, 22, 23, 24, 25, 26, 27, 28, 29, 30, 31, 32, 33, 34, 35, 36, 37, 38, 39, 40, 41, 42, 43, 44, 45, 46, 47, 48], [0, 1, 2, 3, 4, 5, 6, 7, 8, 9, 10, 11, 12, 13, 14, 15, 16, 17, 18, 19, 20, 21, 22, 23, 24, 25, 26, 27, 28, 29, 30, 31, 32, 33, 34, 35, 36, 37, 38, 39, 40, 41, 42, 43, 44, 45, 46, 47, 48, 52], [0, 1, 2, 3, 4, 5, 6, 7, 8, 9, 10, 11, 12, 13, 14, 15, 16, 17, 18, 19, 20, 21, 22, 23, 24, 25, 26, 27, 28, 29, 30, 31, 32, 33, 34, 35, 36, 37, 38, 39, 40, 41, 42, 43, 44, 45, 46, 47, 48, 52, 53], [0, 1, 2, 3, 4, 5, 6, 7, 8, 9, 10, 11, 12, 13, 14, 15, 16, 17, 18, 19, 20, 21, 22, 23, 24, 25, 26, 27, 28, 29, 30, 31, 32, 33, 34, 35, 36, 37, 38, 39, 40, 41, 42, 43, 44, 45, 46, 47, 48, 52, 53, 54], [0, 1, 2, 3, 4, 5, 6, 7, 8, 9, 10, 11, 12, 13, 14, 15, 16, 17, 18, 19, 20, 21, 22, 23, 24, 25, 26, 27, 28, 29, 30, 31, 32, 33, 34, 35, 36, 37, 38, 39, 40, 41, 42, 43, 44, 45, 46, 47, 48, 49, 50, 51, 52, 53, 54, 55], [0, 1, 2, 3, 4, 5, 6, 7, 8, 9, 10, 11, 12, 13, 14, 15, 16, 17, 18, 19, 20, 21, 22, 23, 24, 25, 26, 27, 28, 29, 30, 31, 32, 33, 34, 35, 36, 37, 38, 39, 40, 41, 42, 43, 44, 45, 46, 47, 48, 49, 50, 51, 52, 53, 54, 55, 56], [0, 1, 2, 3, 4, 5, 6, 7, 8, 9, 10, 11, 12, 13, 14, 15, 16, 17, 18, 19, 20, 21, 22, 23, 24, 25, 26, 27, 28, 29, 30, 31, 32, 33, 34, 35, 36, 37, 38, 39, 40, 41, 42, 43, 44, 45, 46, 47, 48, 49, 50, 51, 52, 53, 54, 55, 56, 57], [0, 1, 2, 3, 4, 5, 6, 7, 8, 9, 10, 11, 12, 13, 14, 15, 16, 17, 18, 19, 20, 21, 22, 23, 24, 25, 26, 27, 28, 29, 30, 31, 32, 33, 34, 35, 36, 37, 38, 39, 40, 41, 42, 43, 44, 45, 46, 47, 48, 49, 50, 51, 52, 53, 54, 55, 56, 57, 58]] _ (by kernel_rfl) (by kernel_rfl) zAtt (fun _ h => h) ?_
  refine pzU ?_
  refine pl_h (q_eqagg (xs := encC d) (ys := encC d) rfl rfl (encC_k d) (encC_k d)) rfl rfl rfl ?_
  rw [eqCells_self (encC_k d)]
  refine pzU ?_
  refine pl_h (q_call rfl rfl (fun l hl => num_any _ l)) rfl rfl rfl ?_
  refine pzU ?_
  apply pl_geS
  · exact e_call0 rfl rfl (rused_any bs H.1 ls hb.s (by omega) hI.valD _ (fun c hc => by repeat (first | exact ml _ (hs2 _ (hb.m1 c hc)) | apply List.mem_append_right)))
  · rfl
  · rfl
  · rfl
  · rintro _ _ ⟨u1, _, rfl⟩
    intro c hc; repeat (first | exact hc | apply List.mem_append_right)
  · intro _ _ _ _ h
    cases h
  rintro w1 _ ⟨u1, p1, rfl⟩
  obtain ⟨U, hU⟩ : ∃ U, usedD H.1 = U := ⟨_, rfl⟩
  rw [hU] at ho1 p1 hul HU
  refine pzU ?_
  apply pl_geS
  · exact e_call0 rfl rfl (sameHeld_any encE encE_inj encE_k v1 w1 U U _ (ho1.hds' fun c hc => List.mem_append_right _ (m1 c hc)) (p1.hds' fun c hc => List.mem_append_left _ hc) (by omega))
  · rfl
  · rfl
  · rfl
  · rintro _ _ ⟨_, rfl⟩
    intro c hc; repeat (first | exact hc | apply List.mem_append_right)
  · intro _ _ _ _ h
    cases h
  rintro _ _ ⟨rfl, rfl⟩
  rw [decide_eq_true (rfl : U = _)]
  refine pzU ?_
  refine pl_h (q_call rfl rfl fun l2 hl => Tr.sameNodes_any Tr.nV Tr.nV_inj Tr.nV_k v2 vt H.2 H.2 l2 (ho2.nodes fun c hc => hl _ (m2 c hc)) (hot.nodes fun c hc => hl _ (ml _ (hct c hc))) (by omega)) rfl rfl rfl ?_
  rw [decide_eq_true (rfl : H.2 = _)]
  refine pzU ?_
  apply pl_geS
  · exact e_call0 rfl rfl (Tr.rbelow_any bt H.2 lt hb.t (by omega) s _ (fun c hc => by repeat (first | exact ml _ (hs2 _ (hb.m2 c hc)) | apply List.mem_append_right)))
  · rfl
  · rfl
  · rfl
  · rintro _ _ ⟨u2, _, rfl⟩
    intro c hc; repeat (first | exact hc | apply List.mem_append_right)
  · intro _ _ _ _ h
    cases h
  rintro w2 _ ⟨u2, p2, rfl⟩
  have hbl := Tr.below_len H.2 s
  obtain ⟨B, hB⟩ : ∃ B, Tr.belowD H.2 s = B := ⟨_, rfl⟩
  rw [hB] at ho3 p2 hbl
  refine pzU ?_
  apply pl_geS
  · exact e_call0 rfl rfl (Tr.sameSlots_any Tr.encT Tr.encT_inj Tr.encT_k v3 w2 B B _ (OwnSl.rowSl (enc := Tr.encT) ho3 (fun _ => rfl) fun c hc => List.mem_append_right _ (List.mem_append_right _ (m3 c hc))) (OwnSl.rowSl (enc := Tr.encT) p2 (fun _ => rfl) fun c hc => List.mem_append_left _ hc) (by omega))
  · rfl
  · rfl
  · rfl
  · rintro _ _ ⟨_, rfl⟩
    intro c hc; repeat (first | exact hc | apply List.mem_append_right)
  · intro _ _ _ _ h
    cases h
  rintro _ _ ⟨rfl, rfl⟩
  rw [decide_eq_true (rfl : B = _)]
  refine pzU ?_
  refine pl_h (q_call rfl rfl fun l2 hl => hfinal_any b H n hI hn lq hq0 s (by rw [hU]; omega) l2 fun c hc => hl _ (ml _ (hs1 c hc))) rfl rfl rfl ?_
  refine pzU ?_
  apply pl_geS
  · exact e_call0 rfl rfl (rhfinal_any bw H n hI hn lr hr0 s (by rw [hU]; omega) _ (fun c hc => by repeat (first | exact ml _ (hs2 c hc) | apply List.mem_append_right)))
  · rfl
  · rfl
  · rfl
  · rintro _ _ ⟨_, u3, rfl⟩
    intro c hc; repeat (first | exact hc | apply List.mem_append_right)
  · intro _ _ _ _ h
    cases h
  rintro _ _ ⟨rfl, u3, rfl⟩
  refine pzU ?_
  rw [beq_self_eq_true]
  refine pzU ?_
  refine pl_h (q_call rfl rfl fun l2 hl => hslots_any b qs qt l2 (hl _ (ml _ (hs1 _ hqb.h)))) rfl rfl rfl ?_
  refine pzU ?_
  apply pl_geS
  · exact e_call0 rfl rfl (all_any qs H.1 qls hqb.s (by omega) _ (fun c hc => by repeat (first | exact ml _ (hs1 _ (hqb.m1 c hc)) | apply List.mem_append_right)))
  · rfl
  · rfl
  · rfl
  · rintro _ _ ⟨u4, _, rfl⟩
    intro c hc; repeat (first | exact hc | apply List.mem_append_right)
  · intro _ _ _ _ h
    cases h
  rintro w4 _ ⟨u4, p4, rfl⟩
  rw [hU] at p4
  refine pzU ?_
  apply pl_geS
  · exact e_call0 rfl rfl (rused_any bs H.1 ls hb.s (by omega) hI.valD _ (fun c hc => by repeat (first | exact ml _ (hs2 _ (hb.m1 c hc)) | apply List.mem_append_right)))
  · rfl
  · rfl
  · rfl
  · rintro _ _ ⟨u5, _, rfl⟩
    intro c hc; repeat (first | exact hc | apply List.mem_append_right)
  · intro _ _ _ _ h
    cases h
  rintro w5 _ ⟨u5, p5, rfl⟩
  rw [hU] at p5
  refine pzU ?_
  apply pl_geS
  · exact e_call0 rfl rfl (sameHeld_any encE encE_inj encE_k w4 w5 U U _ (p4.hds' fun c hc => List.mem_append_right _ (List.mem_append_left _ hc)) (p5.hds' fun c hc => List.mem_append_left _ hc) (by omega))
  · rfl
  · rfl
  · rfl
  · rintro _ _ ⟨_, rfl⟩
    intro c hc; repeat (first | exact hc | apply List.mem_append_right)
  · intro _ _ _ _ h
    cases h
  rintro _ _ ⟨rfl, rfl⟩
  rw [decide_eq_true (rfl : U = _)]
  refine pzU ?_
  refine gzU ?_
  have hlen2 := z2
  obtain ⟨X, hX⟩ : ∃ X, X = u5 ++ (u4 ++ (u3 ++ (u2 ++ u1))) := ⟨_, rfl⟩
  refine s_keep (l' := c1 ++ (X ++ (c3 ++ (c2 ++ F)))) (by rw [hR, hX]; exact keep_ac (A := u5 ++ (u4 ++ (u3 ++ (u2 ++ (u1 ++ (c3 ++ (c2 ++ (c1 ++ F)))))))) []) ?_
  refine gzU ?_
  refine t_e (e_call0 rfl rfl (overHeld_any v1 _ _ c1 _ ho1 (by omega))) rfl rfl rfl ?_
  rintro _ _ ⟨rfl, X1, rfl⟩
  refine gzU ?_
  refine s_keep (l' := c2 ++ (X1 ++ (X ++ (c3 ++ F)))) (keep_ac []) ?_
  refine t_e (e_call0 rfl rfl (Tr.overNodes_any v2 _ _ c2 _ ho2 (by omega))) rfl rfl rfl ?_
  rintro _ _ ⟨rfl, X2, rfl⟩
  refine gzU ?_
  refine s_keep (l' := c3 ++ (X2 ++ (X1 ++ (X ++ F)))) (keep_ac []) ?_
  refine t_e (e_call0 rfl rfl (Tr.overSlots_any v3 _ _ c3 _ ho3 (by omega))) rfl rfl rfl ?_
  rintro _ _ ⟨rfl, X3, rfl⟩
  refine gzU ?_
  exact k_ret [] rfl (l' := (X3 ++ (X2 ++ (X1 ++ X))) ++ l) (by rw [hF]; exact keep_ac [capC b9 d, capC b7 d, slC b5 s]) (by exact zRes) ⟨rfl, _, rfl⟩
end Go.Proofs.YtpplknmmjlgadaaGreat

/- HoldScript: the walk. -/
-- GU
set_option linter.unusedVariables false
set_option linter.unusedSimpArgs false
namespace Go.Proofs.YtpplknmmjlgadaaGreat
open Go.RowKit
set_option maxRecDepth 20000

theorem hacts_of : ∀ {rows : List (List Value)}, (∀ r, r ∈ rows → ∃ x : AcH, r = encK x ∧ OkA x) → ∃ xs : List AcH, rows = xs.map encK ∧ ∀ x, x ∈ xs → OkA x
  | [], _ => ⟨[], rfl, fun x hx => by cases hx⟩
  | r :: rows, h => by
    obtain ⟨x, hx, hg⟩ := h r List.mem_cons_self
    obtain ⟨xs, hxs, hgs⟩ := hacts_of fun r' hr' => h r' (List.mem_cons_of_mem _ hr')
    exact ⟨x :: xs, by rw [hx, hxs]; rfl, fun y hy => by
      rcases List.mem_cons.1 hy with rfl | hy
      · exact hg
      · exact hgs y hy⟩
theorem i64_le {a : Int} (h : (Lit.int .i64 a).wf = true) : a ≤ 9223372036854775807 := by
  simp [Lit.wf, IntKind.min, IntKind.max, IntKind.signed, IntKind.bits] at h
  omega
theorem u64_of {a : Int} (h : (Lit.int .u64 a).wf = true) : ∃ n : Nat, a = n ∧ n < 18446744073709551616 := by
  simp [Lit.wf, IntKind.min, IntKind.max, IntKind.signed, IntKind.bits] at h
  exact ⟨a.toNat, by omega, by omega⟩
abbrev acK : List (Option IntKind) := [some .i64, some .i64, some .i64, some .i64, some .i64, some .i64, some .i64, some .i64, some .u64, some .i64, some .i64, some .i64, some .i64, some .i64, some .u64]
theorem hacts_rows {W : World} {a : Option Addr} {n cap : Nat} {rows : List (List Value)} (h : IsRows acK W a n cap rows) : ∃ acts : List AcH, acts.length = n ∧ InRows (allOf W) a n 15 (acts.map encK) ∧ ∀ x, x ∈ acts → OkA x := by
  obtain ⟨acts, hx, hg⟩ := hacts_of (rows := rows) fun r hr => by
    obtain ⟨_, _, rfl, ⟨d, rfl, _⟩, _, _, rfl, ⟨a1, rfl, _⟩, _, _, rfl, ⟨a2, rfl, _⟩, _, _, rfl, ⟨b1, rfl, _⟩, _, _, rfl, ⟨b2, rfl, _⟩, _, _, rfl, ⟨c0, rfl, _⟩, _, _, rfl, ⟨c1, rfl, _⟩, _, _, rfl, ⟨c2, rfl, _⟩, _, _, rfl, ⟨c3, rfl, w3⟩, _, _, rfl, ⟨c4, rfl, w4⟩, _, _, rfl, ⟨c5, rfl, _⟩, _, _, rfl, ⟨c6, rfl, _⟩, _, _, rfl, ⟨c7, rfl, _⟩, _, _, rfl, ⟨m, rfl, _⟩, _, _, rfl, ⟨w, rfl, ww⟩, rfl⟩ := h.all r hr
    obtain ⟨wn, rfl, hwn⟩ := u64_of ww
    obtain ⟨bn, rfl, _⟩ := u64_of w3
    exact ⟨⟨d, (a1, a2), (b1, b2), ⟨c0, c1, c2, (bn : Nat), c4, c5, c6, c7⟩, m, wn⟩, rfl, ⟨by simp only; omega, i64_le w4⟩, hwn⟩
  refine ⟨acts, ?_, ?_, hg⟩
  · have := h.size; rw [hx] at this; simpa using this
  · rw [← hx]; exact rows_in h (by decide)
set_option pp.deepTerms false
set_option pp.deepTerms.threshold 4
set_option maxHeartbeats 400000
theorem holdScript_any (a0 : Option Addr) (n cap : Nat) (acts : List AcH) (l : List Chunk) (hin : InRows l a0 n 15 (acts.map encK)) (hsz : acts.length = n) (hok : ∀ x, x ∈ acts → OkA x) :
    Fn Tryz.prog 3 [.slice a0 n cap] l fun v l' => v = .bool true ∧ ∃ c, l' = c ++ l := by
  refine fn_of_body Tryz.func3 rfl rfl fun E => ?_
  simp only [argF, Tryz.ntmps3]
  refine gzU ?_
  by_cases h100 : 100 < n
  · refine gzU ?_
    refine t_e (e_call0 rfl rfl (awake_any _)) rfl rfl rfl ?_
    rintro _ _ ⟨rfl, cx, rfl⟩
    refine gzU ?_
    exact k_ret [] rfl (l' := cx ++ l) .refl (by exact zRes) ⟨rfl, _, rfl⟩
  refine gzU ?_
  refine t_e (e_call0 rfl rfl (start_any _)) rfl rfl rfl ?_
  rintro _ _ ⟨b, bw, lq, lr, rfl, hq, hr, rfl⟩
  refine gzU ?_
  refine k_loop (α := Nat × HS × List Chunk × List Chunk × List Chunk) (fun x => [(0, .slice a0 n cap), (3, .pointer (some ⟨b, 0, none⟩)), (4, .pointer (some ⟨bw, 0, none⟩)), (5, .int .i64 x.1)]) (fun x => x.2.2.1 ++ (x.2.2.2.1 ++ (x.2.2.2.2 ++ l))) (fun x => x.1 ≤ n ∧ InvH x.2.1 (3 + x.1) ∧ IsH b x.2.1 x.2.2.1 ∧ IsRH bw x.2.1 x.2.2.2.1) (fun x => n - x.1) (0, H0, lq, lr, []) ⟨Nat.zero_le _, inv_0, hq, hr⟩ ⟨rfl, rfl, rfl, rfl, trivial⟩ .refl ?_
  clear hq hr
  rintro ⟨i, H, lq, lr, X⟩ ⟨hi, hI, hq, hr⟩
  simp only at hi hI hq hr ⊢
  by_cases hlt : i < n
  case neg =>
    refine gzU ?_
    refine t_e (e_call0 rfl rfl (awake_any _)) rfl rfl rfl ?_
    rintro _ _ ⟨rfl, cx, rfl⟩
    refine gzU ?_
    exact k_ret [] rfl (l' := (cx ++ (lq ++ (lr ++ X))) ++ l) (keep_ac []) (by exact zRes) ⟨rfl, _, rfl⟩
  obtain ⟨bB, off, xs, ty, fz, rfl, hm, hxs⟩ := hin (by omega)
  obtain ⟨x, hx⟩ : ∃ x, acts[i]? = some x := ⟨_, List.getElem?_eq_getElem (by omega)⟩
  obtain ⟨hx1, hx2, _⟩ := hxs i (encK x) (by rw [List.getElem?_map, hx]; rfl)
  have hox := hok x (List.mem_of_getElem? hx)
  have hmm : ∀ lq lr X : List Chunk, (bB, Obj.cells xs ty fz) ∈ lq ++ (lr ++ (X ++ l)) := fun lq lr X => List.mem_append_right _ (List.mem_append_right _ (List.mem_append_right _ hm))
  have hA := ext_part (j := 1) (n := 2) hx2 hx1 (by omega)
  have hB := ext_part (j := 3) (n := 2) hx2 hx1 (by omega)
  have hI2 := hI.act x hox
  refine gzU ?_
  refine t_q (q_loadA rfl (hmm _ _ _) hx1 hx2) rfl rfl rfl ?_
  refine gzU ?_
  refine t_eh (e_call rfl rfl (done_any b bw H (3 + i) hI (by omega) lq lr hq hr x hox (X ++ l))) rfl rfl rfl ?_
  rintro _ _ ⟨rfl, lq, lr, hq, hr, rfl⟩
  refine gzU ?_
  refine t_h (q_loadA (n := 2) rfl (hmm _ _ _) (by omega) hA) rfl rfl rfl ?_
  refine gzU ?_
  refine t_eh (e_call (vs := [.pointer (some ⟨b, 0, none⟩), .pointer (some ⟨bw, 0, none⟩), .agg (List.toArray (encT x.a))]) rfl rfl (both_any b bw _ (3 + i + 1) hI2 (by omega) lq lr hq hr x.a (lq ++ (lr ++ (X ++ l))) (fun c hc => List.mem_append_left _ hc) (fun c hc => List.mem_append_right _ (List.mem_append_left _ hc)))) rfl rfl rfl ?_
  rintro _ _ ⟨rfl, X1, rfl⟩
  refine gzU ?_
  refine t_h (q_loadA (n := 2) rfl (List.mem_append_right _ (hmm _ _ _)) (by omega) hB) rfl rfl rfl ?_
  refine gzU ?_
  refine t_eh (e_call (vs := [.pointer (some ⟨b, 0, none⟩), .pointer (some ⟨bw, 0, none⟩), .agg (List.toArray (encT x.b))]) rfl rfl (both_any b bw _ (3 + i + 1) hI2 (by omega) lq lr hq hr x.b (X1 ++ (lq ++ (lr ++ (X ++ l)))) (fun c hc => List.mem_append_right _ (List.mem_append_left _ hc)) (fun c hc => List.mem_append_right _ (List.mem_append_right _ (List.mem_append_left _ hc))))) rfl rfl rfl ?_
  rintro _ _ ⟨rfl, X2, rfl⟩
  refine gzU ?_
  exact k_next (i + 1, actH H x, lq, lr, X2 ++ (X1 ++ X)) ⟨by simp only; omega, hI2, hq, hr⟩ (by simp only; omega) ⟨rfl, rfl, rfl, rfl, trivial⟩ (keep_ac [])
theorem holdScript_walk' (a0 : Option Addr) (len0 cap0 : Nat) (rows0 : List (List Value)) (W : World) (h : IsRows acK W a0 len0 cap0 rows0) :
    Calls Tryz.prog 3 #[.slice a0 len0 cap0] W fun e W' => e = .returned (.bool true) ∧ Below W.heap.size W W' := by
  obtain ⟨acts, h1, h2, h3⟩ := hacts_rows h
  exact law_walk (holdScript_any a0 len0 cap0 acts (allOf W) h2 h1 h3)
end Go.Proofs.YtpplknmmjlgadaaGreat
