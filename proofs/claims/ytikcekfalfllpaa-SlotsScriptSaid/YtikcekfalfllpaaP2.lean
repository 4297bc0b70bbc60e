/- The keys of a map, sorted. -/
import Derived.Test.YtikcekfalfllpaaU0
import Derived.Test.YtikcekfalfllpaaT1
set_option linter.unusedVariables false
set_option linter.unusedSimpArgs false
namespace Go.Proofs.Ytikcekfalfllpaa
open Go.RowKit

set_option pp.deepTerms false
set_option pp.deepTerms.threshold 4
set_option maxHeartbeats 400000
/-- what came of a map's entries -/
structure Came (es vis : List Ent) (seen : Array Nat) : Prop where
  eq : seen.toList = vis.map (·.2.2)
  nd : (vis.map (·.2.2)).Nodup
  sub : ∀ e, e ∈ vis → e ∈ es
theorem Came.len {es vis : List Ent} {seen : Array Nat} (h : Came es vis seen) (hn : (es.map (·.2.2)).Nodup) : vis.length ≤ es.length := by
  classical
  have hv : vis.Nodup := nodup_of_map h.nd
  have he : (es.filter fun e => decide (e ∈ vis)).Nodup := (nodup_of_map hn).filter _
  have hp : vis.Perm (es.filter fun e => decide (e ∈ vis)) := (List.perm_ext_iff_of_nodup hv he).2 fun e => by
    rw [List.mem_filter]; simp only [decide_eq_true_eq]
    exact ⟨fun hm => ⟨h.sub e hm, hm⟩, fun hm => hm.2⟩
  rw [hp.length_eq]; exact List.length_filter_le ..
theorem Came.all {es vis : List Ent} {seen : Array Nat} (h : Came es vis seen) (hn : (es.map (·.2.2)).Nodup) (ha : ∀ e, e ∈ es → e.2.2 ∈ seen.toList) : (vis.map (·.1)).Perm (es.map (·.1)) := by
  refine List.Perm.map _ ((List.perm_ext_iff_of_nodup (nodup_of_map h.nd) (nodup_of_map hn)).2 fun e => ⟨h.sub e, fun he => ?_⟩)
  have h1 := ha e he
  rw [h.eq] at h1
  obtain ⟨e', he', h2⟩ := List.mem_map.1 h1
  have h3 := nd_stamp hn (h.sub e' he') he h2
  rw [← h3]; exact he'
theorem Came.push {es vis : List Ent} {seen : Array Nat} {e : Ent} (h : Came es vis seen) (he : e ∈ es) (hs : e.2.2 ∉ seen.toList) : Came es (vis ++ [e]) (seen.push e.2.2) := by
  refine ⟨by rw [Array.toList_push, h.eq, List.map_append]; rfl, ?_, fun x hx => ?_⟩
  · rw [List.map_append, List.nodup_append]
    refine ⟨h.nd, by simp, fun a ha b hb hab => hs ?_⟩
    have : b = e.2.2 := by simpa using hb
    rw [h.eq, ← this, ← hab]; exact ha
  · rcases List.mem_append.1 hx with hx | hx
    · exact h.sub x hx
    · rw [List.mem_singleton.1 hx]; exact he
theorem keys_any (mb : Option Nat) (l : List Chunk) : Fn Try.prog 39 [.map mb] l fun v l' => ∃ B, v = .func (.func 43) #[] #[.pointer (some ⟨B, 0, none⟩)] ∧ l' = (B, .cells #[.map mb] 59 (0, 0)) :: l := by
  refine fn_of_body Try.func39 rfl rfl fun E => ?_
  simp only [argF, Try.ntmps39]
  repeat (first | (show OpsS _ _ _ _ _ _ (_ :: _) _ _ _; first | refine ozq ?_) | refine c_seq ?_ | refine p_then ?_ | refine c_region ?_ | refine s_nil ?_ | refine c_ret ?_ | refine p_then_ret ?_ | refine p_end ?_)
  refine t_e (e_box1 rfl rfl) rfl rfl rfl ?_
  rintro _ _ ⟨B, hB, rfl, rfl⟩
  repeat (first | (show OpsS _ _ _ _ _ _ (_ :: _) _ _ _; first | refine ozq ?_) | refine c_seq ?_ | refine p_then ?_ | refine c_region ?_ | refine s_nil ?_ | refine c_ret ?_ | refine p_then_ret ?_ | refine p_end ?_)
  exact k_ret [] rfl .refl (by (repeat (first | apply ResS.nil | (apply rs_tmp; (· rfl)) | (apply rs_cell1; (· rfl); (· ((repeat (first | with_reducible apply List.mem_cons_self | with_reducible apply List.mem_cons_of_mem)); try with_reducible assumption)); (· rfl)) | (apply rs_cellA; (· rfl); (· ((repeat (first | with_reducible apply List.mem_cons_self | with_reducible apply List.mem_cons_of_mem)); try with_reducible assumption)); (· (repeat (first | with_reducible apply LSub.done | with_reducible apply LSub.take | with_reducible apply LSub.drop))))))) ⟨B, rfl, rfl⟩
theorem keys_iter (B m clock : Nat) (es : List Ent) (hnd : (es.map (·.2.2)).Nodup) (hst : ∀ e, e ∈ es → e.2.2 < clock) :
    IterS Try.prog 43 [.pointer (some ⟨B, 0, none⟩)] (fun k : Int => [.int .i64 k]) (fun xs => xs.Perm (es.map (·.1))) (fun pre => pre.length ≤ es.length)
      (fun _ l => (B, .cells #[.map (some m)] 59 (0, 0)) ∈ l ∧ (m, mapO .i64 es clock) ∈ l) := by
  refine ⟨fun q I Ix G0 hneed hY l G hG h0 => ?_⟩
  refine fn_of_body Try.func43 rfl rfl fun E => ?_
  simp only [argF, Try.ntmps43]
  obtain ⟨hm1, hm2⟩ := hneed _ _ G hG h0
  repeat (first | (show OpsS _ _ _ _ _ _ (_ :: _) _ _ _; first | refine ozq ?_) | refine c_seq ?_ | refine p_then ?_ | refine c_region ?_ | refine s_nil ?_ | refine c_cond_t rfl ?_ | refine c_cond_f rfl ?_ | refine c_block ?_ | refine c_skip ?_ | refine c_exit ?_ | refine p_block ?_ | refine p_then_exit ?_ | refine p_block_here ?_ | refine p_block_on rfl ?_ | refine c_ret ?_ | refine p_then_ret ?_ | refine p_block_ret ?_ | refine p_end ?_ | refine c_if_t rfl (by omega) ?_ | refine c_if_f rfl (by omega) ?_)
  refine t_e (e_range rfl hm2) rfl rfl rfl ?_
  rintro _ _ ⟨b0, hb0, rfl, rfl⟩
  repeat (first | (show OpsS _ _ _ _ _ _ (_ :: _) _ _ _; first | refine ozq ?_) | refine c_seq ?_ | refine p_then ?_ | refine c_region ?_ | refine s_nil ?_ | refine c_cond_t rfl ?_ | refine c_cond_f rfl ?_ | refine c_block ?_ | refine c_skip ?_ | refine c_exit ?_ | refine p_block ?_ | refine p_then_exit ?_ | refine p_block_here ?_ | refine p_block_on rfl ?_ | refine c_ret ?_ | refine p_then_ret ?_ | refine p_block_ret ?_ | refine p_end ?_ | refine c_if_t rfl (by omega) ?_ | refine c_if_f rfl (by omega) ?_)
  refine k_loop (α := Array Nat × List Ent × List Chunk) (fun x => [(0, .func (.yield q) #[] #[]), (1, .pointer (some ⟨B, 0, none⟩)), (5, .pointer (some ⟨b0, 0, none⟩))]) (fun x => (b0, .mapIter (some m) clock x.1 clock) :: (x.2.2 ++ G)) (fun x => I (x.2.1.map (·.1)) x.2.2 ∧ Came es x.2.1 x.1) (fun x => es.length - x.2.1.length) (#[], [], l) ⟨h0, rfl, by simp, by simp⟩ ⟨rfl, rfl, rfl, trivial⟩ .refl ?_
  clear hm1 hm2
  rintro ⟨seen, vis, l⟩ ⟨hI, hC⟩
  simp only at hI hC ⊢
  obtain ⟨hm1, hm2⟩ := hneed _ _ G hG hI
  repeat (first | (show OpsS _ _ _ _ _ _ (_ :: _) _ _ _; first | refine ozq ?_) | refine c_seq ?_ | refine p_then ?_ | refine c_region ?_ | refine s_nil ?_ | refine c_cond_t rfl ?_ | refine c_cond_f rfl ?_ | refine c_block ?_ | refine c_skip ?_ | refine c_exit ?_ | refine p_block ?_ | refine p_then_exit ?_ | refine p_block_here ?_ | refine p_block_on rfl ?_ | refine c_ret ?_ | refine p_then_ret ?_ | refine p_block_ret ?_ | refine p_end ?_ | refine c_if_t rfl (by omega) ?_ | refine c_if_f rfl (by omega) ?_)
  refine t_e (e_next rfl hm2 (fun e he => hst e he) (Nat.le_refl _)) rfl rfl rfl ?_
  rintro _ _ (⟨rfl, rfl, hall⟩ | ⟨e, he, hns, rfl, rfl⟩)
  · repeat (first | (show OpsS _ _ _ _ _ _ (_ :: _) _ _ _; first | refine ozq ?_) | refine c_seq ?_ | refine p_then ?_ | refine c_region ?_ | refine s_nil ?_ | refine c_cond_t rfl ?_ | refine c_cond_f rfl ?_ | refine c_block ?_ | refine c_skip ?_ | refine c_exit ?_ | refine p_block ?_ | refine p_then_exit ?_ | refine p_block_here ?_ | refine p_block_on rfl ?_ | refine c_ret ?_ | refine p_then_ret ?_ | refine p_block_ret ?_ | refine p_end ?_ | refine c_if_t rfl (by omega) ?_ | refine c_if_f rfl (by omega) ?_)
    exact k_ret [] rfl (.drop .refl) (by (repeat (first | apply ResS.nil | (apply rs_tmp; (· rfl)) | (apply rs_cell1; (· rfl); (· ((repeat (first | with_reducible apply List.mem_cons_self | with_reducible apply List.mem_cons_of_mem)); try with_reducible assumption)); (· rfl)) | (apply rs_cellA; (· rfl); (· ((repeat (first | with_reducible apply List.mem_cons_self | with_reducible apply List.mem_cons_of_mem)); try with_reducible assumption)); (· (repeat (first | with_reducible apply LSub.done | with_reducible apply LSub.take | with_reducible apply LSub.drop))))))) ⟨l, rfl, .inl ⟨_, hC.all hnd hall, hI⟩⟩
  · have hC2 := hC.push he hns
    have hl2 := hC2.len hnd
    have hy := hY (vis.map (·.1)) e.1 l ((b0, .mapIter (some m) clock (seen.push e.2.2) clock) :: G) (fun c hc => .tail _ (hG c hc)) hI (by simp at hl2 ⊢; exact hl2)
    repeat (first | (show OpsS _ _ _ _ _ _ (_ :: _) _ _ _; first | refine ozq ?_) | refine c_seq ?_ | refine p_then ?_ | refine c_region ?_ | refine s_nil ?_ | refine c_cond_t rfl ?_ | refine c_cond_f rfl ?_ | refine c_block ?_ | refine c_skip ?_ | refine c_exit ?_ | refine p_block ?_ | refine p_then_exit ?_ | refine p_block_here ?_ | refine p_block_on rfl ?_ | refine c_ret ?_ | refine p_then_ret ?_ | refine p_block_ret ?_ | refine p_end ?_ | refine c_if_t rfl (by omega) ?_ | refine c_if_f rfl (by omega) ?_)
    refine t_q (q_entry rfl (.head _) (.tail _ hm2) he hnd) rfl rfl rfl ?_
    repeat (first | (show OpsS _ _ _ _ _ _ (_ :: _) _ _ _; first | refine ozq ?_) | refine c_seq ?_ | refine p_then ?_ | refine c_region ?_ | refine s_nil ?_ | refine c_cond_t rfl ?_ | refine c_cond_f rfl ?_ | refine c_block ?_ | refine c_skip ?_ | refine c_exit ?_ | refine p_block ?_ | refine p_then_exit ?_ | refine p_block_here ?_ | refine p_block_on rfl ?_ | refine c_ret ?_ | refine p_then_ret ?_ | refine p_block_ret ?_ | refine p_end ?_ | refine c_if_t rfl (by omega) ?_ | refine c_if_f rfl (by omega) ?_)
    refine s_keep (Keep.of_perm List.perm_middle.symm) ?_
    refine t_e (e_yield rfl rfl hy) rfl rfl rfl ?_
    rintro v l' ⟨l1, rfl, ⟨rfl, hI'⟩ | ⟨rfl, hx⟩⟩
    · repeat (first | (show OpsS _ _ _ _ _ _ (_ :: _) _ _ _; first | refine ozq ?_) | refine c_seq ?_ | refine p_then ?_ | refine c_region ?_ | refine s_nil ?_ | refine c_cond_t rfl ?_ | refine c_cond_f rfl ?_ | refine c_block ?_ | refine c_skip ?_ | refine c_exit ?_ | refine p_block ?_ | refine p_then_exit ?_ | refine p_block_here ?_ | refine p_block_on rfl ?_ | refine c_ret ?_ | refine p_then_ret ?_ | refine p_block_ret ?_ | refine p_end ?_ | refine c_if_t rfl (by omega) ?_ | refine c_if_f rfl (by omega) ?_)
      exact k_next (seen.push e.2.2, vis ++ [e], l1) ⟨by simpa using hI', hC2⟩ (by simp at hl2 ⊢; omega) ⟨rfl, rfl, rfl, trivial⟩ (.of_perm List.perm_middle)
    · repeat (first | (show OpsS _ _ _ _ _ _ (_ :: _) _ _ _; first | refine ozq ?_) | refine c_seq ?_ | refine p_then ?_ | refine c_region ?_ | refine s_nil ?_ | refine c_cond_t rfl ?_ | refine c_cond_f rfl ?_ | refine c_block ?_ | refine c_skip ?_ | refine c_exit ?_ | refine p_block ?_ | refine p_then_exit ?_ | refine p_block_here ?_ | refine p_block_on rfl ?_ | refine c_ret ?_ | refine p_then_ret ?_ | refine p_block_ret ?_ | refine p_end ?_ | refine c_if_t rfl (by omega) ?_ | refine c_if_f rfl (by omega) ?_)
      exact k_ret [] rfl (Keep.trans (.of_perm List.perm_middle) (.drop .refl)) (by (repeat (first | apply ResS.nil | (apply rs_tmp; (· rfl)) | (apply rs_cell1; (· rfl); (· ((repeat (first | with_reducible apply List.mem_cons_self | with_reducible apply List.mem_cons_of_mem)); try with_reducible assumption)); (· rfl)) | (apply rs_cellA; (· rfl); (· ((repeat (first | with_reducible apply List.mem_cons_self | with_reducible apply List.mem_cons_of_mem)); try with_reducible assumption)); (· (repeat (first | with_reducible apply LSub.done | with_reducible apply LSub.take | with_reducible apply LSub.drop))))))) ⟨l1, rfl, .inr ⟨_, by simp at hl2 ⊢; exact hl2, hx⟩⟩
theorem append_any (gf : Nat) [EN Try.prog gf] (lb : List Value) (S : List Int → Prop) (n : Nat) (Need : List Int → List Chunk → Prop) (hit : IterS Try.prog gf lb (fun k : Int => [.int .i64 k]) S (fun pre => pre.length ≤ n) Need) (hn : n ≤ 900000) (l : List Chunk) (hneed : ∀ pre l2, (∀ c, c ∈ l → c ∈ l2) → Need pre l2) :
    Fn Try.prog 45 [.slice none 0 0, .func (.func gf) #[] lb.toArray] l fun v l' => ∃ xs cs, S xs ∧ OwnSl 3 1 v xs.length (xs.map intV) cs ∧ l' = cs ++ l := by
  refine fn_of_body Try.func45 rfl rfl fun E => ?_
  simp only [argF, Try.ntmps45]
  repeat (first | (show OpsS _ _ _ _ _ _ (_ :: _) _ _ _; first | refine ozq ?_ | refine ozn ?_) | refine c_seq ?_ | refine p_then ?_ | refine c_region ?_ | refine s_nil ?_ | refine c_block ?_ | refine p_block ?_ | refine p_block_here ?_ | refine p_block_on rfl ?_ | refine c_ret ?_ | refine p_then_ret ?_ | refine p_block_ret ?_ | refine p_end ?_)
  refine t_e (e_box1 rfl rfl) rfl rfl rfl ?_
  rintro _ _ ⟨b2, hb2, rfl, rfl⟩
  repeat (first | (show OpsS _ _ _ _ _ _ (_ :: _) _ _ _; first | refine ozq ?_ | refine ozn ?_) | refine c_seq ?_ | refine p_then ?_ | refine c_region ?_ | refine s_nil ?_ | refine c_block ?_ | refine p_block ?_ | refine p_block_here ?_ | refine p_block_on rfl ?_ | refine c_ret ?_ | refine p_then_ret ?_ | refine p_block_ret ?_ | refine p_end ?_)
  refine c_range (α := Int) (ps := [7]) (lb := lb) rfl hit (fun _ => rfl) rfl
    (fun pre l => ∃ v cs, OwnSl 3 1 v pre.length (pre.map intV) cs ∧ pre.length ≤ n ∧ l = [(b2, .cells #[v] 79 (0, 0))] ++ cs)
    (fun c pre l => False)
    _ l (fun pre l2 X2 hX h => by obtain ⟨v, cs, _, _, rfl⟩ := h; exact hneed _ _ fun c hc => List.mem_append_right _ (hX _ hc)) (by ((try simp only [List.cons_append, List.nil_append, List.map_cons, List.map_nil]); repeat (first | with_reducible apply Keep.refl | (apply Keep.pick; · (repeat (first | apply Pick.here | apply Pick.there))) | apply Keep.drop))) ⟨_, [], OwnSl.nil _ _, Nat.zero_le _, rfl⟩ ?_ ?_ ?_
  · rintro E r0 rec pre y l' T ⟨fn, tmps, Dd, rfl⟩ hT0 ⟨v, cs', hown, hpl, rfl⟩ hsp
    simp only [putPs, List.cons_append, List.nil_append]
    repeat (first | (show OpsS _ _ _ _ _ _ (_ :: _) _ _ _; first | refine ozq ?_ | refine ozn ?_) | refine c_seq ?_ | refine p_then ?_ | refine c_region ?_ | refine s_nil ?_ | refine c_block ?_ | refine p_block ?_ | refine p_block_here ?_ | refine p_block_on rfl ?_ | refine c_ret ?_ | refine p_then_ret ?_ | refine p_block_ret ?_ | refine p_end ?_)
    refine p_begin (.there (upd_mid _ _ _ _ _)) ?_
    generalize hX1 : (r0, Obj.loop (recOf fn tmps _ _ _ Dd .busy none)) :: T = X1
    repeat (first | (show OpsS _ _ _ _ _ _ (_ :: _) _ _ _; first | refine ozq ?_ | refine ozn ?_) | refine c_seq ?_ | refine p_then ?_ | refine c_region ?_ | refine s_nil ?_ | refine c_block ?_ | refine p_block ?_ | refine p_block_here ?_ | refine p_block_on rfl ?_ | refine c_ret ?_ | refine p_then_ret ?_ | refine p_block_ret ?_ | refine p_end ?_)
    refine t_e (e_lit1 rfl rfl) rfl rfl rfl ?_
    rintro _ _ ⟨bl, _, rfl, rfl⟩
    refine t_e (e_appX (k := 1) (X := [(b2, .cells #[v] 79 (0, 0))]) (cs := cs') (F := X1) (xs := pre.map intV) (n := pre.length) (zs := [.int .i64 0]) (ws := [intV y]) rfl rfl rfl hown rfl (by simp [Value.oneCell', intV]) (by omega) (by decide)) rfl rfl rfl ?_
    rintro v' _ ⟨c2, ho2, rfl⟩
    have hv1 : v'.oneCell' = true := ho2.one
    simp only [List.cons_append, List.nil_append]
    repeat (first | (show OpsS _ _ _ _ _ _ (_ :: _) _ _ _; first | refine ozq ?_ | refine ozn ?_) | refine c_seq ?_ | refine p_then ?_ | refine c_region ?_ | refine s_nil ?_ | refine c_block ?_ | refine p_block ?_ | refine p_block_here ?_ | refine p_block_on rfl ?_ | refine c_ret ?_ | refine p_then_ret ?_ | refine p_block_ret ?_ | refine p_end ?_)
    rw [← hX1]
    refine p_round _ (.refl) ⟨v', c2, ?_, hsp, rfl⟩
    rw [List.length_append, List.map_append]; exact ho2
  · rintro Dd xs l' hS ⟨v, cs', hown, hpl, rfl⟩
    have hv1 : v.oneCell' = true := hown.one
    simp only [List.cons_append, List.nil_append]
    repeat (first | (show OpsS _ _ _ _ _ _ (_ :: _) _ _ _; first | refine ozq ?_ | refine ozn ?_) | refine c_seq ?_ | refine p_then ?_ | refine c_region ?_ | refine s_nil ?_ | refine c_block ?_ | refine p_block ?_ | refine p_block_here ?_ | refine p_block_on rfl ?_ | refine c_ret ?_ | refine p_then_ret ?_ | refine p_block_ret ?_ | refine p_end ?_)
    refine k_ret2 [Dd] (cs' ++ l) rfl (l' := cs' ++ l) (by ((try simp only [List.cons_append, List.nil_append, List.map_cons, List.map_nil]); repeat (first | with_reducible apply Keep.refl | (apply Keep.pick; · (repeat (first | apply Pick.here | apply Pick.there))) | apply Keep.drop))) (by (repeat (first | apply ResS.nil | (apply rs_tmp; (· rfl)) | (apply rs_cell1; (· rfl); (· ((repeat (first | with_reducible apply List.mem_cons_self | with_reducible apply List.mem_cons_of_mem)); try with_reducible assumption)); (· rfl)) | (apply rs_cellA; (· rfl); (· ((repeat (first | with_reducible apply List.mem_cons_self | with_reducible apply List.mem_cons_of_mem)); try with_reducible assumption)); (· (repeat (first | with_reducible apply LSub.done | with_reducible apply LSub.take | with_reducible apply LSub.drop))))))) .refl ?_
    exact ⟨xs, cs', hS, hown, rfl⟩
  · rintro Dd c pre l' hsp h
    exact h.elim
theorem collect_any (gf : Nat) [EN Try.prog gf] (lb : List Value) (S : List Int → Prop) (n : Nat) (Need : List Int → List Chunk → Prop) (hit : IterS Try.prog gf lb (fun k : Int => [.int .i64 k]) S (fun pre => pre.length ≤ n) Need) (hn : n ≤ 900000) (l : List Chunk) (hneed : ∀ pre l2, (∀ c, c ∈ l → c ∈ l2) → Need pre l2) :
    Fn Try.prog 41 [.func (.func gf) #[] lb.toArray] l fun v l' => ∃ xs cs, S xs ∧ OwnSl 3 1 v xs.length (xs.map intV) cs ∧ l' = cs ++ l := by
  refine fn_of_body Try.func41 rfl rfl fun E => ?_
  simp only [argF, Try.ntmps41]
  repeat (first | (show OpsS _ _ _ _ _ _ (_ :: _) _ _ _; first | refine ozq ?_) | refine c_seq ?_ | refine p_then ?_ | refine c_region ?_ | refine s_nil ?_ | refine c_ret ?_ | refine p_then_ret ?_ | refine p_end ?_)
  refine t_e (e_call0 rfl rfl (append_any gf lb S n Need hit hn l hneed)) rfl rfl rfl ?_
  rintro v _ ⟨xs, cs, hS, ho, rfl⟩
  have hv1 : v.oneCell' = true := ho.one
  repeat (first | (show OpsS _ _ _ _ _ _ (_ :: _) _ _ _; first | refine ozq ?_) | refine c_seq ?_ | refine p_then ?_ | refine c_region ?_ | refine s_nil ?_ | refine c_ret ?_ | refine p_then_ret ?_ | refine p_end ?_)
  refine k_ret [] rfl .refl (by (repeat (first | apply ResS.nil | (apply rs_tmp; (· rfl)) | (apply rs_cell1; (· rfl); (· ((repeat (first | with_reducible apply List.mem_cons_self | with_reducible apply List.mem_cons_of_mem)); try with_reducible assumption)); (· rfl)) | (apply rs_cellA; (· rfl); (· ((repeat (first | with_reducible apply List.mem_cons_self | with_reducible apply List.mem_cons_of_mem)); try with_reducible assumption)); (· (repeat (first | with_reducible apply LSub.done | with_reducible apply LSub.take | with_reducible apply LSub.drop))))))) ?_
  exact ⟨xs, cs, hS, ho, rfl⟩
theorem sorted_any (gf : Nat) [EN Try.prog gf] (lb : List Value) (S : List Int → Prop) (n : Nat) (Need : List Int → List Chunk → Prop) (hit : IterS Try.prog gf lb (fun k : Int => [.int .i64 k]) S (fun pre => pre.length ≤ n) Need) (hn : n ≤ 900000) (hS : ∀ xs, S xs → xs.length ≤ n) (l : List Chunk) (hneed : ∀ pre l2, (∀ c, c ∈ l → c ∈ l2) → Need pre l2) :
    Fn Try.prog 38 [.func (.func gf) #[] lb.toArray] l fun v l' => ∃ xs cs, S xs ∧ OwnSl 3 1 v (srt xs).length ((srt xs).map intV) cs ∧ l' = cs ++ l := by
  refine fn_of_body Try.func38 rfl rfl fun E => ?_
  simp only [argF, Try.ntmps38]
  repeat (first | (show OpsS _ _ _ _ _ _ (_ :: _) _ _ _; first | refine ozq ?_) | refine c_seq ?_ | refine p_then ?_ | refine c_region ?_ | refine s_nil ?_ | refine c_ret ?_ | refine p_then_ret ?_ | refine p_end ?_)
  refine t_e (e_call0 rfl rfl (collect_any gf lb S n Need hit hn l hneed)) rfl rfl rfl ?_
  rintro v _ ⟨xs, cs, hSx, ho, rfl⟩
  have hv1 : v.oneCell' = true := ho.one
  have hl := hS xs hSx
  repeat (first | (show OpsS _ _ _ _ _ _ (_ :: _) _ _ _; first | refine ozq ?_) | refine c_seq ?_ | refine p_then ?_ | refine c_region ?_ | refine s_nil ?_ | refine c_ret ?_ | refine p_then_ret ?_ | refine p_end ?_)
  refine t_e (e_call0 rfl rfl (sortOwn_any v xs cs l ho (by omega))) rfl rfl rfl ?_
  rintro _ _ ⟨rfl, cs', ho', rfl⟩
  repeat (first | (show OpsS _ _ _ _ _ _ (_ :: _) _ _ _; first | refine ozq ?_) | refine c_seq ?_ | refine p_then ?_ | refine c_region ?_ | refine s_nil ?_ | refine c_ret ?_ | refine p_then_ret ?_ | refine p_end ?_)
  refine k_ret [] rfl .refl (by (repeat (first | apply ResS.nil | (apply rs_tmp; (· rfl)) | (apply rs_cell1; (· rfl); (· ((repeat (first | with_reducible apply List.mem_cons_self | with_reducible apply List.mem_cons_of_mem)); try with_reducible assumption)); (· rfl)) | (apply rs_cellA; (· rfl); (· ((repeat (first | with_reducible apply List.mem_cons_self | with_reducible apply List.mem_cons_of_mem)); try with_reducible assumption)); (· (repeat (first | with_reducible apply LSub.done | with_reducible apply LSub.take | with_reducible apply LSub.drop))))))) ?_
  exact ⟨xs, cs', hSx, ho', rfl⟩
/-- the sorted keys of a map -/
theorem mapKeys_any (B m clock : Nat) (es : List Ent) (hnd : (es.map (·.2.2)).Nodup) (hst : ∀ e, e ∈ es → e.2.2 < clock) (hn : es.length ≤ 900000) (l : List Chunk) (h1 : (B, Obj.cells #[.map (some m)] 59 (0, 0)) ∈ l) (h2 : (m, mapO .i64 es clock) ∈ l) :
    Fn Try.prog 38 [.func (.func 43) #[] #[.pointer (some ⟨B, 0, none⟩)]] l fun v l' => ∃ xs cs, xs.Perm (es.map (·.1)) ∧ OwnSl 3 1 v (srt xs).length ((srt xs).map intV) cs ∧ l' = cs ++ l :=
  sorted_any 43 [.pointer (some ⟨B, 0, none⟩)] _ es.length _ (keys_iter B m clock es hnd hst) hn (fun xs h => by rw [h.length_eq]; simp) l fun _ l2 hl => ⟨hl _ h1, hl _ h2⟩
end Go.Proofs.Ytikcekfalfllpaa
