/- hold: Copy, Mint, Move, Swap, Clear. hold: those alike, Final. Chapter 18's own answer: its blocks; New, Cap, some, Root, Child, Set, from. Chapter 18's own answer: Move, Swap, Clear, Final. Chapter 18's own answer: Final. hold: an act of both. Laws that the statement's proof leans on. -/
import Derived.Test.YtpplknmmjlgadaaGreatGz4
import Derived.Test.YtpplknmmjlgadaaGreatGz9
import Derived.Test.YtpplknmmjlgadaaGreatGz6
/- hold: Copy, Mint, Move, Swap, Clear. -/
-- GU
set_option linter.unusedVariables false
set_option linter.unusedSimpArgs false
namespace Go.Proofs.YtpplknmmjlgadaaGreat
open Go.RowKit
set_option maxRecDepth 20000

set_option pp.deepTerms false
set_option pp.deepTerms.threshold 4
set_option maxHeartbeats 400000
theorem hcopy1_any (c : CapT) (hw : CapW c) (b1 : Nat) (mask : Int) (l : List Chunk) (hm : inC b1 mask ∈ l) :
    Fn Tryz.prog 68 ([.agg (List.toArray (encC c))] ++ [.pointer (some ⟨b1, 0, none⟩)]) l fun v l' => v = .tuple #[.agg (List.toArray (encC (copyC c mask).1)), .int .i64 (copyC c mask).2] ∧ l' = l := by
  rw [show [Value.agg (List.toArray (encC c))] ++ [.pointer (some ⟨b1, 0, none⟩)] = [.agg (List.toArray (encC c)), .pointer (some ⟨b1, 0, none⟩)] from rfl]
  refine fn_of_body Tryz.func68 rfl rfl fun E => ?_
  simp only [argF, Tryz.ntmps68]
  refine gzU ?_
  (first | refine t_e (e_box1 rfl rfl) rfl rfl rfl ?_ | refine t_e (e_boxA rfl) rfl rfl rfl ?_); rintro _ _ ⟨b2, _, rfl, rfl⟩
  have hm2 : inC b1 mask ∈ capC b2 c :: l := .tail _ hm
  refine gzU ?_
  refine t_e e_alloc rfl rfl rfl ?_; rintro _ _ ⟨b3, _, rfl, rfl⟩
  have hm3 : inC b1 mask ∈ capC b3 capZ :: capC b2 c :: l := .tail _ (.tail _ hm)
  refine gzU ?_
  refine t_q (q_call rfl rfl fun l2 hl => copyderive_any c hw mask l2) rfl rfl rfl ?_
  refine gzU ?_
  exact k_ret2 [] (capC b3 (copyC c mask).1 :: capC b2 c :: l) rfl (l' := l) .refl (by exact zRes) (.drop (.drop .refl)) ⟨rfl, rfl⟩
theorem hmint1_any (c : CapT) (hw : CapW c) (b1 b2 : Nat) (mask : Int) (data : Nat) (hd : data < 18446744073709551616) (l : List Chunk) (hm : inC b1 mask ∈ l) (hm' : u64C b2 data ∈ l) :
    Fn Tryz.prog 70 ([.agg (List.toArray (encC c))] ++ [.pointer (some ⟨b1, 0, none⟩), .pointer (some ⟨b2, 0, none⟩)]) l fun v l' => v = .tuple #[.agg (List.toArray (encC (mintC c mask data).1)), .int .i64 (mintC c mask data).2] ∧ l' = l := by
  rw [show [Value.agg (List.toArray (encC c))] ++ [.pointer (some ⟨b1, 0, none⟩), .pointer (some ⟨b2, 0, none⟩)] = [.agg (List.toArray (encC c)), .pointer (some ⟨b1, 0, none⟩), .pointer (some ⟨b2, 0, none⟩)] from rfl]
  refine fn_of_body Tryz.func70 rfl rfl fun E => ?_
  simp only [argF, Tryz.ntmps70]
  refine gzU ?_
  (first | refine t_e (e_box1 rfl rfl) rfl rfl rfl ?_ | refine t_e (e_boxA rfl) rfl rfl rfl ?_); rintro _ _ ⟨b3, _, rfl, rfl⟩
  refine gzU ?_
  refine t_e e_alloc rfl rfl rfl ?_; rintro _ _ ⟨b4, _, rfl, rfl⟩
  have hm3 : inC b1 mask ∈ capC b4 capZ :: capC b3 c :: l := .tail _ (.tail _ hm)
  have hm4 : u64C b2 data ∈ capC b4 capZ :: capC b3 c :: l := .tail _ (.tail _ hm')
  refine gzU ?_
  refine t_q (q_call rfl rfl fun l2 hl => mint_any c hw mask data hd l2) rfl rfl rfl ?_
  refine gzU ?_
  exact k_ret2 [] (capC b4 (mintC c mask data).1 :: capC b3 c :: l) rfl (l' := l) .refl (by exact zRes) (.drop (.drop .refl)) ⟨rfl, rfl⟩
theorem hcopy_any (b : Nat) (H : HS) (n : Nat) (hI : InvH H n) (hn : n ≤ 1000) (lq : List Chunk) (hq : IsH b H lq) (a c : slT) (mask : Int) (G : List Chunk) :
    Fn Tryz.prog 25 [.pointer (some ⟨b, 0, none⟩), .agg (List.toArray (encT a)), .agg (List.toArray (encT c)), .int .i64 mask] (lq ++ G) fun v l' => v = .int .i64 (derH H a c (copyC (atD H.1 a) mask)).1 ∧ ∃ lq', IsH b (derH H a c (copyC (atD H.1 a) mask)).2 lq' ∧ l' = lq' ++ G := by
  refine fn_of_body Tryz.func25 rfl rfl fun E => ?_
  simp only [argF, Tryz.ntmps25]
  refine gzU ?_
  (first | refine t_e (e_box1 rfl rfl) rfl rfl rfl ?_ | refine t_e (e_boxA rfl) rfl rfl rfl ?_); rintro _ _ ⟨b5, _, rfl, rfl⟩
  refine gzU ?_
  (first | refine t_e (e_box1 rfl rfl) rfl rfl rfl ?_ | refine t_e (e_boxA rfl) rfl rfl rfl ?_); rintro _ _ ⟨b6, _, rfl, rfl⟩
  refine gzU ?_
  (first | refine t_e (e_box1 rfl rfl) rfl rfl rfl ?_ | refine t_e (e_boxA rfl) rfl rfl rfl ?_); rintro _ _ ⟨b7, _, rfl, rfl⟩
  refine gzU ?_
  refine t_e (e_call (vs := [.pointer (some ⟨b, 0, none⟩), .agg (List.toArray (encT a)), .agg (List.toArray (encT c)), .func (.func 68) #[] (List.toArray [.pointer (some ⟨b7, 0, none⟩)])]) rfl rfl (Fn.mvP (fun A => inC b7 mask :: slC b6 c :: slC b5 a :: (A ++ G)) (hderived_any b H n hI hn lq hq a c 68 [.pointer (some ⟨b7, 0, none⟩)] (fun d => copyC d mask) (fun d h => copy_w h mask) [inC b7 mask] (fun d l2 hd hx => hcopy1_any d hd b7 mask l2 (hx _ (.head _))) (inC b7 mask :: slC b6 c :: slC b5 a :: G) (sing_mem (.head _))))) rfl rfl rfl ?_
  rintro _ _ ⟨rfl, lq', hq', rfl⟩
  refine gzU ?_
  exact k_ret [] rfl (l' := lq' ++ G) (.drop (.drop (.drop .refl))) (by exact zRes) ⟨rfl, _, hq', rfl⟩
theorem hmint_any (b : Nat) (H : HS) (n : Nat) (hI : InvH H n) (hn : n ≤ 1000) (lq : List Chunk) (hq : IsH b H lq) (a c : slT) (mask : Int) (data : Nat) (hd : data < 18446744073709551616) (G : List Chunk) :
    Fn Tryz.prog 26 [.pointer (some ⟨b, 0, none⟩), .agg (List.toArray (encT a)), .agg (List.toArray (encT c)), .int .i64 mask, .int .u64 (data : Nat)] (lq ++ G) fun v l' => v = .int .i64 (derH H a c (mintC (atD H.1 a) mask data)).1 ∧ ∃ lq', IsH b (derH H a c (mintC (atD H.1 a) mask data)).2 lq' ∧ l' = lq' ++ G := by
  refine fn_of_body Tryz.func26 rfl rfl fun E => ?_
  simp only [argF, Tryz.ntmps26]
  refine gzU ?_
  (first | refine t_e (e_box1 rfl rfl) rfl rfl rfl ?_ | refine t_e (e_boxA rfl) rfl rfl rfl ?_); rintro _ _ ⟨b5, _, rfl, rfl⟩
  refine gzU ?_
  (first | refine t_e (e_box1 rfl rfl) rfl rfl rfl ?_ | refine t_e (e_boxA rfl) rfl rfl rfl ?_); rintro _ _ ⟨b6, _, rfl, rfl⟩
  refine gzU ?_
  (first | refine t_e (e_box1 rfl rfl) rfl rfl rfl ?_ | refine t_e (e_boxA rfl) rfl rfl rfl ?_); rintro _ _ ⟨b7, _, rfl, rfl⟩
  refine gzU ?_
  (first | refine t_e (e_box1 rfl rfl) rfl rfl rfl ?_ | refine t_e (e_boxA rfl) rfl rfl rfl ?_); rintro _ _ ⟨b8, _, rfl, rfl⟩
  refine gzU ?_
  refine t_e (e_call (vs := [.pointer (some ⟨b, 0, none⟩), .agg (List.toArray (encT a)), .agg (List.toArray (encT c)), .func (.func 70) #[] (List.toArray [.pointer (some ⟨b7, 0, none⟩), .pointer (some ⟨b8, 0, none⟩)])]) rfl rfl (Fn.mvP (fun A => u64C b8 data :: inC b7 mask :: slC b6 c :: slC b5 a :: (A ++ G)) (hderived_any b H n hI hn lq hq a c 70 [.pointer (some ⟨b7, 0, none⟩), .pointer (some ⟨b8, 0, none⟩)] (fun d => mintC d mask data) (fun d h => mint_w h mask data) [inC b7 mask, u64C b8 data] (fun d l2 hd2 hx => hmint1_any d hd2 b7 b8 mask data hd l2 (hx _ (.head _)) (hx _ (.tail _ (.head _)))) (u64C b8 data :: inC b7 mask :: slC b6 c :: slC b5 a :: G) (fun x hx => by
    rcases List.mem_cons.1 hx with rfl | hx
    · exact .tail _ (.head _)
    · rw [List.mem_singleton.1 hx]; exact .head _)))) rfl rfl rfl ?_
  rintro _ _ ⟨rfl, lq', hq', rfl⟩
  refine gzU ?_
  exact k_ret [] rfl (l' := lq' ++ G) (.drop (.drop (.drop (.drop .refl)))) (by exact zRes) ⟨rfl, _, hq', rfl⟩
theorem hmove_any (b : Nat) (H : HS) (n : Nat) (hI : InvH H n) (lq : List Chunk) (hq : IsH b H lq) (a c : slT) (G : List Chunk) :
    Fn Tryz.prog 18 [.pointer (some ⟨b, 0, none⟩), .agg (List.toArray (encT a)), .agg (List.toArray (encT c))] (lq ++ G) fun v l' => v = .int .i64 (moveH H a c).1 ∧ ∃ lq', IsH b (moveH H a c).2 lq' ∧ l' = lq' ++ G := by
  refine fn_of_body Tryz.func18 rfl rfl fun E => ?_
  simp only [argF, Tryz.ntmps18]
  refine gzU ?_
  (first | refine t_e (e_box1 rfl rfl) rfl rfl rfl ?_ | refine t_e (e_boxA rfl) rfl rfl rfl ?_); rintro _ _ ⟨b5, _, rfl, rfl⟩
  refine gzU ?_
  (first | refine t_e (e_box1 rfl rfl) rfl rfl rfl ?_ | refine t_e (e_boxA rfl) rfl rfl rfl ?_); rintro _ _ ⟨b6, _, rfl, rfl⟩
  refine gzU ?_
  refine t_q (q_call rfl rfl fun l2 hl => hpair_any b H lq hq a c l2 fun c hc => hl c (.tail _ (.tail _ (List.mem_append_left _ hc)))) rfl rfl rfl ?_
  have hret : ∀ (d e : CapT) (B C : Nat), Keep (capC B d :: capC C e :: slC b6 c :: slC b5 a :: (lq ++ G)) (lq ++ G) := fun _ _ _ _ => .drop (.drop (.drop (.drop .refl)))
  by_cases hok : okD H.1 a = false ∨ okD H.1 c = false
  · rw [pair_f hok]
    have e1 : fromE H a c = 3 := by unfold fromE; rw [if_pos hok]
    rw [show moveH H a c = (3, H) by unfold moveH; rw [if_pos (by rw [e1]; decide), e1]]
    refine gzU ?_
    refine t_e e_alloc rfl rfl rfl ?_; rintro _ _ ⟨b9, _, rfl, rfl⟩
    refine t_e e_alloc rfl rfl rfl ?_; rintro _ _ ⟨b10, _, rfl, rfl⟩
    refine gzU ?_
    exact k_ret [] rfl (hret _ _ _ _) (by exact zRes) ⟨rfl, _, hq, rfl⟩
  obtain ⟨oka, okc⟩ := ok_or hok
  rw [pair_t oka okc, get_t oka, get_t okc]
  refine gzU ?_
  refine t_e e_alloc rfl rfl rfl ?_; rintro _ _ ⟨b9, _, rfl, rfl⟩
  refine t_e e_alloc rfl rfl rfl ?_; rintro _ _ ⟨b10, _, rfl, rfl⟩
  refine gzU ?_
  by_cases hp : (atD H.1 a).kind = 0
  · have e1 : fromE H a c = 10 := by unfold fromE; rw [if_neg hok, if_pos hp]
    rw [show moveH H a c = (10, H) by unfold moveH; rw [if_pos (by rw [e1]; decide), e1]]
    refine gzU ?_
    exact k_ret [] rfl (hret _ _ _ _) (by exact zRes) ⟨rfl, _, hq, rfl⟩
  by_cases hw : (atD H.1 c).kind ≠ 0
  · have e1 : fromE H a c = 11 := by unfold fromE; rw [if_neg hok, if_neg hp, if_pos hw]
    rw [show moveH H a c = (11, H) by unfold moveH; rw [if_pos (by rw [e1]; decide), e1]]
    refine gzU ?_
    exact k_ret [] rfl (hret _ _ _ _) (by exact zRes) ⟨rfl, _, hq, rfl⟩
  have e1 : fromE H a c = 0 := by unfold fromE; rw [if_neg hok, if_neg hp, if_neg hw]
  rw [show moveH H a c = (0, (putD (putD H.1 a capZ) c (atD H.1 a), (Tr.moveD H.2 a c).2)) by unfold moveH; rw [if_neg (by rw [e1]; decide)]]
  obtain ⟨bs, bt, ls, lt, rfl, hs, ht⟩ := hq
  have hr0 := (has_move (t := c) hI.tree ((hI.link a).2 ⟨oka, hp⟩) (hI.no (by simpa using hw))).1
  obtain ⟨X, hX⟩ : ∃ X, X = [capC b10 (atD H.1 c), capC b9 (atD H.1 a), slC b6 c, slC b5 a, hoC b bs bt] := ⟨_, rfl⟩
  have H1 := Fn.mvP (fun A => X ++ (A ++ (lt ++ G))) (set_any bs H.1 ls hs a capZ (X ++ (lt ++ G)))
  have H2 := fun ls (hs : IsS bs (putD H.1 a capZ) ls) => Fn.mvP (fun A => X ++ (A ++ (lt ++ G))) (set_any bs _ ls hs c (atD H.1 a) (X ++ (lt ++ G)))
  have H3 := fun ls => Fn.mvP (fun A => X ++ (ls ++ (A ++ G))) (Tr.move_any bt H.2 lt ht a c (X ++ (ls ++ G)))
  rw [set_ok oka capZ_ok.1] at H1
  rw [set_ok (by rw [ok_put]; exact okc) (hI.at a).1] at H2
  rw [hr0] at H3
  rw [hX] at H1 H2 H3
  simp only [List.cons_append, List.append_assoc, List.nil_append] at H1 H2 H3 ⊢
  refine gzU ?_
  refine c_draw [(0, true), (1, true), (2, true), (3, true), (4, true), (5, true), (6, false)] [[], [0], [0, 1], [0, 1, 2], [], [], [0, 1, 2, 3, 4, 5]] ([slC b5 a, hoC b bs bt]) (by kernel_rfl) (by kernel_rfl) zAtt zHR ?_
  refine pzU ?_
  apply pl_e
  · exact e_call rfl rfl H1
  · rfl
  · rfl
  · rfl
  · rintro _ _ ⟨_, ls', _, rfl⟩
    exact zHR
  rintro _ _ ⟨rfl, ls', hs', rfl⟩
  refine pzU ?_
  refine gzU ?_
  refine c_draw [(0, true), (1, true), (2, true), (3, true), (4, true), (5, true), (6, false)] [[], [0], [0, 1], [0, 1, 2], [], [], [0, 1, 2, 3, 4, 5]] ([capC b9 (atD H.1 a), slC b6 c, hoC b bs bt]) (by kernel_rfl) (by kernel_rfl) zAtt zHR ?_
  refine pzU ?_
  apply pl_e
  · exact e_call rfl rfl (H2 ls' hs')
  · rfl
  · rfl
  · rfl
  · rintro _ _ ⟨_, ls2, _, rfl⟩
    exact zHR
  rintro _ _ ⟨rfl, ls2, hs2, rfl⟩
  refine pzU ?_
  refine gzU ?_
  refine c_draw [(0, true), (1, true), (2, true), (3, true), (4, true), (5, true), (6, false), (7, true)] [[], [0], [0, 1], [0, 1, 2], [], [], [0, 1, 2, 3, 4, 5], [0, 1, 2, 3, 4, 5, 6]] ([slC b6 c, slC b5 a, hoC b bs bt]) (by kernel_rfl) (by kernel_rfl) zAtt zHR ?_
  refine pzU ?_
  apply pl_e
  · exact e_call rfl rfl (H3 ls2)
  · rfl
  · rfl
  · rfl
  · rintro _ _ ⟨_, lt', _, rfl⟩
    exact zHR
  rintro _ _ ⟨rfl, lt', ht', rfl⟩
  refine pzU ?_
  refine gzU ?_
  exact k_ret [] rfl (l' := (hoC b bs bt :: (ls2 ++ lt')) ++ G) (.drop (.drop (.drop (.drop (.of_perm (.of_eq (by simp))))))) (by exact zRes) ⟨rfl, _, ⟨bs, bt, ls2, lt', rfl, hs2, ht'⟩, rfl⟩
theorem hswap_any (b : Nat) (H : HS) (n : Nat) (hI : InvH H n) (lq : List Chunk) (hq : IsH b H lq) (a c : slT) (G : List Chunk) :
    Fn Tryz.prog 42 [.pointer (some ⟨b, 0, none⟩), .agg (List.toArray (encT a)), .agg (List.toArray (encT c))] (lq ++ G) fun v l' => v = .int .i64 (swapH H a c).1 ∧ ∃ lq', IsH b (swapH H a c).2 lq' ∧ l' = lq' ++ G := by
  refine fn_of_body Tryz.func42 rfl rfl fun E => ?_
  simp only [argF, Tryz.ntmps42]
  refine gzU ?_
  (first | refine t_e (e_box1 rfl rfl) rfl rfl rfl ?_ | refine t_e (e_boxA rfl) rfl rfl rfl ?_); rintro _ _ ⟨b5, _, rfl, rfl⟩
  refine gzU ?_
  (first | refine t_e (e_box1 rfl rfl) rfl rfl rfl ?_ | refine t_e (e_boxA rfl) rfl rfl rfl ?_); rintro _ _ ⟨b6, _, rfl, rfl⟩
  refine gzU ?_
  refine t_q (q_call rfl rfl fun l2 hl => hpair_any b H lq hq a c l2 fun c hc => hl c (.tail _ (.tail _ (List.mem_append_left _ hc)))) rfl rfl rfl ?_
  have hret : ∀ (d e : CapT) (B C : Nat), Keep (capC B d :: capC C e :: slC b6 c :: slC b5 a :: (lq ++ G)) (lq ++ G) := fun _ _ _ _ => .drop (.drop (.drop (.drop .refl)))
  by_cases hok : okD H.1 a = false ∨ okD H.1 c = false
  · rw [pair_f hok, show swapH H a c = (3, H) by unfold swapH; rw [if_pos hok]]
    refine gzU ?_
    refine t_e e_alloc rfl rfl rfl ?_; rintro _ _ ⟨b9, _, rfl, rfl⟩
    refine t_e e_alloc rfl rfl rfl ?_; rintro _ _ ⟨b10, _, rfl, rfl⟩
    refine gzU ?_
    exact k_ret [] rfl (hret _ _ _ _) (by exact zRes) ⟨rfl, _, hq, rfl⟩
  obtain ⟨oka, okc⟩ := ok_or hok
  rw [pair_t oka okc, get_t oka, get_t okc, show swapH H a c = (0, (putD (putD H.1 a (atD H.1 c)) c (atD H.1 a), Tr.swapD H.2 a c)) by unfold swapH; rw [if_neg hok]]
  refine gzU ?_
  refine t_e e_alloc rfl rfl rfl ?_; rintro _ _ ⟨b9, _, rfl, rfl⟩
  refine t_e e_alloc rfl rfl rfl ?_; rintro _ _ ⟨b10, _, rfl, rfl⟩
  refine gzU ?_
  obtain ⟨bs, bt, ls, lt, rfl, hs, ht⟩ := hq
  obtain ⟨X, hX⟩ : ∃ X, X = [capC b10 (atD H.1 c), capC b9 (atD H.1 a), slC b6 c, slC b5 a, hoC b bs bt] := ⟨_, rfl⟩
  have H1 := Fn.mvP (fun A => X ++ (A ++ (lt ++ G))) (set_any bs H.1 ls hs a (atD H.1 c) (X ++ (lt ++ G)))
  have H2 := fun ls (hs : IsS bs (putD H.1 a (atD H.1 c)) ls) => Fn.mvP (fun A => X ++ (A ++ (lt ++ G))) (set_any bs _ ls hs c (atD H.1 a) (X ++ (lt ++ G)))
  have H3 := fun ls => Fn.mvP (fun A => X ++ (ls ++ (A ++ G))) (Tr.swap_any bt H.2 lt ht a c (X ++ (ls ++ G)))
  rw [set_ok oka (hI.at c).1] at H1
  rw [set_ok (by rw [ok_put]; exact okc) (hI.at a).1] at H2
  rw [hX] at H1 H2 H3
  simp only [List.cons_append, List.append_assoc, List.nil_append] at H1 H2 H3 ⊢
  refine gzU ?_
  refine c_draw [(0, true), (1, true), (2, true), (3, true), (4, true), (5, true), (6, false)] [[], [0], [0, 1], [0, 1, 2], [], [], [0, 1, 2, 3, 4, 5]] ([capC b10 (atD H.1 c), slC b5 a, hoC b bs bt]) (by kernel_rfl) (by kernel_rfl) zAtt zHR ?_
  refine pzU ?_
  apply pl_e
  · exact e_call rfl rfl H1
  · rfl
  · rfl
  · rfl
  · rintro _ _ ⟨_, ls', _, rfl⟩
    exact zHR
  rintro _ _ ⟨rfl, ls', hs', rfl⟩
  refine pzU ?_
  refine gzU ?_
  refine c_draw [(0, true), (1, true), (2, true), (3, true), (4, true), (5, true), (6, false)] [[], [0], [0, 1], [0, 1, 2], [], [], [0, 1, 2, 3, 4, 5]] ([capC b9 (atD H.1 a), slC b6 c, hoC b bs bt]) (by kernel_rfl) (by kernel_rfl) zAtt zHR ?_
  refine pzU ?_
  apply pl_e
  · exact e_call rfl rfl (H2 ls' hs')
  · rfl
  · rfl
  · rfl
  · rintro _ _ ⟨_, ls2, _, rfl⟩
    exact zHR
  rintro _ _ ⟨rfl, ls2, hs2, rfl⟩
  refine pzU ?_
  refine gzU ?_
  refine c_draw [(0, true), (1, true), (2, true), (3, true), (4, true), (5, true), (6, false), (7, true)] [[], [0], [0, 1], [0, 1, 2], [], [], [0, 1, 2, 3, 4, 5], [0, 1, 2, 3, 4, 5, 6]] ([slC b6 c, slC b5 a, hoC b bs bt]) (by kernel_rfl) (by kernel_rfl) zAtt zHR ?_
  refine pzU ?_
  apply pl_e
  · exact e_call rfl rfl (H3 ls2)
  · rfl
  · rfl
  · rfl
  · rintro _ _ ⟨_, lt', _, rfl⟩
    exact zHR
  rintro _ _ ⟨rfl, lt', ht', rfl⟩
  refine pzU ?_
  refine gzU ?_
  exact k_ret [] rfl (l' := (hoC b bs bt :: (ls2 ++ lt')) ++ G) (.drop (.drop (.drop (.drop (.of_perm (.of_eq (by simp))))))) (by exact zRes) ⟨rfl, _, ⟨bs, bt, ls2, lt', rfl, hs2, ht'⟩, rfl⟩
theorem hclear_any (b : Nat) (H : HS) (n : Nat) (hI : InvH H n) (hn : n ≤ 1000) (lq : List Chunk) (hq : IsH b H lq) (s : slT) (G : List Chunk) :
    Fn Tryz.prog 24 [.pointer (some ⟨b, 0, none⟩), .agg (List.toArray (encT s))] (lq ++ G) fun v l' => v = .tuple #[.agg (List.toArray (encC (clearH H s).1.1)), .int .i64 (clearH H s).1.2] ∧ ∃ lq', IsH b (clearH H s).2 lq' ∧ l' = lq' ++ G := by
  refine fn_of_body Tryz.func24 rfl rfl fun E => ?_
  simp only [argF, Tryz.ntmps24]
  refine gzU ?_
  (first | refine t_e (e_box1 rfl rfl) rfl rfl rfl ?_ | refine t_e (e_boxA rfl) rfl rfl rfl ?_); rintro _ _ ⟨b3, _, rfl, rfl⟩
  refine gzU ?_
  refine t_e e_alloc rfl rfl rfl ?_; rintro _ _ ⟨b4, _, rfl, rfl⟩
  refine gzU ?_
  refine t_q (q_call rfl rfl fun l2 hl => hget_any b H lq hq s l2 fun c hc => hl c (.tail _ (.tail _ (List.mem_append_left _ hc)))) rfl rfl rfl ?_
  have hK : ∀ (d2 c6 : CapT) (B : Nat), Keep (capC B d2 :: capC b4 c6 :: slC b3 s :: (lq ++ G)) (capC b4 c6 :: (lq ++ G)) := fun _ _ _ => .drop (.pick .here (.drop .refl))
  cases hok : okD H.1 s with
  | false =>
    rw [get_f hok, show clearH H s = ((capZ, 3), H) by unfold clearH; rw [if_pos hok]]
    refine gzU ?_
    refine t_e e_alloc rfl rfl rfl ?_; rintro _ _ ⟨b6, _, rfl, rfl⟩
    refine gzU ?_
    exact k_ret2 [] (capC b4 capZ :: (lq ++ G)) rfl (l' := lq ++ G) (hK capZ capZ b6) (by exact zRes) (.drop .refl) ⟨rfl, _, hq, rfl⟩
  | true =>
  rw [get_t hok]
  refine gzU ?_
  refine t_e e_alloc rfl rfl rfl ?_; rintro _ _ ⟨b6, _, rfl, rfl⟩
  refine gzU ?_
  by_cases hw : (atD H.1 s).kind = 0
  · rw [show clearH H s = ((capZ, 10), H) by unfold clearH; rw [if_neg (by rw [hok]; decide), if_pos hw]]
    refine gzU ?_
    exact k_ret2 [] (capC b4 capZ :: (lq ++ G)) rfl (l' := lq ++ G) (hK (atD H.1 s) capZ b6) (by exact zRes) (.drop .refl) ⟨rfl, _, hq, rfl⟩
  rw [show clearH H s = ((atD H.1 s, 0), (putD H.1 s capZ, (Tr.removeD H.2 s).2)) by unfold clearH; rw [if_neg (by rw [hok]; decide), if_neg hw]]
  obtain ⟨bs, bt, ls, lt, rfl, hs, ht⟩ := hq
  obtain ⟨X, hX⟩ : ∃ X, X = [capC b6 (atD H.1 s), capC b4 capZ, slC b3 s, hoC b bs bt] := ⟨_, rfl⟩
  have H1 := Fn.mvP (fun A => X ++ (A ++ (lt ++ G))) (set_any bs H.1 ls hs s capZ (X ++ (lt ++ G)))
  have H2 := fun ls => Fn.mvP (fun A => X ++ (ls ++ (A ++ G))) (Tr.remove_any bt H.2 lt ht (hI.small hn).2.2 s (X ++ (ls ++ G)))
  rw [set_ok hok capZ_ok.1] at H1
  rw [hX] at H1 H2
  simp only [List.cons_append, List.append_assoc, List.nil_append] at H1 H2 ⊢
  refine gzU ?_
  refine c_draw [(0, true), (1, true), (2, true), (3, true), (4, true), (5, true), (6, false)] [[], [0], [0, 1], [0, 1, 2], [], [], [0, 1, 2, 3, 4, 5]] ([slC b3 s, hoC b bs bt]) (by kernel_rfl) (by kernel_rfl) zAtt zHR ?_
  refine pzU ?_
  apply pl_e
  · exact e_call rfl rfl H1
  · rfl
  · rfl
  · rfl
  · rintro _ _ ⟨_, ls', _, rfl⟩
    exact zHR
  rintro _ _ ⟨rfl, ls', hs', rfl⟩
  refine pzU ?_
  refine gzU ?_
  refine c_draw [(0, true), (1, true), (2, true), (3, true), (4, true), (5, false)] [[], [0], [0, 1], [0, 1, 2], [], [0, 1, 2, 3, 4]] ([slC b3 s, hoC b bs bt]) (by kernel_rfl) (by kernel_rfl) zAtt zHR ?_
  refine pzU ?_
  apply pl_e
  · exact e_call rfl rfl (H2 ls')
  · rfl
  · rfl
  · rfl
  · rintro _ _ ⟨_, lt', _, rfl⟩
    exact zHR
  rintro _ _ ⟨rfl, lt', ht', rfl⟩
  refine pzU ?_
  refine gzU ?_
  exact k_ret2 [] (capC b4 (atD H.1 s) :: ((hoC b bs bt :: (ls' ++ lt')) ++ G)) rfl (l' := (hoC b bs bt :: (ls' ++ lt')) ++ G) (.drop (.pick .here (.drop (.of_perm (.of_eq (by simp)))))) (by exact zRes) (.drop .refl) ⟨rfl, _, ⟨bs, bt, ls', lt', rfl, hs', ht'⟩, rfl⟩
end Go.Proofs.YtpplknmmjlgadaaGreat

/- hold: those alike, Final. -/
-- GU
set_option linter.unusedVariables false
set_option linter.unusedSimpArgs false
namespace Go.Proofs.YtpplknmmjlgadaaGreat
open Go.RowKit
set_option maxRecDepth 20000

abbrev hpC (B b : Nat) : Chunk := (B, .cells #[.pointer (some ⟨b, 0, none⟩)] 24 (0, 0))
def likeP (s : slT) (c : CapT) (x : HdT) : Bool := !decide (x.1 = s) && alikeB x.2 c
def likes (D : SD) (s : slT) (c : CapT) (i : Nat) : List slT := (((usedD D).take i).filter (likeP s c)).map Prod.fst
theorem likes_snoc {D : SD} {s : slT} {c : CapT} {i : Nat} {x : HdT} (h : (usedD D)[i]? = some x) : likes D s c (i + 1) = if likeP s c x = true then likes D s c i ++ [x.1] else likes D s c i := by
  unfold likes
  rw [List.take_add_one, h, Option.toList_some, List.filter_append, List.map_append]
  by_cases hp : likeP s c x = true
  · rw [if_pos hp, List.filter_cons_of_pos (by exact hp)]; rfl
  · rw [if_neg hp, List.filter_cons_of_neg (by exact hp)]; simp
theorem likes_pre (D : SD) (s : slT) (c : CapT) (i : Nat) : likes D s c i <+: likes D s c (usedD D).length := by
  unfold likes
  rw [List.take_length]
  exact ((List.take_prefix i _).filter _).map _
theorem OwnSl.hds' {v : Value} {L : List HdT} {cs l : List Chunk} (h : OwnSl 46 10 v L.length (hcs L) cs) (hs : ∀ c, c ∈ cs → c ∈ l) : RowSl l v 10 encE L := OwnSl.rowSl (enc := encE) h (fun _ => rfl) hs
set_option pp.deepTerms false
set_option pp.deepTerms.threshold 4
set_option maxHeartbeats 400000
theorem halike_any (b : Nat) (s : slT) (c : CapT) (l : List Chunk) :
    Fn Tryz.prog 65 [.pointer (some ⟨b, 0, none⟩), .agg (List.toArray (encT s)), .agg (List.toArray (encC c))] l fun v l' =>
      ∃ B1 B2 B3, v = .func (.func 102) #[] #[.pointer (some ⟨B1, 0, none⟩), .pointer (some ⟨B2, 0, none⟩), .pointer (some ⟨B3, 0, none⟩)] ∧ l' = capC B3 c :: slC B2 s :: hpC B1 b :: l := by
  refine fn_of_body Tryz.func65 rfl rfl fun E => ?_
  simp only [argF, Tryz.ntmps65]
  refine gzU ?_
  (first | refine t_e (e_box1 rfl rfl) rfl rfl rfl ?_ | refine t_e (e_boxA rfl) rfl rfl rfl ?_); rintro _ _ ⟨b1, _, rfl, rfl⟩
  refine gzU ?_
  (first | refine t_e (e_box1 rfl rfl) rfl rfl rfl ?_ | refine t_e (e_boxA rfl) rfl rfl rfl ?_); rintro _ _ ⟨b2, _, rfl, rfl⟩
  refine gzU ?_
  (first | refine t_e (e_box1 rfl rfl) rfl rfl rfl ?_ | refine t_e (e_boxA rfl) rfl rfl rfl ?_); rintro _ _ ⟨b3, _, rfl, rfl⟩
  refine gzU ?_
  exact k_ret [] rfl .refl (by exact zRes) ⟨_, _, _, rfl, rfl⟩
theorem alike_iter (B1 B2 B3 b : Nat) (H : HS) (n : Nat) (hI : InvH H n) (hn : n ≤ 1000) (lq : List Chunk) (hq : IsH b H lq) (s : slT) (c : CapT) (hul : (usedD H.1).length ≤ 900000) :
    IterS Tryz.prog 102 [.pointer (some ⟨B1, 0, none⟩), .pointer (some ⟨B2, 0, none⟩), .pointer (some ⟨B3, 0, none⟩)] (fun y : slT => [.agg (List.toArray (encT y))]) (fun xs => xs = likes H.1 s c (usedD H.1).length) (fun pre => pre <+: likes H.1 s c (usedD H.1).length)
      (fun _ l => (∀ x, x ∈ [hpC B1 b, slC B2 s, capC B3 c] → x ∈ l) ∧ (∀ c, c ∈ lq → c ∈ l)) := by
  refine ⟨fun r I Ix G0 hneed hY l G hG h0 => ?_⟩
  obtain ⟨n1, n2⟩ := hneed _ _ G hG h0
  have m1 := n1 (hpC B1 b) (by simp)
  refine fn_of_body Tryz.func102 rfl rfl fun E => ?_
  simp only [argF, Tryz.ntmps102]
  refine gzU ?_
  refine t_e (e_call0 rfl rfl (hused_any b H lq hq (hI.small hn).1 _ n2)) rfl rfl rfl ?_
  rintro v _ ⟨cs, ho, rfl⟩
  obtain ⟨U, hU⟩ : ∃ U, usedD H.1 = U := ⟨_, rfl⟩
  have hlk := @likes_snoc H.1 s c
  have hlp := likes_pre H.1 s c
  rw [hU] at ho hul hlk hlp hY ⊢
  have hR := fun (l2 : List Chunk) (h : ∀ c, c ∈ cs → c ∈ l2) => ho.hds' h
  obtain ⟨p, cap, rfl⟩ := ho.shape
  refine gzU ?_
  refine k_loop (α := Nat × List Chunk) (fun x => [(0, .func (.yield r) #[] #[]), (2, .pointer (some ⟨B2, 0, none⟩)), (3, .pointer (some ⟨B3, 0, none⟩)), (8, .slice p U.length cap), (9, .int .i64 U.length), (10, .int .i64 x.1)]) (fun x => x.2 ++ (cs ++ G)) (fun x => x.1 ≤ U.length ∧ I (likes H.1 s c x.1) x.2) (fun x => U.length - x.1) (0, l) ⟨Nat.zero_le _, h0⟩ ⟨rfl, rfl, rfl, rfl, rfl, rfl, trivial⟩ (Keep.in_mid cs l G) ?_
  clear n1 n2 m1 h0
  rintro ⟨i, l⟩ ⟨hi, hI'⟩
  simp only at hi hI' ⊢
  by_cases hlt : i < U.length
  case neg =>
    obtain rfl : i = U.length := by omega
    refine gzU ?_
    exact k_ret [] rfl (l' := l ++ G) (keep_ac cs) (by exact zRes) ⟨l, rfl, .inl ⟨_, rfl, hI'⟩⟩
  obtain ⟨x, hx⟩ : ∃ x, U[i]? = some x := ⟨_, List.getElem?_eq_getElem hlt⟩
  have hsn := hlk hx
  obtain ⟨a0, cp, hv, hrow⟩ := hR (l ++ (cs ++ G)) (fun c hc => List.mem_append_right _ (List.mem_append_left _ hc))
  obtain ⟨gb, off, xs, ty, fz, rfl, hm, hc⟩ := hrow (by omega)
  obtain ⟨g1, g2⟩ := hc i x hx
  cases hv
  obtain ⟨n1, n2⟩ := hneed (likes H.1 s c i) l (cs ++ G) (fun c hc => List.mem_append_right _ (hG c hc)) hI'
  refine gzU ?_
  refine t_q (q_loadA rfl hm g1 g2) rfl rfl rfl ?_
  refine gzU ?_
  refine t_e e_alloc rfl rfl rfl ?_; rintro _ _ ⟨b6, _, rfl, rfl⟩
  have m2 : slC B2 s ∈ l ++ (cs ++ G) := n1 _ (by simp)
  have m3 : capC B3 c ∈ l ++ (cs ++ G) := n1 _ (by simp)
  refine gzU ?_
  refine t_q (q_eqagg rfl rfl (encT_k x.1) (encT_k s)) rfl rfl rfl ?_
  by_cases hxs : x.1 = s
  · rw [hxs, eqCells_self (encT_k s)]
    rw [if_neg (by unfold likeP; rw [decide_eq_true hxs]; simp)] at hsn
    refine gzU ?_
    exact k_next (i + 1, l) ⟨by simp only; omega, by rw [hsn]; exact hI'⟩ (by simp only; omega) ⟨rfl, rfl, rfl, rfl, rfl, rfl, trivial⟩ (.drop .refl)
  rw [eqT_f hxs]
  refine gzU ?_
  refine t_h (q_call rfl rfl fun l2 hl => alike_any x.2 c l2) rfl rfl rfl ?_
  cases ha : alikeB x.2 c with
  | false =>
    rw [if_neg (by unfold likeP; rw [ha]; simp)] at hsn
    refine gzU ?_
    exact k_next (i + 1, l) ⟨by simp only; omega, by rw [hsn]; exact hI'⟩ (by simp only; omega) ⟨rfl, rfl, rfl, rfl, rfl, rfl, trivial⟩ (.drop .refl)
  | true =>
  rw [if_pos (by unfold likeP; rw [ha, decide_eq_false hxs]; rfl)] at hsn
  have hp := hlp (i + 1)
  rw [hsn] at hp
  have hy := hY (likes H.1 s c i) x.1 l (hdC b6 x :: (cs ++ G)) (fun c hc => .tail _ (List.mem_append_right _ (hG c hc))) hI' hp
  refine gzU ?_
  refine s_keep (Keep.in_mid [hdC b6 x] l (cs ++ G)) ?_
  refine t_eh (e_yield rfl rfl hy) rfl rfl rfl ?_
  rintro w l' ⟨l1, rfl, ⟨rfl, hI2⟩ | ⟨rfl, hx2⟩⟩
  · refine gzU ?_
    exact k_next (i + 1, l1) ⟨by simp only; omega, by rw [hsn]; exact hI2⟩ (by simp only; omega) ⟨rfl, rfl, rfl, rfl, rfl, rfl, trivial⟩ (keep_ac [hdC b6 x])
  · refine gzU ?_
    exact k_ret [] rfl (l' := l1 ++ G) (keep_ac (hdC b6 x :: cs)) (by exact zRes) ⟨l1, rfl, .inr ⟨_, hp, hx2⟩⟩
theorem final_nil {H : HS} {s : slT} (h1 : okD H.1 s = true) (h2 : (atD H.1 s).kind ≠ 0) : finalH H s = decide (likes H.1 s (atD H.1 s) (usedD H.1).length = []) := by
  unfold finalH likes
  rw [Bool.eq_iff_iff, decide_eq_true_iff, h1, decide_eq_false h2, List.take_length, List.map_eq_nil_iff, List.filter_eq_nil_iff]
  simp only [Bool.not_false, Bool.true_and, Bool.and_true, List.all_eq_true]
  constructor
  · intro h x hx hl
    have := h x hx
    unfold likeP at hl
    cases hd : decide (x.1 = s) <;> cases ha : alikeB x.2 (atD H.1 s) <;> simp_all
  · intro h x hx
    have := h x hx
    unfold likeP at this
    cases hd : decide (x.1 = s) <;> cases ha : alikeB x.2 (atD H.1 s) <;> simp_all
theorem hfinal_any (b : Nat) (H : HS) (n : Nat) (hI : InvH H n) (hn : n ≤ 1000) (lq : List Chunk) (hq : IsH b H lq) (s : slT) (hul : (usedD H.1).length ≤ 900000) (l : List Chunk) (hsub : ∀ c, c ∈ lq → c ∈ l) :
    Fn Tryz.prog 23 [.pointer (some ⟨b, 0, none⟩), .agg (List.toArray (encT s))] l fun v l' => v = .bool (finalH H s) ∧ l' = l := by
  refine fn_of_body Tryz.func23 rfl rfl fun E => ?_
  simp only [argF, Tryz.ntmps23]
  refine gzU ?_
  (first | refine t_e (e_box1 rfl rfl) rfl rfl rfl ?_ | refine t_e (e_boxA rfl) rfl rfl rfl ?_); rintro _ _ ⟨b3, _, rfl, rfl⟩
  refine gzU ?_
  refine t_e e_alloc rfl rfl rfl ?_; rintro _ _ ⟨b4, _, rfl, rfl⟩
  refine gzU ?_
  refine t_q (q_call rfl rfl fun l2 hl => hget_any b H lq hq s l2 fun c hc => hl c (.tail _ (.tail _ (hsub c hc)))) rfl rfl rfl ?_
  cases hok : okD H.1 s with
  | false =>
    rw [get_f hok, show finalH H s = false by unfold finalH; rw [hok]; rfl]
    refine gzU ?_
    refine t_e e_alloc rfl rfl rfl ?_; rintro _ _ ⟨b5, _, rfl, rfl⟩
    refine gzU ?_
    exact k_ret2 [] ((b4, .cells (List.toArray [.bool false]) 4 (0, 0)) :: l) rfl (l' := l) (.drop (.pick .here (.drop .refl))) (by exact zRes) (.drop .refl) ⟨rfl, rfl⟩
  | true =>
  rw [get_t hok]
  refine gzU ?_
  refine t_e e_alloc rfl rfl rfl ?_; rintro _ _ ⟨b5, _, rfl, rfl⟩
  refine gzU ?_
  by_cases hw : (atD H.1 s).kind = 0
  · rw [show finalH H s = false by unfold finalH; rw [decide_eq_true hw]; simp]
    refine gzU ?_
    exact k_ret2 [] ((b4, .cells (List.toArray [.bool false]) 4 (0, 0)) :: l) rfl (l' := l) (.drop (.pick .here (.drop .refl))) (by exact zRes) (.drop .refl) ⟨rfl, rfl⟩
  rw [final_nil hok hw]
  refine gzU ?_
  refine t_e (e_call0 rfl rfl (halike_any b s (atD H.1 s) _)) rfl rfl rfl ?_
  rintro _ _ ⟨B1, B2, B3, rfl, rfl⟩
  refine gzU ?_
  refine c_range (α := slT) (ps := [24]) (lb := [.pointer (some ⟨B1, 0, none⟩), .pointer (some ⟨B2, 0, none⟩), .pointer (some ⟨B3, 0, none⟩)]) rfl (alike_iter B1 B2 B3 b H n hI hn lq hq s (atD H.1 s) hul) (fun _ => rfl) rfl
    (fun pre l => l = [capC B3 (atD H.1 s), slC B2 s, hpC B1 b, (b4, .cells (List.toArray [.bool false]) 4 (0, 0))] ∧ pre = [])
    (fun c pre l => c = .ret ∧ pre ≠ [] ∧ l = [(b4, .cells (List.toArray [.bool false]) 4 (0, 0))])
    _ (capC b5 (atD H.1 s) :: slC b3 s :: l) (fun pre l2 X2 hX h => ⟨fun x hx => by rw [h.1]; exact List.mem_append_left _ (by simp only [List.mem_cons, List.not_mem_nil, or_false] at hx ⊢; rcases hx with h | h | h <;> simp [h]), fun c hc => List.mem_append_right _ (hX _ (.tail _ (.tail _ (hsub _ hc))))⟩) (by exact zKeep) ⟨rfl, rfl⟩ ?_ ?_ ?_
  · rintro E r0 rec pre x l' T ⟨fn, tmps, D0, rfl⟩ hT ⟨rfl, rfl⟩ hsp
    simp only [putPs, List.cons_append, List.nil_append]
    refine gzU ?_
    refine p_begin (by exact zUpd) ?_
    refine gzU ?_
    refine p_round_ret [(b4, .cells (List.toArray [.bool false]) 4 (0, 0))] (by exact zKeep) ⟨rfl, by simp, rfl⟩
  · rintro D0 xs l' hS ⟨rfl, rfl⟩
    rw [← hS]
    simp only [List.cons_append, List.nil_append]
    refine gzU ?_
    exact k_ret2 [D0] ((b4, .cells (List.toArray [.bool true]) 4 (0, 0)) :: l) rfl (l' := l) (by exact zKeep) (by exact zRes) (.drop .refl) ⟨rfl, rfl⟩
  · rintro D0 c pre l' hsp ⟨rfl, hne, rfl⟩
    have hL : likes H.1 s (atD H.1 s) (usedD H.1).length ≠ [] := fun e => by rw [e] at hsp; exact hne (List.prefix_nil.1 hsp)
    rw [decide_eq_false hL]
    simp only [List.cons_append, List.nil_append]
    refine gzU ?_
    exact k_ret2 [D0] ((b4, .cells (List.toArray [.bool false]) 4 (0, 0)) :: l) rfl (l' := l) (by exact zKeep) (by exact zRes) (.drop .refl) ⟨rfl, rfl⟩
end Go.Proofs.YtpplknmmjlgadaaGreat

/- Chapter 18's own answer: its blocks; New, Cap, some, Root, Child, Set, from. -/
-- GU
set_option linter.unusedVariables false
set_option linter.unusedSimpArgs false
namespace Go.Proofs.YtpplknmmjlgadaaGreat
open Go.RowKit
set_option maxRecDepth 20000

abbrev rhoC (b bs bt : Nat) : Chunk := (b, .cells (List.toArray [.pointer (some ⟨bs, 0, none⟩), .pointer (some ⟨bt, 0, none⟩)]) 71 (0, 0))
structure RHB (b bs bt : Nat) (H : HS) (ls lt lq : List Chunk) : Prop where
  eq : lq = rhoC b bs bt :: (ls ++ lt)
  s : IsR bs H.1 ls
  t : Tr.IsR bt H.2 lt
def IsRH (b : Nat) (H : HS) (lq : List Chunk) : Prop := ∃ bs bt ls lt, RHB b bs bt H ls lt lq
theorem RHB.h {b bs bt : Nat} {H : HS} {ls lt lq : List Chunk} (h : RHB b bs bt H ls lt lq) : rhoC b bs bt ∈ lq := by rw [h.eq]; exact .head _
theorem RHB.m1 {b bs bt : Nat} {H : HS} {ls lt lq : List Chunk} (h : RHB b bs bt H ls lt lq) : ∀ c, c ∈ ls → c ∈ lq := fun c hc => by rw [h.eq]; exact .tail _ (List.mem_append_left _ hc)
theorem RHB.m2 {b bs bt : Nat} {H : HS} {ls lt lq : List Chunk} (h : RHB b bs bt H ls lt lq) : ∀ c, c ∈ lt → c ∈ lq := fun c hc => by rw [h.eq]; exact .tail _ (List.mem_append_right _ hc)
theorem get_1 {D : SD} (s : slT) (h : okD D s = true) : (getD' D s).1 = atD D s := by rw [get_t h]
set_option pp.deepTerms false
set_option pp.deepTerms.threshold 4
set_option maxHeartbeats 400000
theorem rhnew_any (l : List Chunk) : Fn Tryz.prog 31 [] l fun v l' => ∃ b, v = .pointer (some ⟨b, 0, none⟩) ∧ ∃ lq, IsRH b ([], []) lq ∧ l' = lq ++ l := by
  refine fn_of_body Tryz.func31 rfl rfl fun E => ?_
  simp only [argF, Tryz.ntmps31]
  refine gzU ?_
  (first | refine t_e (e_box1 rfl rfl) rfl rfl rfl ?_ | refine t_e (e_boxA rfl) rfl rfl rfl ?_); rintro _ _ ⟨bs, _, rfl, rfl⟩
  refine gzU ?_
  (first | refine t_e (e_box1 rfl rfl) rfl rfl rfl ?_ | refine t_e (e_boxA rfl) rfl rfl rfl ?_); rintro _ _ ⟨bt, _, rfl, rfl⟩
  refine gzU ?_
  (first | refine t_e (e_box1 rfl rfl) rfl rfl rfl ?_ | refine t_e (e_boxA rfl) rfl rfl rfl ?_); rintro _ _ ⟨b, _, rfl, rfl⟩
  refine gzU ?_
  exact k_ret [] rfl (l' := (rhoC b bs bt :: ([rxC bs (.slice none 0 0)] ++ [Tr.rcC bt (.slice none 0 0)])) ++ l) (keep_ac (A := rhoC b bs bt :: Tr.rcC bt (.slice none 0 0) :: rxC bs (.slice none 0 0) :: l) []) (by exact zRes) ⟨b, rfl, _, ⟨bs, bt, _, _, rfl, ⟨[], _, [], rfl, rfl, OwnSl.nil _ _, List.Pairwise.nil, fun x hx => by cases hx⟩, ⟨_, [], rfl, OwnSl.nil _ _⟩⟩, rfl⟩
theorem rsome_any (c : CapT) (hw : CapW c) (l : List Chunk) : Fn Tryz.prog 78 [.agg (List.toArray (encC c))] l fun v l' => v = .bool (someC c) ∧ l' = l := by
  refine fn_of_body Tryz.func78 rfl rfl fun E => ?_
  simp only [argF, Tryz.ntmps78]
  refine gzU ?_
  (first | refine t_e (e_box1 rfl rfl) rfl rfl rfl ?_ | refine t_e (e_boxA rfl) rfl rfl rfl ?_); rintro _ _ ⟨b1, _, rfl, rfl⟩
  unfold someC
  by_cases hk : c.kind = 0
  · rw [decide_eq_true hk, Bool.not_true, Bool.and_false]
    refine gzU ?_
    exact k_ret [] rfl (.drop .refl) (by exact zRes) ⟨rfl, rfl⟩
  · rw [decide_eq_false hk, Bool.not_false, Bool.and_true]
    refine gzU ?_
    refine t_h (q_call rfl rfl fun l2 _ => rmay_any c l2) rfl rfl rfl ?_
    rw [may_eq c hw.guard]
    refine gzU ?_
    exact k_ret [] rfl (.drop .refl) (by exact zRes) ⟨rfl, rfl⟩
theorem rcap_any (b : Nat) (H : HS) (lq : List Chunk) (hq : IsRH b H lq) (hn : H.1.length ≤ 2000) (s : slT) (l : List Chunk) (hsub : ∀ c, c ∈ lq → c ∈ l) :
    Fn Tryz.prog 79 [.pointer (some ⟨b, 0, none⟩), .agg (List.toArray (encT s))] l fun v l' => v = .agg (List.toArray (encC (getD' H.1 s).1)) ∧ l' = l := by
  obtain ⟨bs, bt, ls, lt, hb⟩ := hq
  have hm := hsub _ hb.h
  refine fn_of_body Tryz.func79 rfl rfl fun E => ?_
  simp only [argF, Tryz.ntmps79]
  refine gzU ?_
  (first | refine t_e (e_box1 rfl rfl) rfl rfl rfl ?_ | refine t_e (e_boxA rfl) rfl rfl rfl ?_); rintro _ _ ⟨b3, _, rfl, rfl⟩
  refine gzU ?_
  refine t_e e_alloc rfl rfl rfl ?_; rintro _ _ ⟨b4, _, rfl, rfl⟩
  refine gzU ?_
  refine c_draw [(0, true), (1, true), (2, true), (3, true), (4, true), (5, true), (6, true), (7, true), (8, true), (9, false), (10, false), (11, true)] [[], [0], [0, 1], [0, 1, 2], [], [0, 1, 2, 3, 4], [0, 1, 2, 3, 4, 5], [0, 1, 2, 3, 4, 5, 6], [0, 1, 2, 3, 4, 5, 6], [], [0, 1, 2, 3, 4, 5, 6, 7, 9], [0, 1, 2, 3, 4, 5, 6, 7, 8, 9, 10]] (slC b3 s :: l) (by kernel_rfl) (by kernel_rfl) zAtt zHR ?_
  refine pzU ?_
  refine pl_h (q_call rfl rfl fun l2 hl => rget_any bs H.1 ls hb.s (by omega) s l2 fun c hc => hl _ (.tail _ (hsub _ (hb.m1 c hc)))) rfl rfl rfl ?_
  refine pzU ?_
  apply pl_e
  · exact e_alloc
  · rfl
  · rfl
  · rfl
  · rintro _ _ ⟨b5, _, _, rfl⟩ z hz
    exact .tail _ (.tail _ hz)
  rintro _ _ ⟨b5, _, rfl, rfl⟩
  refine pzU ?_
  refine gzU ?_
  exact k_ret2 [] (capC b4 (getD' H.1 s).1 :: slC b3 s :: l) rfl (l' := l) (.drop .refl) (by exact zRes) (.drop (.drop .refl)) ⟨rfl, rfl⟩
theorem rhroot_any (b : Nat) (H : HS) (n : Nat) (hI : InvH H n) (hn : n ≤ 1000) (lq : List Chunk) (hq : IsRH b H lq) (s : slT) (c : CapT) (hw : CapW c) (G : List Chunk) :
    Fn Tryz.prog 34 [.pointer (some ⟨b, 0, none⟩), .agg (List.toArray (encT s)), .agg (List.toArray (encC c))] (lq ++ G) fun v l' => v = .int .i64 (rootH H s c).1 ∧ ∃ lq', IsRH b (rootH H s c).2 lq' ∧ l' = lq' ++ G := by
  obtain ⟨z1, z2, z3⟩ := hI.small hn
  have hq0 := hq
  obtain ⟨bs, bt, ls, lt, hb⟩ := hq
  have hm : rhoC b bs bt ∈ lq ++ G := List.mem_append_left _ hb.h
  refine fn_of_body Tryz.func34 rfl rfl fun E => ?_
  simp only [argF, Tryz.ntmps34]
  refine gzU ?_
  (first | refine t_e (e_box1 rfl rfl) rfl rfl rfl ?_ | refine t_e (e_boxA rfl) rfl rfl rfl ?_); rintro _ _ ⟨b4, _, rfl, rfl⟩
  refine gzU ?_
  (first | refine t_e (e_box1 rfl rfl) rfl rfl rfl ?_ | refine t_e (e_boxA rfl) rfl rfl rfl ?_); rintro _ _ ⟨b5, _, rfl, rfl⟩
  refine gzU ?_
  have hret : Keep (capC b5 c :: slC b4 s :: (lq ++ G)) (lq ++ G) := .drop (.drop .refl)
  refine c_draw [(0, true), (1, true), (2, true), (3, true), (4, true), (5, true), (6, true)] [[], [0], [0, 1], [0, 1, 2], [], [0, 1, 2, 3, 4], [0, 1, 2, 3, 4, 5]] (capC b5 c :: slC b4 s :: (lq ++ G)) (by kernel_rfl) (by kernel_rfl) zAtt zHR ?_
  refine pzU ?_
  refine pl_h (q_call rfl rfl fun l2 hl => rhas_any bs H.1 ls hb.s (by omega) s l2 fun c hc => hl _ (.tail _ (.tail _ (List.mem_append_left _ (hb.m1 c hc))))) rfl rfl rfl ?_
  cases hok : okD H.1 s with
  | false =>
    rw [show rootH H s c = (3, H) by unfold rootH; rw [if_pos hok]]
    refine pzU ?_
    refine gzU ?_
    exact k_ret [] rfl hret (by exact zRes) ⟨rfl, _, hq0, rfl⟩
  | true =>
  have e0 : rootH H s c = if someC c = false then (5, H) else if (atD H.1 s).kind ≠ 0 then (11, H) else (0, (putD H.1 s c, (Tr.rootD H.2 s).2)) := by unfold rootH; rw [if_neg (by rw [hok]; decide)]
  rw [e0]
  refine pzU ?_
  refine gzU ?_
  refine t_q (q_call rfl rfl fun l2 hl => rsome_any c hw l2) rfl rfl rfl ?_
  cases hsc : someC c with
  | false =>
    rw [if_pos rfl]
    refine gzU ?_
    exact k_ret [] rfl hret (by exact zRes) ⟨rfl, _, hq0, rfl⟩
  | true =>
  rw [if_neg (by decide)]
  refine gzU ?_
  refine t_q (q_call rfl rfl fun l2 hl => rcap_any b H lq hq0 z1 s l2 fun c hc => hl _ (.tail _ (.tail _ (List.mem_append_left _ hc)))) rfl rfl rfl ?_
  rw [get_1 s hok]
  by_cases hw2 : (atD H.1 s).kind ≠ 0
  · rw [if_pos hw2]
    refine gzU ?_
    exact k_ret [] rfl hret (by exact zRes) ⟨rfl, _, hq0, rfl⟩
  rw [if_neg hw2]
  obtain ⟨rfl, hs, ht⟩ := hb
  obtain ⟨X, hX⟩ : ∃ X, X = [capC b5 c, slC b4 s, rhoC b bs bt] := ⟨_, rfl⟩
  have H1 := Fn.mvP (fun A => X ++ (A ++ (lt ++ G))) (rset_any bs H.1 ls hs (by omega) s c hw.guard (X ++ (lt ++ G)))
  have H2 := fun ls => Fn.mvP (fun A => X ++ (ls ++ (A ++ G))) (Tr.rroot_any bt H.2 lt ht (by omega) s (X ++ (ls ++ G)))
  rw [set_ok hok (some_c hsc).1] at H1
  rw [hX] at H1 H2
  simp only [List.cons_append, List.append_assoc, List.nil_append] at H1 H2 ⊢
  refine gzU ?_
  refine c_draw [(0, true), (1, true), (2, true), (3, true), (4, true), (5, true), (6, false)] [[], [0], [0, 1], [0, 1, 2], [], [], [0, 1, 2, 3, 4, 5]] ([capC b5 c, slC b4 s, rhoC b bs bt]) (by kernel_rfl) (by kernel_rfl) zAtt zHR ?_
  refine pzU ?_
  apply pl_e
  · exact e_call rfl rfl H1
  · rfl
  · rfl
  · rfl
  · rintro _ _ ⟨_, ls', _, rfl⟩
    exact zHR
  rintro _ _ ⟨rfl, ls', hs', rfl⟩
  refine pzU ?_
  refine gzU ?_
  refine c_draw [(0, true), (1, true), (2, true), (3, true), (4, true), (5, false)] [[], [0], [0, 1], [0, 1, 2], [], [0, 1, 2, 3, 4]] ([slC b4 s, rhoC b bs bt]) (by kernel_rfl) (by kernel_rfl) zAtt zHR ?_
  refine pzU ?_
  apply pl_e
  · exact e_call rfl rfl (H2 ls')
  · rfl
  · rfl
  · rfl
  · rintro _ _ ⟨_, lt', _, rfl⟩
    exact zHR
  rintro _ _ ⟨rfl, lt', ht', rfl⟩
  refine pzU ?_
  refine gzU ?_
  exact k_ret [] rfl (l' := (rhoC b bs bt :: (ls' ++ lt')) ++ G) (.drop (.drop (.of_perm (.of_eq (by simp))))) (by exact zRes) ⟨rfl, _, ⟨bs, bt, ls', lt', rfl, hs', ht'⟩, rfl⟩
theorem rhchild_any (b : Nat) (H : HS) (n : Nat) (hI : InvH H n) (hn : n ≤ 1000) (lq : List Chunk) (hq : IsRH b H lq) (p s : slT) (c : CapT) (hw : CapW c) (G : List Chunk) :
    Fn Tryz.prog 36 [.pointer (some ⟨b, 0, none⟩), .agg (List.toArray (encT p)), .agg (List.toArray (encT s)), .agg (List.toArray (encC c))] (lq ++ G) fun v l' => v = .int .i64 (childH H p s c).1 ∧ ∃ lq', IsRH b (childH H p s c).2 lq' ∧ l' = lq' ++ G := by
  obtain ⟨z1, z2, z3⟩ := hI.small hn
  have hq0 := hq
  obtain ⟨bs, bt, ls, lt, hb⟩ := hq
  have hm : rhoC b bs bt ∈ lq ++ G := List.mem_append_left _ hb.h
  refine fn_of_body Tryz.func36 rfl rfl fun E => ?_
  simp only [argF, Tryz.ntmps36]
  refine gzU ?_
  (first | refine t_e (e_box1 rfl rfl) rfl rfl rfl ?_ | refine t_e (e_boxA rfl) rfl rfl rfl ?_); rintro _ _ ⟨b5, _, rfl, rfl⟩
  refine gzU ?_
  (first | refine t_e (e_box1 rfl rfl) rfl rfl rfl ?_ | refine t_e (e_boxA rfl) rfl rfl rfl ?_); rintro _ _ ⟨b6, _, rfl, rfl⟩
  refine gzU ?_
  (first | refine t_e (e_box1 rfl rfl) rfl rfl rfl ?_ | refine t_e (e_boxA rfl) rfl rfl rfl ?_); rintro _ _ ⟨b7, _, rfl, rfl⟩
  refine gzU ?_
  have hret : Keep (capC b7 c :: slC b6 s :: slC b5 p :: (lq ++ G)) (lq ++ G) := .drop (.drop (.drop .refl))
  refine c_draw [(0, true), (1, true), (2, true), (3, true), (4, true), (5, true), (6, true), (7, true), (8, true), (9, true), (10, true), (11, true), (12, true), (13, true), (14, true), (15, true)] [[], [0], [0, 1], [0, 1, 2], [], [0, 1, 2, 3, 4], [0, 1, 2, 3, 4, 5], [0, 1, 2, 3, 4, 5, 6], [0, 1, 2, 3, 4, 5, 6, 7], [0, 1, 2, 3, 4, 5, 6, 7, 8], [0, 1, 2, 3, 4, 5, 6, 7, 8, 9], [0, 1, 2, 3, 4, 5, 6, 7, 8, 9, 10], [0, 1, 2, 3, 4, 5, 6, 7], [0, 1, 2, 3, 4, 5, 6, 7, 8, 9, 10, 11, 12], [0, 1, 2, 3, 4, 5, 6, 7, 8, 9, 10, 11, 12, 13], [0, 1, 2, 3, 4, 5, 6, 7, 8, 9, 10, 11, 12, 13, 14]] (capC b7 c :: slC b6 s :: slC b5 p :: (lq ++ G)) (by kernel_rfl) (by kernel_rfl) zAtt zHR ?_
  refine pzU ?_
  refine pl_h (q_call rfl rfl fun l2 hl => rhas_any bs H.1 ls hb.s (by omega) p l2 fun c hc => hl _ (.tail _ (.tail _ (.tail _ (List.mem_append_left _ (hb.m1 c hc)))))) rfl rfl rfl ?_
  cases okp : okD H.1 p with
  | false =>
    rw [show childH H p s c = (3, H) by unfold childH; rw [if_pos (.inl okp)]]
    refine pzU ?_
    refine gzU ?_
    exact k_ret [] rfl hret (by exact zRes) ⟨rfl, _, hq0, rfl⟩
  | true =>
  refine pzU ?_
  refine pl_h (q_call rfl rfl fun l2 hl => rhas_any bs H.1 ls hb.s (by omega) s l2 fun c hc => hl _ (.tail _ (.tail _ (.tail _ (List.mem_append_left _ (hb.m1 c hc)))))) rfl rfl rfl ?_
  cases oks : okD H.1 s with
  | false =>
    rw [show childH H p s c = (3, H) by unfold childH; rw [if_pos (.inr oks)]]
    refine pzU ?_
    refine gzU ?_
    exact k_ret [] rfl hret (by exact zRes) ⟨rfl, _, hq0, rfl⟩
  | true =>
  have e0 : childH H p s c = if someC c = false then (5, H) else if (atD H.1 p).kind = 0 then (10, H) else if (atD H.1 s).kind ≠ 0 then (11, H) else (0, (putD H.1 s c, (Tr.childD H.2 p s).2)) := by unfold childH; rw [if_neg (by rw [okp, oks]; decide)]
  rw [e0]
  refine pzU ?_
  refine gzU ?_
  refine t_q (q_call rfl rfl fun l2 hl => rsome_any c hw l2) rfl rfl rfl ?_
  cases hsc : someC c with
  | false =>
    rw [if_pos rfl]
    refine gzU ?_
    exact k_ret [] rfl hret (by exact zRes) ⟨rfl, _, hq0, rfl⟩
  | true =>
  rw [if_neg (by decide)]
  refine gzU ?_
  refine t_q (q_call rfl rfl fun l2 hl => rcap_any b H lq hq0 z1 p l2 fun c hc => hl _ (.tail _ (.tail _ (.tail _ (List.mem_append_left _ hc))))) rfl rfl rfl ?_
  rw [get_1 p okp]
  by_cases hp : (atD H.1 p).kind = 0
  · rw [if_pos hp]
    refine gzU ?_
    exact k_ret [] rfl hret (by exact zRes) ⟨rfl, _, hq0, rfl⟩
  rw [if_neg hp]
  refine gzU ?_
  refine t_q (q_call rfl rfl fun l2 hl => rcap_any b H lq hq0 z1 s l2 fun c hc => hl _ (.tail _ (.tail _ (.tail _ (List.mem_append_left _ hc))))) rfl rfl rfl ?_
  rw [get_1 s oks]
  by_cases hw2 : (atD H.1 s).kind ≠ 0
  · rw [if_pos hw2]
    refine gzU ?_
    exact k_ret [] rfl hret (by exact zRes) ⟨rfl, _, hq0, rfl⟩
  rw [if_neg hw2]
  obtain ⟨rfl, hs, ht⟩ := hb
  obtain ⟨X, hX⟩ : ∃ X, X = [capC b7 c, slC b6 s, slC b5 p, rhoC b bs bt] := ⟨_, rfl⟩
  have H1 := Fn.mvP (fun A => X ++ (A ++ (lt ++ G))) (rset_any bs H.1 ls hs (by omega) s c hw.guard (X ++ (lt ++ G)))
  have H2 := fun ls => Fn.mvP (fun A => X ++ (ls ++ (A ++ G))) (Tr.rchild_any bt H.2 lt ht (by omega) z3 p s (X ++ (ls ++ G)))
  rw [set_ok oks (some_c hsc).1] at H1
  rw [hX] at H1 H2
  simp only [List.cons_append, List.append_assoc, List.nil_append] at H1 H2 ⊢
  refine gzU ?_
  refine c_draw [(0, true), (1, true), (2, true), (3, true), (4, true), (5, true), (6, false)] [[], [0], [0, 1], [0, 1, 2], [], [], [0, 1, 2, 3, 4, 5]] ([capC b7 c, slC b6 s, rhoC b bs bt]) (by kernel_rfl) (by kernel_rfl) zAtt zHR ?_
  refine pzU ?_
  apply pl_e
  · exact e_call rfl rfl H1
  · rfl
  · rfl
  · rfl
  · rintro _ _ ⟨_, ls', _, rfl⟩
    exact zHR
  rintro _ _ ⟨rfl, ls', hs', rfl⟩
  refine pzU ?_
  refine gzU ?_
  refine c_draw [(0, true), (1, true), (2, true), (3, true), (4, true), (5, true), (6, false)] [[], [0], [0, 1], [0, 1, 2], [], [], [0, 1, 2, 3, 4, 5]] ([slC b6 s, slC b5 p, rhoC b bs bt]) (by kernel_rfl) (by kernel_rfl) zAtt zHR ?_
  refine pzU ?_
  apply pl_e
  · exact e_call rfl rfl (H2 ls')
  · rfl
  · rfl
  · rfl
  · rintro _ _ ⟨_, lt', _, rfl⟩
    exact zHR
  rintro _ _ ⟨rfl, lt', ht', rfl⟩
  refine pzU ?_
  refine gzU ?_
  exact k_ret [] rfl (l' := (rhoC b bs bt :: (ls' ++ lt')) ++ G) (.drop (.drop (.drop (.of_perm (.of_eq (by simp)))))) (by exact zRes) ⟨rfl, _, ⟨bs, bt, ls', lt', rfl, hs', ht'⟩, rfl⟩
theorem rhset_any (b : Nat) (H : HS) (n : Nat) (hI : InvH H n) (hn : n ≤ 1000) (lq : List Chunk) (hq : IsRH b H lq) (s : slT) (c : CapT) (hw : CapW c) (G : List Chunk) :
    Fn Tryz.prog 38 [.pointer (some ⟨b, 0, none⟩), .agg (List.toArray (encT s)), .agg (List.toArray (encC c))] (lq ++ G) fun v l' => v = .int .i64 (setH H s c).1 ∧ ∃ lq', IsRH b (setH H s c).2 lq' ∧ l' = lq' ++ G := by
  obtain ⟨z1, z2, z3⟩ := hI.small hn
  have hq0 := hq
  obtain ⟨bs, bt, ls, lt, hb⟩ := hq
  have hm : rhoC b bs bt ∈ lq ++ G := List.mem_append_left _ hb.h
  refine fn_of_body Tryz.func38 rfl rfl fun E => ?_
  simp only [argF, Tryz.ntmps38]
  refine gzU ?_
  (first | refine t_e (e_box1 rfl rfl) rfl rfl rfl ?_ | refine t_e (e_boxA rfl) rfl rfl rfl ?_); rintro _ _ ⟨b4, _, rfl, rfl⟩
  refine gzU ?_
  (first | refine t_e (e_box1 rfl rfl) rfl rfl rfl ?_ | refine t_e (e_boxA rfl) rfl rfl rfl ?_); rintro _ _ ⟨b5, _, rfl, rfl⟩
  refine gzU ?_
  have hret : Keep (capC b5 c :: slC b4 s :: (lq ++ G)) (lq ++ G) := .drop (.drop .refl)
  refine c_draw [(0, true), (1, true), (2, true), (3, true), (4, true), (5, true), (6, true)] [[], [0], [0, 1], [0, 1, 2], [], [0, 1, 2, 3, 4], [0, 1, 2, 3, 4, 5]] (capC b5 c :: slC b4 s :: (lq ++ G)) (by kernel_rfl) (by kernel_rfl) zAtt zHR ?_
  refine pzU ?_
  refine pl_h (q_call rfl rfl fun l2 hl => rhas_any bs H.1 ls hb.s (by omega) s l2 fun c hc => hl _ (.tail _ (.tail _ (List.mem_append_left _ (hb.m1 c hc))))) rfl rfl rfl ?_
  cases hok : okD H.1 s with
  | false =>
    rw [show setH H s c = (3, H) by unfold setH; rw [if_pos hok]]
    refine pzU ?_
    refine gzU ?_
    exact k_ret [] rfl hret (by exact zRes) ⟨rfl, _, hq0, rfl⟩
  | true =>
  have e0 : setH H s c = if (atD H.1 s).kind = 0 then (10, H) else if alikeB (atD H.1 s) c = false then (5, H) else (0, (putD H.1 s c, H.2)) := by unfold setH; rw [if_neg (by rw [hok]; decide)]
  rw [e0]
  refine pzU ?_
  refine gzU ?_
  refine t_q (q_call rfl rfl fun l2 hl => rcap_any b H lq hq0 z1 s l2 fun c hc => hl _ (.tail _ (.tail _ (List.mem_append_left _ hc)))) rfl rfl rfl ?_
  rw [get_1 s hok]
  by_cases hw2 : (atD H.1 s).kind = 0
  · rw [if_pos hw2]
    refine gzU ?_
    exact k_ret [] rfl hret (by exact zRes) ⟨rfl, _, hq0, rfl⟩
  rw [if_neg hw2]
  refine gzU ?_
  refine c_draw [(0, true), (1, true), (2, true), (3, true), (4, true), (5, true)] [[], [], [], [1, 2], [0, 1, 2, 3], [0, 1, 2, 3, 4]] (capC b5 c :: slC b4 s :: (lq ++ G)) (by kernel_rfl) (by kernel_rfl) zAtt zHR ?_
  refine pzU ?_
  refine pl_h (q_call rfl rfl fun l2 hl => rcap_any b H lq hq0 z1 s l2 fun c hc => hl _ (.tail _ (.tail _ (List.mem_append_left _ hc)))) rfl rfl rfl ?_
  rw [get_1 s hok]
  refine pzU ?_
  refine pl_h (q_call rfl rfl fun l2 hl => ralike_any c (atD H.1 s) hw (hI.at s).2 l2) rfl rfl rfl ?_
  rw [alike_comm c]
  cases ha : alikeB (atD H.1 s) c with
  | false =>
    rw [if_pos rfl]
    refine pzU ?_
    refine gzU ?_
    exact k_ret [] rfl hret (by exact zRes) ⟨rfl, _, hq0, rfl⟩
  | true =>
  rw [if_neg (by decide)]
  refine pzU ?_
  obtain ⟨rfl, hs, ht⟩ := hb
  obtain ⟨X, hX⟩ : ∃ X, X = [capC b5 c, slC b4 s, rhoC b bs bt] := ⟨_, rfl⟩
  have H1 := Fn.mvP (fun A => X ++ (A ++ (lt ++ G))) (rset_any bs H.1 ls hs (by omega) s c hw.guard (X ++ (lt ++ G)))
  rw [set_ok hok (alike_may ha)] at H1
  rw [hX] at H1
  simp only [List.cons_append, List.append_assoc, List.nil_append] at H1 ⊢
  refine gzU ?_
  refine c_draw [(0, true), (1, true), (2, true), (3, true), (4, true), (5, true), (6, false), (7, true)] [[], [0], [0, 1], [0, 1, 2], [], [], [0, 1, 2, 3, 4, 5], [0, 1, 2, 3, 4, 5, 6]] ([capC b5 c, slC b4 s, rhoC b bs bt]) (by kernel_rfl) (by kernel_rfl) zAtt zHR ?_
  refine pzU ?_
  apply pl_e
  · exact e_call rfl rfl H1
  · rfl
  · rfl
  · rfl
  · rintro _ _ ⟨_, ls', _, rfl⟩
    exact zHR
  rintro _ _ ⟨rfl, ls', hs', rfl⟩
  refine pzU ?_
  refine gzU ?_
  exact k_ret [] rfl (l' := (rhoC b bs bt :: (ls' ++ lt)) ++ G) (.drop (.drop (.of_perm (.of_eq (by simp))))) (by exact zRes) ⟨rfl, _, ⟨bs, bt, ls', lt, rfl, hs', ht⟩, rfl⟩
theorem rfrom_any (b : Nat) (H : HS) (lq : List Chunk) (hq : IsRH b H lq) (hn : H.1.length ≤ 2000) (a c : slT) (l : List Chunk) (hsub : ∀ c, c ∈ lq → c ∈ l) :
    Fn Tryz.prog 85 [.pointer (some ⟨b, 0, none⟩), .agg (List.toArray (encT a)), .agg (List.toArray (encT c))] l fun v l' => v = .int .i64 (fromE H a c) ∧ l' = l := by
  have hq0 := hq
  obtain ⟨bs, bt, ls, lt, hb⟩ := hq
  have hm : rhoC b bs bt ∈ l := hsub _ hb.h
  refine fn_of_body Tryz.func85 rfl rfl fun E => ?_
  simp only [argF, Tryz.ntmps85]
  refine gzU ?_
  (first | refine t_e (e_box1 rfl rfl) rfl rfl rfl ?_ | refine t_e (e_boxA rfl) rfl rfl rfl ?_); rintro _ _ ⟨b4, _, rfl, rfl⟩
  refine gzU ?_
  (first | refine t_e (e_box1 rfl rfl) rfl rfl rfl ?_ | refine t_e (e_boxA rfl) rfl rfl rfl ?_); rintro _ _ ⟨b5, _, rfl, rfl⟩
  refine gzU ?_
  refine c_draw [(0, true), (1, true), (2, true), (3, true), (4, true), (5, true), (6, true), (7, true), (8, true), (9, true), (10, true), (11, true), (12, true), (13, true), (14, true), (15, true)] [[], [0], [0, 1], [0, 1, 2], [], [0, 1, 2, 3, 4], [0, 1, 2, 3, 4, 5], [0, 1, 2, 3, 4, 5, 6], [0, 1, 2, 3, 4, 5, 6, 7], [0, 1, 2, 3, 4, 5, 6, 7, 8], [0, 1, 2, 3, 4, 5, 6, 7, 8, 9], [0, 1, 2, 3, 4, 5, 6, 7, 8, 9, 10], [0, 1, 2, 3, 4, 5, 6, 7], [0, 1, 2, 3, 4, 5, 6, 7, 8, 9, 10, 11, 12], [0, 1, 2, 3, 4, 5, 6, 7, 8, 9, 10, 11, 12, 13], [0, 1, 2, 3, 4, 5, 6, 7, 8, 9, 10, 11, 12, 13, 14]] (slC b5 c :: slC b4 a :: l) (by kernel_rfl) (by kernel_rfl) zAtt zHR ?_
  refine pzU ?_
  refine pl_h (q_call rfl rfl fun l2 hl => rhas_any bs H.1 ls hb.s (by omega) a l2 fun c hc => hl _ (.tail _ (.tail _ (hsub _ (hb.m1 c hc))))) rfl rfl rfl ?_
  cases oka : okD H.1 a with
  | false =>
    rw [show fromE H a c = 3 by unfold fromE; rw [if_pos (.inl oka)]]
    refine pzU ?_
    refine gzU ?_
    exact k_ret [] rfl (.drop (.drop .refl)) (by exact zRes) ⟨rfl, rfl⟩
  | true =>
  refine pzU ?_
  refine pl_h (q_call rfl rfl fun l2 hl => rhas_any bs H.1 ls hb.s (by omega) c l2 fun c hc => hl _ (.tail _ (.tail _ (hsub _ (hb.m1 c hc))))) rfl rfl rfl ?_
  cases okc : okD H.1 c with
  | false =>
    rw [show fromE H a c = 3 by unfold fromE; rw [if_pos (.inr okc)]]
    refine pzU ?_
    refine gzU ?_
    exact k_ret [] rfl (.drop (.drop .refl)) (by exact zRes) ⟨rfl, rfl⟩
  | true =>
  have e0 : fromE H a c = if (atD H.1 a).kind = 0 then 10 else if (atD H.1 c).kind ≠ 0 then 11 else 0 := by unfold fromE; rw [if_neg (by rw [oka, okc]; decide)]
  rw [e0]
  refine pzU ?_
  refine gzU ?_
  refine t_q (q_call rfl rfl fun l2 hl => rcap_any b H lq hq0 hn a l2 fun c hc => hl _ (.tail _ (.tail _ (hsub c hc)))) rfl rfl rfl ?_
  rw [get_1 a oka]
  by_cases hp : (atD H.1 a).kind = 0
  · rw [if_pos hp]
    refine gzU ?_
    exact k_ret [] rfl (.drop (.drop .refl)) (by exact zRes) ⟨rfl, rfl⟩
  rw [if_neg hp]
  refine gzU ?_
  refine t_q (q_call rfl rfl fun l2 hl => rcap_any b H lq hq0 hn c l2 fun c hc => hl _ (.tail _ (.tail _ (hsub c hc)))) rfl rfl rfl ?_
  rw [get_1 c okc]
  by_cases hw2 : (atD H.1 c).kind ≠ 0
  · rw [if_pos hw2]
    refine gzU ?_
    exact k_ret [] rfl (.drop (.drop .refl)) (by exact zRes) ⟨rfl, rfl⟩
  rw [if_neg hw2]
  refine gzU ?_
  exact k_ret [] rfl (.drop (.drop .refl)) (by exact zRes) ⟨rfl, rfl⟩
theorem rhcopy_any (b : Nat) (H : HS) (n : Nat) (hI : InvH H n) (hn : n ≤ 1000) (lq : List Chunk) (hq : IsRH b H lq) (a c : slT) (mask : Int) (G : List Chunk) :
    Fn Tryz.prog 39 [.pointer (some ⟨b, 0, none⟩), .agg (List.toArray (encT a)), .agg (List.toArray (encT c)), .int .i64 mask] (lq ++ G) fun v l' => v = .int .i64 (derH H a c (copyC (atD H.1 a) mask)).1 ∧ ∃ lq', IsRH b (derH H a c (copyC (atD H.1 a) mask)).2 lq' ∧ l' = lq' ++ G := by
  obtain ⟨z1, z2, z3⟩ := hI.small hn
  refine fn_of_body Tryz.func39 rfl rfl fun E => ?_
  simp only [argF, Tryz.ntmps39]
  refine gzU ?_
  (first | refine t_e (e_box1 rfl rfl) rfl rfl rfl ?_ | refine t_e (e_boxA rfl) rfl rfl rfl ?_); rintro _ _ ⟨b5, _, rfl, rfl⟩
  refine gzU ?_
  (first | refine t_e (e_box1 rfl rfl) rfl rfl rfl ?_ | refine t_e (e_boxA rfl) rfl rfl rfl ?_); rintro _ _ ⟨b6, _, rfl, rfl⟩
  refine gzU ?_
  refine t_q (q_call rfl rfl fun l2 hl => rfrom_any b H lq hq z1 a c l2 fun c hc => hl _ (.tail _ (.tail _ (List.mem_append_left _ hc)))) rfl rfl rfl ?_
  by_cases hf : fromE H a c ≠ 0
  · rw [show derH H a c (copyC (atD H.1 a) mask) = (fromE H a c, H) by unfold derH; rw [if_pos hf]]
    refine gzU ?_
    exact k_ret [] rfl (.drop (.drop .refl)) (by exact zRes) ⟨rfl, _, hq, rfl⟩
  have hf0 : fromE H a c = 0 := by simpa using hf
  have oka := (from_0 hf0).1
  have e0 : derH H a c (copyC (atD H.1 a) mask) = if (copyC (atD H.1 a) mask).2 ≠ 0 then ((copyC (atD H.1 a) mask).2, H) else childH H a c (copyC (atD H.1 a) mask).1 := by unfold derH; rw [if_neg hf]
  rw [e0, hf0]
  refine gzU ?_
  refine t_q (q_call rfl rfl fun l2 hl => rcap_any b H lq hq z1 a l2 fun c hc => hl _ (.tail _ (.tail _ (List.mem_append_left _ hc)))) rfl rfl rfl ?_
  rw [get_1 a oka]
  refine gzU ?_
  refine t_q (q_call rfl rfl fun l2 hl => copyseisinref14_any (atD H.1 a) (hI.at a).2 mask l2) rfl rfl rfl ?_
  have hwr := copy_w (hI.at a).2 mask
  obtain ⟨d, hd0⟩ : ∃ d, (copyC (atD H.1 a) mask).1 = d := ⟨_, rfl⟩
  obtain ⟨e, he0⟩ : ∃ e, (copyC (atD H.1 a) mask).2 = e := ⟨_, rfl⟩
  rw [hd0] at hwr
  rw [hd0, he0]
  by_cases he : e ≠ 0
  · rw [if_pos he]
    refine gzU ?_
    refine t_e e_alloc rfl rfl rfl ?_; rintro _ _ ⟨b10, _, rfl, rfl⟩
    refine gzU ?_
    exact k_ret [] rfl (.drop (.drop (.drop .refl))) (by exact zRes) ⟨rfl, _, hq, rfl⟩
  rw [if_neg he]
  refine gzU ?_
  refine t_e e_alloc rfl rfl rfl ?_; rintro _ _ ⟨b10, _, rfl, rfl⟩
  refine gzU ?_
  refine t_e (e_call rfl rfl (Fn.mvP (fun A => capC b10 d :: slC b6 c :: slC b5 a :: (A ++ G)) (rhchild_any b H n hI hn lq hq a c d hwr (capC b10 d :: slC b6 c :: slC b5 a :: G)))) rfl rfl rfl ?_
  rintro _ _ ⟨rfl, lq', hq', rfl⟩
  refine gzU ?_
  exact k_ret [] rfl (l' := lq' ++ G) (.drop (.drop (.drop .refl))) (by exact zRes) ⟨rfl, _, hq', rfl⟩
theorem rhmint_any (b : Nat) (H : HS) (n : Nat) (hI : InvH H n) (hn : n ≤ 1000) (lq : List Chunk) (hq : IsRH b H lq) (a c : slT) (mask : Int) (data : Nat) (hd : data < 18446744073709551616) (G : List Chunk) :
    Fn Tryz.prog 40 [.pointer (some ⟨b, 0, none⟩), .agg (List.toArray (encT a)), .agg (List.toArray (encT c)), .int .i64 mask, .int .u64 (data : Nat)] (lq ++ G) fun v l' => v = .int .i64 (derH H a c (mintC (atD H.1 a) mask data)).1 ∧ ∃ lq', IsRH b (derH H a c (mintC (atD H.1 a) mask data)).2 lq' ∧ l' = lq' ++ G := by
  obtain ⟨z1, z2, z3⟩ := hI.small hn
  refine fn_of_body Tryz.func40 rfl rfl fun E => ?_
  simp only [argF, Tryz.ntmps40]
  refine gzU ?_
  (first | refine t_e (e_box1 rfl rfl) rfl rfl rfl ?_ | refine t_e (e_boxA rfl) rfl rfl rfl ?_); rintro _ _ ⟨b5, _, rfl, rfl⟩
  refine gzU ?_
  (first | refine t_e (e_box1 rfl rfl) rfl rfl rfl ?_ | refine t_e (e_boxA rfl) rfl rfl rfl ?_); rintro _ _ ⟨b6, _, rfl, rfl⟩
  refine gzU ?_
  refine t_q (q_call rfl rfl fun l2 hl => rfrom_any b H lq hq z1 a c l2 fun c hc => hl _ (.tail _ (.tail _ (List.mem_append_left _ hc)))) rfl rfl rfl ?_
  by_cases hf : fromE H a c ≠ 0
  · rw [show derH H a c (mintC (atD H.1 a) mask data) = (fromE H a c, H) by unfold derH; rw [if_pos hf]]
    refine gzU ?_
    exact k_ret [] rfl (.drop (.drop .refl)) (by exact zRes) ⟨rfl, _, hq, rfl⟩
  have hf0 : fromE H a c = 0 := by simpa using hf
  have oka := (from_0 hf0).1
  have e0 : derH H a c (mintC (atD H.1 a) mask data) = if (mintC (atD H.1 a) mask data).2 ≠ 0 then ((mintC (atD H.1 a) mask data).2, H) else childH H a c (mintC (atD H.1 a) mask data).1 := by unfold derH; rw [if_neg hf]
  rw [e0, hf0]
  refine gzU ?_
  refine t_q (q_call rfl rfl fun l2 hl => rcap_any b H lq hq z1 a l2 fun c hc => hl _ (.tail _ (.tail _ (List.mem_append_left _ hc)))) rfl rfl rfl ?_
  rw [get_1 a oka]
  refine gzU ?_
  refine t_q (q_call rfl rfl fun l2 hl => rmint_any (atD H.1 a) (hI.at a).2 mask data hd l2) rfl rfl rfl ?_
  have hwr := mint_w (hI.at a).2 mask data
  obtain ⟨d, hd0⟩ : ∃ d, (mintC (atD H.1 a) mask data).1 = d := ⟨_, rfl⟩
  obtain ⟨e, he0⟩ : ∃ e, (mintC (atD H.1 a) mask data).2 = e := ⟨_, rfl⟩
  rw [hd0] at hwr
  rw [hd0, he0]
  by_cases he : e ≠ 0
  · rw [if_pos he]
    refine gzU ?_
    refine t_e e_alloc rfl rfl rfl ?_; rintro _ _ ⟨b10, _, rfl, rfl⟩
    refine gzU ?_
    exact k_ret [] rfl (.drop (.drop (.drop .refl))) (by exact zRes) ⟨rfl, _, hq, rfl⟩
  rw [if_neg he]
  refine gzU ?_
  refine t_e e_alloc rfl rfl rfl ?_; rintro _ _ ⟨b10, _, rfl, rfl⟩
  refine gzU ?_
  refine t_e (e_call rfl rfl (Fn.mvP (fun A => capC b10 d :: slC b6 c :: slC b5 a :: (A ++ G)) (rhchild_any b H n hI hn lq hq a c d hwr (capC b10 d :: slC b6 c :: slC b5 a :: G)))) rfl rfl rfl ?_
  rintro _ _ ⟨rfl, lq', hq', rfl⟩
  refine gzU ?_
  exact k_ret [] rfl (l' := lq' ++ G) (.drop (.drop (.drop .refl))) (by exact zRes) ⟨rfl, _, hq', rfl⟩
end Go.Proofs.YtpplknmmjlgadaaGreat

/- Chapter 18's own answer: Move, Swap, Clear, Final. -/
-- GU
set_option linter.unusedVariables false
set_option linter.unusedSimpArgs false
namespace Go.Proofs.YtpplknmmjlgadaaGreat
open Go.RowKit
set_option maxRecDepth 20000

theorem put_comm (D : SD) {a c : slT} (h : a ≠ c) (ha : 0 ≤ a.2) (hc : 0 ≤ c.2) (x y : CapT) : putD (putD D a x) c y = putD (putD D c y) a x := by
  unfold putD
  rw [List.map_map, List.map_map]
  apply List.map_congr_left
  intro z _
  simp only [Function.comp_apply]
  by_cases h1 : z.1 = a.1
  · rw [if_pos h1]
    simp only
    by_cases h2 : z.1 = c.1
    · rw [if_pos h2, if_pos h2]
      simp only
      rw [if_pos h1, List.set_comm]
      intro e
      exact h (Prod.ext (h1.symm.trans h2) (by omega))
    · rw [if_neg h2, if_neg h2, if_pos h1]
  · rw [if_neg h1]
    by_cases h2 : z.1 = c.1
    · rw [if_pos h2]
      simp only
      rw [if_neg h1]
    · rw [if_neg h2, if_neg h1]
set_option pp.deepTerms false
set_option pp.deepTerms.threshold 4
set_option maxHeartbeats 400000
theorem rhmove_any (b : Nat) (H : HS) (n : Nat) (hI : InvH H n) (hn : n ≤ 1000) (lq : List Chunk) (hq : IsRH b H lq) (a c : slT) (G : List Chunk) :
    Fn Tryz.prog 41 [.pointer (some ⟨b, 0, none⟩), .agg (List.toArray (encT a)), .agg (List.toArray (encT c))] (lq ++ G) fun v l' => v = .int .i64 (moveH H a c).1 ∧ ∃ lq', IsRH b (moveH H a c).2 lq' ∧ l' = lq' ++ G := by
  obtain ⟨z1, z2, z3⟩ := hI.small hn
  have hq0 := hq
  refine fn_of_body Tryz.func41 rfl rfl fun E => ?_
  simp only [argF, Tryz.ntmps41]
  refine gzU ?_
  (first | refine t_e (e_box1 rfl rfl) rfl rfl rfl ?_ | refine t_e (e_boxA rfl) rfl rfl rfl ?_); rintro _ _ ⟨b5, _, rfl, rfl⟩
  refine gzU ?_
  (first | refine t_e (e_box1 rfl rfl) rfl rfl rfl ?_ | refine t_e (e_boxA rfl) rfl rfl rfl ?_); rintro _ _ ⟨b6, _, rfl, rfl⟩
  refine gzU ?_
  refine t_q (q_call rfl rfl fun l2 hl => rfrom_any b H lq hq z1 a c l2 fun c hc => hl _ (.tail _ (.tail _ (List.mem_append_left _ hc)))) rfl rfl rfl ?_
  by_cases hf : fromE H a c ≠ 0
  · rw [show moveH H a c = (fromE H a c, H) by unfold moveH; rw [if_pos hf]]
    refine gzU ?_
    exact k_ret [] rfl (.drop (.drop .refl)) (by exact zRes) ⟨rfl, _, hq, rfl⟩
  have hf0 : fromE H a c = 0 := by simpa using hf
  obtain ⟨oka, okc, ka, kc⟩ := from_0 hf0
  have hne : c ≠ a := fun e => ka (e ▸ kc)
  rw [show moveH H a c = (0, (putD (putD H.1 c (atD H.1 a)) a capZ, (Tr.moveD H.2 a c).2)) by unfold moveH; rw [if_neg hf, put_comm _ hne (ok_nn okc) (ok_nn oka)], hf0]
  obtain ⟨bs, bt, ls, lt, rfl, hs, ht⟩ := hq
  obtain ⟨X, hX⟩ : ∃ X, X = [slC b6 c, slC b5 a, rhoC b bs bt] := ⟨_, rfl⟩
  have H1 := Fn.mvP (fun A => X ++ (A ++ (lt ++ G))) (rset_any bs H.1 ls hs (by omega) c (atD H.1 a) (hI.at a).2.guard (X ++ (lt ++ G)))
  have H2 := fun ls (hs : IsR bs (putD H.1 c (atD H.1 a)) ls) => Fn.mvP (fun A => X ++ (A ++ (lt ++ G))) (rset_any bs _ ls hs (by rw [put_len]; omega) a capZ (by decide) (X ++ (lt ++ G)))
  have H3 := fun ls => Fn.mvP (fun A => X ++ (ls ++ (A ++ G))) (Tr.rmove_any bt H.2 lt ht (by omega) a c (X ++ (ls ++ G)))
  have HC := fun l2 (h : ∀ x, x ∈ rhoC b bs bt :: (ls ++ lt) → x ∈ l2) => rcap_any b H _ hq0 z1 a l2 h
  rw [get_1 a oka] at HC
  rw [set_ok okc (hI.at a).1] at H1
  rw [set_ok (by rw [ok_put]; exact oka) capZ_ok.1] at H2
  rw [hX] at H1 H2 H3
  simp only [List.cons_append, List.append_assoc, List.nil_append] at H1 H2 H3 ⊢
  refine gzU ?_
  refine c_draw [(0, true), (1, true), (2, true), (3, true), (4, true), (5, true), (6, true), (7, true), (8, false)] [[], [0], [0, 1], [0, 1, 2], [], [], [], [5, 6], [0, 1, 2, 3, 4, 5, 6, 7]] ([slC b6 c, slC b5 a, rhoC b bs bt]) (by kernel_rfl) (by kernel_rfl) zAtt zHR ?_
  refine pzU ?_
  apply pl_s (S := rhoC b bs bt :: (ls ++ lt))
  · exact q_call rfl rfl fun l2 hl => HC l2 hl
  · intro x hx
    rcases List.mem_cons.1 hx with rfl | hx
    · exact .tail _ (.tail _ (.head _))
    · refine .tail _ (.tail _ (.tail _ ?_))
      rw [← List.append_assoc]; exact List.mem_append_left _ hx
  · rfl
  · rfl
  · rfl
  refine pzU ?_
  apply pl_eS
  · exact e_call rfl rfl H1
  · rfl
  · rfl
  · rfl
  · rintro _ _ ⟨_, ls', _, rfl⟩
    exact zHR
  · exact fun _ _ _ x hx ha => anc_all (by kernel_rfl) hx ha
  rintro _ _ ⟨rfl, ls', hs', rfl⟩
  refine pzU ?_
  refine gzU ?_
  refine c_draw [(0, true), (1, true), (2, true), (3, true), (4, true), (5, true), (6, false)] [[], [0], [0, 1], [0, 1, 2], [], [], [0, 1, 2, 3, 4, 5]] ([slC b5 a, rhoC b bs bt]) (by kernel_rfl) (by kernel_rfl) zAtt zHR ?_
  refine pzU ?_
  apply pl_e
  · exact e_call rfl rfl (H2 ls' hs')
  · rfl
  · rfl
  · rfl
  · rintro _ _ ⟨_, ls2, _, rfl⟩
    exact zHR
  rintro _ _ ⟨rfl, ls2, hs2, rfl⟩
  refine pzU ?_
  refine gzU ?_
  refine c_draw [(0, true), (1, true), (2, true), (3, true), (4, true), (5, true), (6, false)] [[], [0], [0, 1], [0, 1, 2], [], [], [0, 1, 2, 3, 4, 5]] ([slC b6 c, slC b5 a, rhoC b bs bt]) (by kernel_rfl) (by kernel_rfl) zAtt zHR ?_
  refine pzU ?_
  apply pl_e
  · exact e_call rfl rfl (H3 ls2)
  · rfl
  · rfl
  · rfl
  · rintro _ _ ⟨_, lt', _, rfl⟩
    exact zHR
  rintro _ _ ⟨rfl, lt', ht', rfl⟩
  refine pzU ?_
  refine gzU ?_
  exact k_ret [] rfl (l' := (rhoC b bs bt :: (ls2 ++ lt')) ++ G) (.drop (.drop (.of_perm (.of_eq (by simp))))) (by exact zRes) ⟨rfl, _, ⟨bs, bt, ls2, lt', rfl, hs2, ht'⟩, rfl⟩
theorem rhswap_any (b : Nat) (H : HS) (n : Nat) (hI : InvH H n) (hn : n ≤ 1000) (lq : List Chunk) (hq : IsRH b H lq) (a c : slT) (G : List Chunk) :
    Fn Tryz.prog 43 [.pointer (some ⟨b, 0, none⟩), .agg (List.toArray (encT a)), .agg (List.toArray (encT c))] (lq ++ G) fun v l' => v = .int .i64 (swapH H a c).1 ∧ ∃ lq', IsRH b (swapH H a c).2 lq' ∧ l' = lq' ++ G := by
  obtain ⟨z1, z2, z3⟩ := hI.small hn
  have hq0 := hq
  obtain ⟨bs, bt, ls, lt, hb⟩ := hq
  have hm : rhoC b bs bt ∈ lq ++ G := List.mem_append_left _ hb.h
  refine fn_of_body Tryz.func43 rfl rfl fun E => ?_
  simp only [argF, Tryz.ntmps43]
  refine gzU ?_
  (first | refine t_e (e_box1 rfl rfl) rfl rfl rfl ?_ | refine t_e (e_boxA rfl) rfl rfl rfl ?_); rintro _ _ ⟨b4, _, rfl, rfl⟩
  refine gzU ?_
  (first | refine t_e (e_box1 rfl rfl) rfl rfl rfl ?_ | refine t_e (e_boxA rfl) rfl rfl rfl ?_); rintro _ _ ⟨b5, _, rfl, rfl⟩
  refine gzU ?_
  have hret : Keep (slC b5 c :: slC b4 a :: (lq ++ G)) (lq ++ G) := .drop (.drop .refl)
  refine c_draw [(0, true), (1, true), (2, true), (3, true), (4, true), (5, true), (6, true), (7, true), (8, true), (9, true), (10, true), (11, true), (12, true), (13, true), (14, true), (15, true)] [[], [0], [0, 1], [0, 1, 2], [], [0, 1, 2, 3, 4], [0, 1, 2, 3, 4, 5], [0, 1, 2, 3, 4, 5, 6], [0, 1, 2, 3, 4, 5, 6, 7], [0, 1, 2, 3, 4, 5, 6, 7, 8], [0, 1, 2, 3, 4, 5, 6, 7, 8, 9], [0, 1, 2, 3, 4, 5, 6, 7, 8, 9, 10], [0, 1, 2, 3, 4, 5, 6, 7], [0, 1, 2, 3, 4, 5, 6, 7, 8, 9, 10, 11, 12], [0, 1, 2, 3, 4, 5, 6, 7, 8, 9, 10, 11, 12, 13], [0, 1, 2, 3, 4, 5, 6, 7, 8, 9, 10, 11, 12, 13, 14]] (slC b5 c :: slC b4 a :: (lq ++ G)) (by kernel_rfl) (by kernel_rfl) zAtt zHR ?_
  refine pzU ?_
  refine pl_h (q_call rfl rfl fun l2 hl => rhas_any bs H.1 ls hb.s (by omega) a l2 fun c hc => hl _ (.tail _ (.tail _ (List.mem_append_left _ (hb.m1 c hc))))) rfl rfl rfl ?_
  cases oka : okD H.1 a with
  | false =>
    rw [show swapH H a c = (3, H) by unfold swapH; rw [if_pos (.inl oka)]]
    refine pzU ?_
    refine gzU ?_
    exact k_ret [] rfl hret (by exact zRes) ⟨rfl, _, hq0, rfl⟩
  | true =>
  refine pzU ?_
  refine pl_h (q_call rfl rfl fun l2 hl => rhas_any bs H.1 ls hb.s (by omega) c l2 fun c hc => hl _ (.tail _ (.tail _ (List.mem_append_left _ (hb.m1 c hc))))) rfl rfl rfl ?_
  cases okc : okD H.1 c with
  | false =>
    rw [show swapH H a c = (3, H) by unfold swapH; rw [if_pos (.inr okc)]]
    refine pzU ?_
    refine gzU ?_
    exact k_ret [] rfl hret (by exact zRes) ⟨rfl, _, hq0, rfl⟩
  | true =>
  rw [show swapH H a c = (0, (putD (putD H.1 a (atD H.1 c)) c (atD H.1 a), Tr.swapD H.2 a c)) by unfold swapH; rw [if_neg (by rw [oka, okc]; decide)]]
  refine pzU ?_
  refine gzU ?_
  refine c_draw2 [(0, true), (1, true), (2, true), (3, true), (4, true), (5, true), (6, false), (7, false), (8, false), (9, false)] [[], [], [0, 1], [], [], [0, 1, 2, 3, 4], [], [], [0, 1, 2, 3, 4, 5, 6, 7], [0, 1, 2, 3, 4, 5, 6, 7, 8]] 6 7 (slC b5 c :: slC b4 a :: (lq ++ G)) (by kernel_rfl) (by kernel_rfl) zAtt zHR ?_
  refine pzU ?_
  refine pl_h (q_call rfl rfl fun l2 hl => rcap_any b H lq hq0 z1 a l2 fun c hc => hl _ (.tail _ (.tail _ (List.mem_append_left _ hc)))) rfl rfl rfl ?_
  rw [get_1 a oka]
  refine pzU ?_
  refine pl_h (q_call rfl rfl fun l2 hl => rcap_any b H lq hq0 z1 c l2 fun c hc => hl _ (.tail _ (.tail _ (List.mem_append_left _ hc)))) rfl rfl rfl ?_
  rw [get_1 c okc]
  refine pzU ?_
  refine pl_alt [(7, false), (6, false), (8, false), (9, false)] zAtt (List.Perm.swap _ _ _) (by kernel_rfl) ?_ ?_
  all_goals
    apply pl_e
    · exact e_alloc
    · rfl
    · rfl
    · rfl
    · rintro _ _ ⟨p, _, _, rfl⟩ z hz
      exact .tail _ hz
    rintro _ _ ⟨p, _, rfl, rfl⟩
    refine pzU ?_
    apply pl_e
    · exact e_alloc
    · rfl
    · rfl
    · rfl
    · rintro _ _ ⟨q, _, _, rfl⟩ z hz
      exact .tail _ (.tail _ hz)
    rintro _ _ ⟨q, _, rfl, rfl⟩
    refine pzU ?_
    refine gzU ?_
    first
      | (obtain ⟨b7, b8, rfl, rfl⟩ : ∃ b7 b8, b7 = p ∧ b8 = q := ⟨p, q, rfl, rfl⟩
         refine c_keep (l' := capC b8 (atD H.1 c) :: capC b7 (atD H.1 a) :: slC b5 c :: slC b4 a :: (lq ++ G)) .refl ?_)
      | (obtain ⟨b7, b8, rfl, rfl⟩ : ∃ b7 b8, b7 = q ∧ b8 = p := ⟨q, p, rfl, rfl⟩
         refine c_keep (l' := capC b8 (atD H.1 c) :: capC b7 (atD H.1 a) :: slC b5 c :: slC b4 a :: (lq ++ G)) (.pick (.there .here) (.pick .here .refl)) ?_)
    obtain ⟨rfl, hs, ht⟩ := hb
    obtain ⟨X, hX⟩ : ∃ X, X = [capC b8 (atD H.1 c), capC b7 (atD H.1 a), slC b5 c, slC b4 a, rhoC b bs bt] := ⟨_, rfl⟩
    have H1 := Fn.mvP (fun A => X ++ (A ++ (lt ++ G))) (rset_any bs H.1 ls hs (by omega) a (atD H.1 c) (hI.at c).2.guard (X ++ (lt ++ G)))
    have H2 := fun ls (hs : IsR bs (putD H.1 a (atD H.1 c)) ls) => Fn.mvP (fun A => X ++ (A ++ (lt ++ G))) (rset_any bs _ ls hs (by rw [put_len]; omega) c (atD H.1 a) (hI.at a).2.guard (X ++ (lt ++ G)))
    have H3 := fun ls => Fn.mvP (fun A => X ++ (ls ++ (A ++ G))) (Tr.rswap_any bt H.2 lt ht (by omega) hI.tree.nd a c (X ++ (ls ++ G)))
    rw [set_ok oka (hI.at c).1] at H1
    rw [set_ok (by rw [ok_put]; exact okc) (hI.at a).1] at H2
    rw [hX] at H1 H2 H3
    simp only [List.cons_append, List.append_assoc, List.nil_append] at H1 H2 H3 ⊢
    refine c_draw [(0, true), (1, true), (2, true), (3, true), (4, true), (5, true), (6, false)] [[], [0], [0, 1], [0, 1, 2], [], [], [0, 1, 2, 3, 4, 5]] ([capC b8 (atD H.1 c), slC b4 a, rhoC b bs bt]) (by kernel_rfl) (by kernel_rfl) zAtt zHR ?_
    refine pzU ?_
    apply pl_e
    · exact e_call rfl rfl H1
    · rfl
    · rfl
    · rfl
    · rintro _ _ ⟨_, ls', _, rfl⟩
      exact zHR
    rintro _ _ ⟨rfl, ls', hs', rfl⟩
    refine pzU ?_
    refine gzU ?_
    refine c_draw [(0, true), (1, true), (2, true), (3, true), (4, true), (5, true), (6, false)] [[], [0], [0, 1], [0, 1, 2], [], [], [0, 1, 2, 3, 4, 5]] ([capC b7 (atD H.1 a), slC b5 c, rhoC b bs bt]) (by kernel_rfl) (by kernel_rfl) zAtt zHR ?_
    refine pzU ?_
    apply pl_e
    · exact e_call rfl rfl (H2 ls' hs')
    · rfl
    · rfl
    · rfl
    · rintro _ _ ⟨_, ls2, _, rfl⟩
      exact zHR
    rintro _ _ ⟨rfl, ls2, hs2, rfl⟩
    refine pzU ?_
    refine gzU ?_
    refine c_draw [(0, true), (1, true), (2, true), (3, true), (4, true), (5, true), (6, false)] [[], [0], [0, 1], [0, 1, 2], [], [], [0, 1, 2, 3, 4, 5]] ([slC b5 c, slC b4 a, rhoC b bs bt]) (by kernel_rfl) (by kernel_rfl) zAtt zHR ?_
    refine pzU ?_
    apply pl_e
    · exact e_call rfl rfl (H3 ls2)
    · rfl
    · rfl
    · rfl
    · rintro _ _ ⟨_, lt', _, rfl⟩
      exact zHR
    rintro _ _ ⟨rfl, lt', ht', rfl⟩
    refine pzU ?_
    refine gzU ?_
    exact k_ret [] rfl (l' := (rhoC b bs bt :: (ls2 ++ lt')) ++ G) (.drop (.drop (.drop (.drop (.of_perm (.of_eq (by simp))))))) (by exact zRes) ⟨rfl, _, ⟨bs, bt, ls2, lt', rfl, hs2, ht'⟩, rfl⟩
theorem rhclear_any (b : Nat) (H : HS) (n : Nat) (hI : InvH H n) (hn : n ≤ 1000) (lq : List Chunk) (hq : IsRH b H lq) (s : slT) (G : List Chunk) :
    Fn Tryz.prog 44 [.pointer (some ⟨b, 0, none⟩), .agg (List.toArray (encT s))] (lq ++ G) fun v l' => v = .tuple #[.agg (List.toArray (encC (clearH H s).1.1)), .int .i64 (clearH H s).1.2] ∧ ∃ lq', IsRH b (clearH H s).2 lq' ∧ l' = lq' ++ G := by
  obtain ⟨z1, z2, z3⟩ := hI.small hn
  have hq0 := hq
  obtain ⟨bs, bt, ls, lt, hb⟩ := hq
  have hm : rhoC b bs bt ∈ lq ++ G := List.mem_append_left _ hb.h
  refine fn_of_body Tryz.func44 rfl rfl fun E => ?_
  simp only [argF, Tryz.ntmps44]
  refine gzU ?_
  (first | refine t_e (e_box1 rfl rfl) rfl rfl rfl ?_ | refine t_e (e_boxA rfl) rfl rfl rfl ?_); rintro _ _ ⟨b3, _, rfl, rfl⟩
  refine gzU ?_
  refine t_e e_alloc rfl rfl rfl ?_; rintro _ _ ⟨b4, _, rfl, rfl⟩
  refine gzU ?_
  refine c_draw [(0, true), (1, true), (2, true), (3, true), (4, true), (5, true), (6, true)] [[], [0], [0, 1], [0, 1, 2], [], [0, 1, 2, 3, 4], [0, 1, 2, 3, 4, 5]] (slC b3 s :: (lq ++ G)) (by kernel_rfl) (by kernel_rfl) zAtt zHR ?_
  refine pzU ?_
  refine pl_h (q_call rfl rfl fun l2 hl => rhas_any bs H.1 ls hb.s (by omega) s l2 fun c hc => hl _ (.tail _ (List.mem_append_left _ (hb.m1 c hc)))) rfl rfl rfl ?_
  cases hok : okD H.1 s with
  | false =>
    rw [show clearH H s = ((capZ, 3), H) by unfold clearH; rw [if_pos hok]]
    refine pzU ?_
    refine gzU ?_
    exact k_ret2 [] (capC b4 capZ :: (lq ++ G)) rfl (l' := lq ++ G) (.pick .here (.drop .refl)) (by exact zRes) (.drop .refl) ⟨rfl, _, hq0, rfl⟩
  | true =>
  refine pzU ?_
  refine gzU ?_
  refine t_q (q_call rfl rfl fun l2 hl => rcap_any b H lq hq0 z1 s l2 fun c hc => hl _ (.tail _ (.tail _ (List.mem_append_left _ hc)))) rfl rfl rfl ?_
  rw [get_1 s hok]
  refine gzU ?_
  refine t_e e_alloc rfl rfl rfl ?_; rintro _ _ ⟨b6, _, rfl, rfl⟩
  refine gzU ?_
  by_cases hw : (atD H.1 s).kind = 0
  · rw [show clearH H s = ((capZ, 10), H) by unfold clearH; rw [if_neg (by rw [hok]; decide), if_pos hw]]
    rw [hI.zero hw]
    refine gzU ?_
    exact k_ret2 [] (capC b4 capZ :: (lq ++ G)) rfl (l' := lq ++ G) (.drop (.pick .here (.drop .refl))) (by exact zRes) (.drop .refl) ⟨rfl, _, hq0, rfl⟩
  rw [show clearH H s = ((atD H.1 s, 0), (putD H.1 s capZ, (Tr.removeD H.2 s).2)) by unfold clearH; rw [if_neg (by rw [hok]; decide), if_neg hw]]
  obtain ⟨rfl, hs, ht⟩ := hb
  obtain ⟨X, hX⟩ : ∃ X, X = [capC b6 (atD H.1 s), capC b4 capZ, slC b3 s, rhoC b bs bt] := ⟨_, rfl⟩
  have H1 := Fn.mvP (fun A => X ++ (A ++ (lt ++ G))) (rset_any bs H.1 ls hs (by omega) s capZ (by decide) (X ++ (lt ++ G)))
  have H2 := fun ls => Fn.mvP (fun A => X ++ (ls ++ (A ++ G))) (Tr.rremove_any bt H.2 lt ht (by omega) z3 s (X ++ (ls ++ G)))
  rw [set_ok hok capZ_ok.1] at H1
  rw [hX] at H1 H2
  simp only [List.cons_append, List.append_assoc, List.nil_append] at H1 H2 ⊢
  refine gzU ?_
  refine c_draw [(0, true), (1, true), (2, true), (3, true), (4, true), (5, true), (6, false)] [[], [0], [0, 1], [0, 1, 2], [], [], [0, 1, 2, 3, 4, 5]] ([slC b3 s, rhoC b bs bt]) (by kernel_rfl) (by kernel_rfl) zAtt zHR ?_
  refine pzU ?_
  apply pl_e
  · exact e_call rfl rfl H1
  · rfl
  · rfl
  · rfl
  · rintro _ _ ⟨_, ls', _, rfl⟩
    exact zHR
  rintro _ _ ⟨rfl, ls', hs', rfl⟩
  refine pzU ?_
  refine gzU ?_
  refine c_draw [(0, true), (1, true), (2, true), (3, true), (4, true), (5, false)] [[], [0], [0, 1], [0, 1, 2], [], [0, 1, 2, 3, 4]] ([slC b3 s, rhoC b bs bt]) (by kernel_rfl) (by kernel_rfl) zAtt zHR ?_
  refine pzU ?_
  apply pl_e
  · exact e_call rfl rfl (H2 ls')
  · rfl
  · rfl
  · rfl
  · rintro _ _ ⟨_, lt', _, rfl⟩
    exact zHR
  rintro _ _ ⟨rfl, lt', ht', rfl⟩
  refine pzU ?_
  refine gzU ?_
  exact k_ret2 [] (capC b4 (atD H.1 s) :: ((rhoC b bs bt :: (ls' ++ lt')) ++ G)) rfl (l' := (rhoC b bs bt :: (ls' ++ lt')) ++ G) (.drop (.pick .here (.drop (.of_perm (.of_eq (by simp)))))) (by exact zRes) (.drop .refl) ⟨rfl, _, ⟨bs, bt, ls', lt', rfl, hs', ht'⟩, rfl⟩
end Go.Proofs.YtpplknmmjlgadaaGreat

/- Chapter 18's own answer: Final. -/
-- GU
set_option linter.unusedVariables false
set_option linter.unusedSimpArgs false
namespace Go.Proofs.YtpplknmmjlgadaaGreat
open Go.RowKit
set_option maxRecDepth 20000

theorem alike_zero (x : CapT) : alikeB x capZ = false := by
  unfold alikeB
  cases mayC x with
  | false => rfl
  | true =>
    by_cases h : x.kind = 0
    · rw [decide_eq_true h]; rfl
    · rw [show decide (x.kind = capZ.kind) = false from decide_eq_false h]
      simp
theorem final_eq {H : HS} {n : Nat} (hI : InvH H n) (s : slT) : finalH H s = (((usedD H.1).all fun x => !likeP s (getD' H.1 s).1 x) && !decide ((getD' H.1 s).1.kind = 0)) := by
  have hl : ∀ c x, (!likeP s c x) = (decide (x.1 = s) || !alikeB x.2 c) := fun c x => by
    unfold likeP
    cases decide (x.1 = s) <;> simp
  unfold finalH
  rcases get_e (D := H.1) (s := s) with ⟨h1, h2⟩ | ⟨h1, h2⟩
  · rw [h1, h2]
    simp only [hl]
    rw [Bool.true_and, Bool.and_comm]
  · rw [h1, h2, show decide (capZ.kind = 0) = true from rfl]
    simp
theorem rused_len {D : SD} (h : (usedD D).length ≤ 900000) : True := trivial
set_option pp.deepTerms false
set_option pp.deepTerms.threshold 4
set_option maxHeartbeats 400000
theorem rhfinal_any (b : Nat) (H : HS) (n : Nat) (hI : InvH H n) (hn : n ≤ 1000) (lq : List Chunk) (hq : IsRH b H lq) (s : slT) (hul : (usedD H.1).length ≤ 900000) (l : List Chunk) (hsub : ∀ c, c ∈ lq → c ∈ l) :
    Fn Tryz.prog 50 [.pointer (some ⟨b, 0, none⟩), .agg (List.toArray (encT s))] l fun v l' => v = .bool (finalH H s) ∧ ∃ X, l' = X ++ l := by
  obtain ⟨z1, z2, z3⟩ := hI.small hn
  have hq0 := hq
  obtain ⟨bs, bt, ls, lt, hb⟩ := hq
  have hm : rhoC b bs bt ∈ l := hsub _ hb.h
  refine fn_of_body Tryz.func50 rfl rfl fun E => ?_
  simp only [argF, Tryz.ntmps50]
  refine gzU ?_
  (first | refine t_e (e_box1 rfl rfl) rfl rfl rfl ?_ | refine t_e (e_boxA rfl) rfl rfl rfl ?_); rintro _ _ ⟨b3, _, rfl, rfl⟩
  refine gzU ?_
  refine t_q (q_call rfl rfl fun l2 hl => rcap_any b H lq hq0 z1 s l2 fun c hc => hl _ (.tail _ (hsub _ hc))) rfl rfl rfl ?_
  rw [final_eq hI s]
  obtain ⟨c, hc0⟩ : ∃ c, (getD' H.1 s).1 = c := ⟨_, rfl⟩
  have hcw : CapW c := by
    rw [← hc0]
    rcases get_e (D := H.1) (s := s) with ⟨_, h2⟩ | ⟨_, h2⟩
    · rw [h2]; exact (hI.at s).2
    · rw [h2]; exact capZ_ok.2
  rw [hc0]
  refine gzU ?_
  refine t_e e_alloc rfl rfl rfl ?_; rintro _ _ ⟨b5, _, rfl, rfl⟩
  refine gzU ?_
  refine t_e (e_call0 rfl rfl (rused_any bs H.1 ls hb.s (by omega) hI.valD _ fun c hc => .tail _ (.tail _ (hsub _ (hb.m1 c hc))))) rfl rfl rfl ?_
  rintro v _ ⟨cs, ho, rfl⟩
  have hU2 : ∀ x, x ∈ usedD H.1 → CapW x.2 := fun x hx => by
    obtain ⟨_, h2, _⟩ := used_at hI.asc hx
    rw [← h2]; exact (hI.at x.1).2
  obtain ⟨U, hU⟩ : ∃ U, usedD H.1 = U := ⟨_, rfl⟩
  rw [hU] at ho hul hU2 ⊢
  have hR := ho.hds' (l := cs ++ (capC b5 c :: slC b3 s :: l)) (fun c hc => List.mem_append_left _ hc)
  have m5 : capC b5 c ∈ cs ++ (capC b5 c :: slC b3 s :: l) := List.mem_append_right _ (.head _)
  have m3 : slC b3 s ∈ cs ++ (capC b5 c :: slC b3 s :: l) := List.mem_append_right _ (.tail _ (.head _))
  have hend : Keep (cs ++ (capC b5 c :: slC b3 s :: l)) (cs ++ l) := keep_ac [capC b5 c, slC b3 s]
  obtain ⟨p, cap, rfl, hrow⟩ := hR
  refine gzU ?_
  refine k_loop (α := Nat) (fun i => [(3, .pointer (some ⟨b3, 0, none⟩)), (5, .pointer (some ⟨b5, 0, none⟩)), (6, .slice p U.length cap), (7, .int .i64 i)]) (fun _ => cs ++ (capC b5 c :: slC b3 s :: l)) (fun i => i ≤ U.length ∧ ∀ x, x ∈ U.take i → likeP s c x = false) (fun i => U.length - i) 0 ⟨Nat.zero_le _, by simp⟩ ⟨rfl, rfl, rfl, rfl, trivial⟩ .refl ?_
  rintro i ⟨hi, hpre⟩
  by_cases hlt : i < U.length
  case neg =>
    obtain rfl : i = U.length := by omega
    rw [List.take_length] at hpre
    rw [show (U.all fun x => !likeP s c x) = true by rw [List.all_eq_true]; intro x hx; rw [hpre x hx]; rfl]
    by_cases hk : c.kind = 0
    · rw [decide_eq_true hk]
      refine gzU ?_
      refine k_ret [] rfl (l' := cs ++ l) hend (by exact zRes) ⟨?_, cs, rfl⟩
      rw [decide_eq_false (by simpa using hk)]; rfl
    · rw [decide_eq_false hk]
      refine gzU ?_
      refine k_ret [] rfl (l' := cs ++ l) hend (by exact zRes) ⟨?_, cs, rfl⟩
      rw [decide_eq_true hk]; rfl
  obtain ⟨x, hx⟩ : ∃ x, U[i]? = some x := ⟨_, List.getElem?_eq_getElem hlt⟩
  obtain ⟨gb, off, xs, ty, fz, rfl, hmr, hc⟩ := hrow (by omega)
  obtain ⟨g1, g2⟩ := hc i x hx
  have h2 := ext_part (j := 0) (n := 2) g2 g1 (by omega)
  have h8 := ext_part (j := 2) (n := 8) g2 g1 (by omega)
  have hxw := hU2 x (List.mem_of_getElem? hx)
  have hstep : likeP s c x = false → ∀ y, y ∈ U.take (i + 1) → likeP s c y = false := fun h y hy => by
    rw [List.take_add_one, hx] at hy
    rcases List.mem_append.1 hy with hy | hy
    · exact hpre y hy
    · rw [List.mem_singleton.1 hy]; exact h
  refine gzU ?_
  refine c_draw [(0, true), (1, true), (2, true), (3, true), (4, true), (5, true), (6, true), (7, true), (8, true), (9, true), (10, true), (11, true), (12, true), (13, true), (14, true), (15, true)] [[], [], [0, 1], [0, 1, 2], [0, 1, 2, 3], [], [0, 1, 2, 3, 4, 5], [0, 1, 2, 3, 4, 5, 6], [0, 1, 2, 3, 4, 5, 6, 7], [0, 1, 2, 3, 4, 5, 6, 7], [0, 1, 2, 3, 4, 5, 6, 7, 8, 9], [0, 1, 2, 3, 4, 5, 6, 7, 8, 9, 10], [0, 1, 2, 3, 4, 5, 6, 7, 8, 9, 10, 11], [0, 1, 2, 3, 4, 5, 6, 7], [0, 1, 2, 3, 4, 5, 6, 7, 8, 9, 10, 11, 12, 13], [0, 1, 2, 3, 4, 5, 6, 7, 8, 9, 10, 11, 12, 13, 14]] _ (by kernel_rfl) (by kernel_rfl) zAtt (fun _ h => h) ?_
  refine pzU ?_
  refine pl_h (q_loadA (n := 2) rfl hmr (by omega) h2) rfl rfl rfl ?_
  refine pzU ?_
  refine pl_h (q_neagg (xs := encT x.1) (ys := encT s) rfl rfl (encT_k x.1) (encT_k s)) rfl rfl rfl ?_
  by_cases hxs : x.1 = s
  · rw [show (!eqCells (encT x.1) (encT s)) = false by rw [hxs, eqCells_self (encT_k s)]; rfl]
    refine pzU ?_
    refine gzU ?_
    exact k_next (i + 1) ⟨by omega, hstep (by unfold likeP; rw [decide_eq_true hxs]; rfl)⟩ (by omega) ⟨rfl, rfl, rfl, rfl, trivial⟩ .refl
  rw [show (!eqCells (encT x.1) (encT s)) = true by rw [eqT_f hxs]; rfl]
  refine pzU ?_
  refine pl_h (q_loadA (n := 8) rfl hmr (by omega) h8) rfl rfl rfl ?_
  refine pzU ?_
  refine pl_h (q_call rfl rfl fun l2 hl => ralike_any x.2 c hxw hcw l2) rfl rfl rfl ?_
  cases ha : alikeB x.2 c with
  | false =>
    refine pzU ?_
    refine gzU ?_
    exact k_next (i + 1) ⟨by omega, hstep (by unfold likeP; rw [ha, Bool.and_false])⟩ (by omega) ⟨rfl, rfl, rfl, rfl, trivial⟩ .refl
  | true =>
    rw [show (U.all fun x => !likeP s c x) = false by
      rw [Bool.eq_false_iff]; intro h
      rw [List.all_eq_true] at h
      have := h x (List.mem_of_getElem? hx)
      unfold likeP at this
      rw [ha, decide_eq_false hxs] at this
      cases this]
    refine pzU ?_
    refine gzU ?_
    exact k_ret [] rfl (l' := cs ++ l) hend (by exact zRes) ⟨rfl, cs, rfl⟩
end Go.Proofs.YtpplknmmjlgadaaGreat

/- hold: an act of both. -/
-- GU
set_option linter.unusedVariables false
set_option linter.unusedSimpArgs false
namespace Go.Proofs.YtpplknmmjlgadaaGreat
open Go.RowKit
set_option maxRecDepth 20000

structure AcH where
  d : Int
  a : slT
  b : slT
  c : CapT
  n : Int
  w : Nat
abbrev encK (x : AcH) : List Value := [.int .i64 x.d, .int .i64 x.a.1, .int .i64 x.a.2, .int .i64 x.b.1, .int .i64 x.b.2, .int .i64 x.c.kind, .int .i64 x.c.obj, .int .i64 x.c.rights, .int .u64 x.c.badge, .int .i64 x.c.guard, .int .i64 x.c.bits, .int .i64 x.c.serial, .int .i64 x.c.page, .int .i64 x.n, .int .u64 (x.w : Nat)]
abbrev acC (B : Nat) (x : AcH) : Chunk := (B, .cells (List.toArray (encK x)) 35 (0, 0))
structure OkA (x : AcH) : Prop where
  c : CapW x.c
  w : x.w < 18446744073709551616
def actH (H : HS) (x : AcH) : HS :=
  if x.d = 0 then (rootH H x.a x.c).2 else if x.d = 1 then (childH H x.a x.b x.c).2 else if x.d = 2 then (setH H x.a x.c).2 else if x.d = 3 then (derH H x.a x.b (copyC (atD H.1 x.a) x.n)).2 else if x.d = 4 then (derH H x.a x.b (mintC (atD H.1 x.a) x.n x.w)).2
  else if x.d = 5 then (moveH H x.a x.b).2 else if x.d = 6 then (swapH H x.a x.b).2 else if x.d = 7 then (clearH H x.a).2 else if x.d = 8 then ((addN H.1 x.a.1 x.n).2, H.2) else if x.d = 9 then ((dropN H.1 x.a.1).2, H.2) else H
theorem InvH.act {H : HS} {n : Nat} (h : InvH H n) (x : AcH) (hx : OkA x) : InvH (actH H x) (n + 1) := by
  unfold actH
  split
  · exact h.root _ _ hx.c
  split
  · exact h.child _ _ _ hx.c
  split
  · exact (h.set _ _ hx.c).mono (by omega)
  split
  · exact h.der _ _ _ (copy_w (h.at _).2 _)
  split
  · exact h.der _ _ _ (mint_w (h.at _).2 _ _)
  split
  · exact (h.move _ _).mono (by omega)
  split
  · exact (h.swap _ _).mono (by omega)
  split
  · exact (h.clear _).mono (by omega)
  split
  · exact h.add _ _
  split
  · exact (h.drop _).mono (by omega)
  · exact h.mono (by omega)
theorem encC_k' (c : CapT) : AllK capK (encC c) := encC_k c
set_option pp.deepTerms false
set_option pp.deepTerms.threshold 4
set_option maxHeartbeats 400000
theorem done_any (b bw : Nat) (H : HS) (n : Nat) (hI : InvH H n) (hn : n ≤ 1000) (lq lr : List Chunk) (hq : IsH b H lq) (hr : IsRH bw H lr) (x : AcH) (hx : OkA x) (G : List Chunk) :
    Fn Tryz.prog 10 [.pointer (some ⟨b, 0, none⟩), .pointer (some ⟨bw, 0, none⟩), .agg (List.toArray (encK x))] (lq ++ (lr ++ G)) fun v l' => v = .bool true ∧ ∃ lq' lr', IsH b (actH H x) lq' ∧ IsRH bw (actH H x) lr' ∧ l' = lq' ++ (lr' ++ G) := by
  obtain ⟨z1, z2, z3⟩ := hI.small hn
  obtain ⟨D1, hD1⟩ : ∃ D1, actH H x = D1 := ⟨_, rfl⟩
  rw [hD1]
  unfold actH at hD1
  refine fn_of_body Tryz.func10 rfl rfl fun E => ?_
  simp only [argF, Tryz.ntmps10]
  refine gzU ?_
  (first | refine t_e (e_box1 rfl rfl) rfl rfl rfl ?_ | refine t_e (e_boxA rfl) rfl rfl rfl ?_); rintro _ _ ⟨b5, _, rfl, rfl⟩
  refine gzU ?_
  by_cases hd0 : x.d = 0
  · rw [if_pos hd0] at hD1
    have HA := Fn.mvP (fun A => acC b5 x :: (A ++ (lr ++ G))) (hroot_any b H n hI lq hq x.a x.c (acC b5 x :: (lr ++ G)))
    have HR := fun lq => Fn.mvP (fun A => acC b5 x :: (lq ++ (A ++ G))) (rhroot_any bw H n hI hn lr hr x.a x.c hx.c (acC b5 x :: (lq ++ G)))
    rw [hD1] at HA HR
    refine gzU ?_
    refine c_draw [(0, true), (1, true), (2, true), (3, true), (4, true), (7, true), (8, true), (9, true), (10, true), (11, true), (5, false), (6, true), (12, false), (13, true), (14, true)] [[], [], [1], [], [3], [0, 1, 2, 3, 4], [0, 1, 2, 3, 4, 5], [], [], [8], [], [10], [0, 1, 2, 3, 4, 5, 6, 7, 8, 9, 10, 11], [0, 1, 2, 3, 4, 5, 6, 7, 8, 9, 10, 11, 12], [0, 1, 2, 3, 4, 5, 6, 7, 8, 9, 10, 11, 12, 13]] ([acC b5 x]) (by kernel_rfl) (by kernel_rfl) zAtt zHR ?_
    refine pzU ?_
    apply pl_e
    · exact e_call rfl rfl HA
    · rfl
    · rfl
    · rfl
    · rintro _ _ ⟨_, lq1, _, rfl⟩
      exact sing_mem (.head _)
    rintro _ _ ⟨rfl, lq1, hq1, rfl⟩
    refine pzU ?_
    refine pl_h (q_call rfl rfl (fun l hl => num_any _ l)) rfl rfl rfl ?_
    refine pzU ?_
    apply pl_e
    · exact e_call rfl rfl (HR lq1)
    · rfl
    · rfl
    · rfl
    · rintro _ _ ⟨_, lr1, _, rfl⟩
      exact sing_mem (.head _)
    rintro _ _ ⟨rfl, lr1, hr1, rfl⟩
    refine pzU ?_
    rw [decide_eq_true (rfl : (rootH H x.a x.c).1 = _)]
    refine gzU ?_
    exact k_ret [] rfl (l' := lq1 ++ (lr1 ++ G)) (.drop .refl) (by exact zRes) ⟨rfl, lq1, lr1, hq1, hr1, rfl⟩
  rw [if_neg hd0] at hD1
  by_cases hd1 : x.d = 1
  · rw [if_pos hd1] at hD1
    have HA := Fn.mvP (fun A => acC b5 x :: (A ++ (lr ++ G))) (hchild_any b H n hI hn lq hq x.a x.b x.c (acC b5 x :: (lr ++ G)))
    have HR := fun lq => Fn.mvP (fun A => acC b5 x :: (lq ++ (A ++ G))) (rhchild_any bw H n hI hn lr hr x.a x.b x.c hx.c (acC b5 x :: (lq ++ G)))
    rw [hD1] at HA HR
    refine gzU ?_
    refine c_draw [(0, true), (1, true), (2, true), (3, true), (4, true), (5, true), (6, true), (9, true), (10, true), (11, true), (12, true), (13, true), (14, true), (15, true), (7, false), (8, true), (16, false), (17, true), (18, true)] [[], [], [1], [], [3], [], [5], [0, 1, 2, 3, 4, 5, 6], [0, 1, 2, 3, 4, 5, 6, 7], [], [], [10], [], [12], [], [14], [0, 1, 2, 3, 4, 5, 6, 7, 8, 9, 10, 11, 12, 13, 14, 15], [0, 1, 2, 3, 4, 5, 6, 7, 8, 9, 10, 11, 12, 13, 14, 15, 16], [0, 1, 2, 3, 4, 5, 6, 7, 8, 9, 10, 11, 12, 13, 14, 15, 16, 17]] ([acC b5 x]) (by kernel_rfl) (by kernel_rfl) zAtt zHR ?_
    refine pzU ?_
    apply pl_e
    · exact e_call rfl rfl HA
    · rfl
    · rfl
    · rfl
    · rintro _ _ ⟨_, lq1, _, rfl⟩
      exact sing_mem (.head _)
    rintro _ _ ⟨rfl, lq1, hq1, rfl⟩
    refine pzU ?_
    refine pl_h (q_call rfl rfl (fun l hl => num_any _ l)) rfl rfl rfl ?_
    refine pzU ?_
    apply pl_e
    · exact e_call rfl rfl (HR lq1)
    · rfl
    · rfl
    · rfl
    · rintro _ _ ⟨_, lr1, _, rfl⟩
      exact sing_mem (.head _)
    rintro _ _ ⟨rfl, lr1, hr1, rfl⟩
    refine pzU ?_
    rw [decide_eq_true (rfl : (childH H x.a x.b x.c).1 = _)]
    refine gzU ?_
    exact k_ret [] rfl (l' := lq1 ++ (lr1 ++ G)) (.drop .refl) (by exact zRes) ⟨rfl, lq1, lr1, hq1, hr1, rfl⟩
  rw [if_neg hd1] at hD1
  by_cases hd2 : x.d = 2
  · rw [if_pos hd2] at hD1
    have HA := Fn.mvP (fun A => acC b5 x :: (A ++ (lr ++ G))) (hset_any b H n hI lq hq x.a x.c (acC b5 x :: (lr ++ G)))
    have HR := fun lq => Fn.mvP (fun A => acC b5 x :: (lq ++ (A ++ G))) (rhset_any bw H n hI hn lr hr x.a x.c hx.c (acC b5 x :: (lq ++ G)))
    rw [hD1] at HA HR
    refine gzU ?_
    refine c_draw [(0, true), (1, true), (2, true), (3, true), (4, true), (7, true), (8, true), (9, true), (10, true), (11, true), (5, false), (6, true), (12, false), (13, true), (14, true)] [[], [], [1], [], [3], [0, 1, 2, 3, 4], [0, 1, 2, 3, 4, 5], [], [], [8], [], [10], [0, 1, 2, 3, 4, 5, 6, 7, 8, 9, 10, 11], [0, 1, 2, 3, 4, 5, 6, 7, 8, 9, 10, 11, 12], [0, 1, 2, 3, 4, 5, 6, 7, 8, 9, 10, 11, 12, 13]] ([acC b5 x]) (by kernel_rfl) (by kernel_rfl) zAtt zHR ?_
    refine pzU ?_
    apply pl_e
    · exact e_call rfl rfl HA
    · rfl
    · rfl
    · rfl
    · rintro _ _ ⟨_, lq1, _, rfl⟩
      exact sing_mem (.head _)
    rintro _ _ ⟨rfl, lq1, hq1, rfl⟩
    refine pzU ?_
    refine pl_h (q_call rfl rfl (fun l hl => num_any _ l)) rfl rfl rfl ?_
    refine pzU ?_
    apply pl_e
    · exact e_call rfl rfl (HR lq1)
    · rfl
    · rfl
    · rfl
    · rintro _ _ ⟨_, lr1, _, rfl⟩
      exact sing_mem (.head _)
    rintro _ _ ⟨rfl, lr1, hr1, rfl⟩
    refine pzU ?_
    rw [decide_eq_true (rfl : (setH H x.a x.c).1 = _)]
    refine gzU ?_
    exact k_ret [] rfl (l' := lq1 ++ (lr1 ++ G)) (.drop .refl) (by exact zRes) ⟨rfl, lq1, lr1, hq1, hr1, rfl⟩
  rw [if_neg hd2] at hD1
  by_cases hd3 : x.d = 3
  · rw [if_pos hd3] at hD1
    have HA := Fn.mvP (fun A => acC b5 x :: (A ++ (lr ++ G))) (hcopy_any b H n hI hn lq hq x.a x.b x.n (acC b5 x :: (lr ++ G)))
    have HR := fun lq => Fn.mvP (fun A => acC b5 x :: (lq ++ (A ++ G))) (rhcopy_any bw H n hI hn lr hr x.a x.b x.n (acC b5 x :: (lq ++ G)))
    rw [hD1] at HA HR
    refine gzU ?_
    refine c_draw [(0, true), (1, true), (2, true), (3, true), (4, true), (5, true), (6, true), (9, true), (10, true), (11, true), (12, true), (13, true), (14, true), (15, true), (7, false), (8, true), (16, false), (17, true), (18, true)] [[], [], [1], [], [3], [], [5], [0, 1, 2, 3, 4, 5, 6], [0, 1, 2, 3, 4, 5, 6, 7], [], [], [10], [], [12], [], [14], [0, 1, 2, 3, 4, 5, 6, 7, 8, 9, 10, 11, 12, 13, 14, 15], [0, 1, 2, 3, 4, 5, 6, 7, 8, 9, 10, 11, 12, 13, 14, 15, 16], [0, 1, 2, 3, 4, 5, 6, 7, 8, 9, 10, 11, 12, 13, 14, 15, 16, 17]] ([acC b5 x]) (by kernel_rfl) (by kernel_rfl) zAtt zHR ?_
    refine pzU ?_
    apply pl_e
    · exact e_call rfl rfl HA
    · rfl
    · rfl
    · rfl
    · rintro _ _ ⟨_, lq1, _, rfl⟩
      exact sing_mem (.head _)
    rintro _ _ ⟨rfl, lq1, hq1, rfl⟩
    refine pzU ?_
    refine pl_h (q_call rfl rfl (fun l hl => num_any _ l)) rfl rfl rfl ?_
    refine pzU ?_
    apply pl_e
    · exact e_call rfl rfl (HR lq1)
    · rfl
    · rfl
    · rfl
    · rintro _ _ ⟨_, lr1, _, rfl⟩
      exact sing_mem (.head _)
    rintro _ _ ⟨rfl, lr1, hr1, rfl⟩
    refine pzU ?_
    rw [decide_eq_true (rfl : (derH H x.a x.b (copyC (atD H.1 x.a) x.n)).1 = _)]
    refine gzU ?_
    exact k_ret [] rfl (l' := lq1 ++ (lr1 ++ G)) (.drop .refl) (by exact zRes) ⟨rfl, lq1, lr1, hq1, hr1, rfl⟩
  rw [if_neg hd3] at hD1
  by_cases hd4 : x.d = 4
  · rw [if_pos hd4] at hD1
    have HA := Fn.mvP (fun A => acC b5 x :: (A ++ (lr ++ G))) (hmint_any b H n hI hn lq hq x.a x.b x.n x.w hx.w (acC b5 x :: (lr ++ G)))
    have HR := fun lq => Fn.mvP (fun A => acC b5 x :: (lq ++ (A ++ G))) (rhmint_any bw H n hI hn lr hr x.a x.b x.n x.w hx.w (acC b5 x :: (lq ++ G)))
    rw [hD1] at HA HR
    refine gzU ?_
    refine c_draw [(0, true), (1, true), (2, true), (3, true), (4, true), (5, true), (6, true), (7, true), (8, true), (11, true), (12, true), (13, true), (14, true), (15, true), (16, true), (17, true), (18, true), (19, true), (9, false), (10, true), (20, false), (21, true), (22, true)] [[], [], [1], [], [3], [], [5], [], [7], [0, 1, 2, 3, 4, 5, 6, 7, 8], [0, 1, 2, 3, 4, 5, 6, 7, 8, 9], [], [], [12], [], [14], [], [16], [], [18], [0, 1, 2, 3, 4, 5, 6, 7, 8, 9, 10, 11, 12, 13, 14, 15, 16, 17, 18, 19], [0, 1, 2, 3, 4, 5, 6, 7, 8, 9, 10, 11, 12, 13, 14, 15, 16, 17, 18, 19, 20], [0, 1, 2, 3, 4, 5, 6, 7, 8, 9, 10, 11, 12, 13, 14, 15, 16, 17, 18, 19, 20, 21]] ([acC b5 x]) (by kernel_rfl) (by kernel_rfl) zAtt zHR ?_
    refine pzU ?_
    apply pl_e
    · exact e_call rfl rfl HA
    · rfl
    · rfl
    · rfl
    · rintro _ _ ⟨_, lq1, _, rfl⟩
      exact sing_mem (.head _)
    rintro _ _ ⟨rfl, lq1, hq1, rfl⟩
    refine pzU ?_
    refine pl_h (q_call rfl rfl (fun l hl => num_any _ l)) rfl rfl rfl ?_
    refine pzU ?_
    apply pl_e
    · exact e_call rfl rfl (HR lq1)
    · rfl
    · rfl
    · rfl
    · rintro _ _ ⟨_, lr1, _, rfl⟩
      exact sing_mem (.head _)
    rintro _ _ ⟨rfl, lr1, hr1, rfl⟩
    refine pzU ?_
    rw [decide_eq_true (rfl : (derH H x.a x.b (mintC (atD H.1 x.a) x.n x.w)).1 = _)]
    refine gzU ?_
    exact k_ret [] rfl (l' := lq1 ++ (lr1 ++ G)) (.drop .refl) (by exact zRes) ⟨rfl, lq1, lr1, hq1, hr1, rfl⟩
  rw [if_neg hd4] at hD1
  by_cases hd5 : x.d = 5
  · rw [if_pos hd5] at hD1
    have HA := Fn.mvP (fun A => acC b5 x :: (A ++ (lr ++ G))) (hmove_any b H n hI lq hq x.a x.b (acC b5 x :: (lr ++ G)))
    have HR := fun lq => Fn.mvP (fun A => acC b5 x :: (lq ++ (A ++ G))) (rhmove_any bw H n hI hn lr hr x.a x.b (acC b5 x :: (lq ++ G)))
    rw [hD1] at HA HR
    refine gzU ?_
    refine c_draw [(0, true), (1, true), (2, true), (3, true), (4, true), (7, true), (8, true), (9, true), (10, true), (11, true), (5, false), (6, true), (12, false), (13, true), (14, true)] [[], [], [1], [], [3], [0, 1, 2, 3, 4], [0, 1, 2, 3, 4, 5], [], [], [8], [], [10], [0, 1, 2, 3, 4, 5, 6, 7, 8, 9, 10, 11], [0, 1, 2, 3, 4, 5, 6, 7, 8, 9, 10, 11, 12], [0, 1, 2, 3, 4, 5, 6, 7, 8, 9, 10, 11, 12, 13]] ([acC b5 x]) (by kernel_rfl) (by kernel_rfl) zAtt zHR ?_
    refine pzU ?_
    apply pl_e
    · exact e_call rfl rfl HA
    · rfl
    · rfl
    · rfl
    · rintro _ _ ⟨_, lq1, _, rfl⟩
      exact sing_mem (.head _)
    rintro _ _ ⟨rfl, lq1, hq1, rfl⟩
    refine pzU ?_
    refine pl_h (q_call rfl rfl (fun l hl => num_any _ l)) rfl rfl rfl ?_
    refine pzU ?_
    apply pl_e
    · exact e_call rfl rfl (HR lq1)
    · rfl
    · rfl
    · rfl
    · rintro _ _ ⟨_, lr1, _, rfl⟩
      exact sing_mem (.head _)
    rintro _ _ ⟨rfl, lr1, hr1, rfl⟩
    refine pzU ?_
    rw [decide_eq_true (rfl : (moveH H x.a x.b).1 = _)]
    refine gzU ?_
    exact k_ret [] rfl (l' := lq1 ++ (lr1 ++ G)) (.drop .refl) (by exact zRes) ⟨rfl, lq1, lr1, hq1, hr1, rfl⟩
  rw [if_neg hd5] at hD1
  by_cases hd6 : x.d = 6
  · rw [if_pos hd6] at hD1
    have HA := Fn.mvP (fun A => acC b5 x :: (A ++ (lr ++ G))) (hswap_any b H n hI lq hq x.a x.b (acC b5 x :: (lr ++ G)))
    have HR := fun lq => Fn.mvP (fun A => acC b5 x :: (lq ++ (A ++ G))) (rhswap_any bw H n hI hn lr hr x.a x.b (acC b5 x :: (lq ++ G)))
    rw [hD1] at HA HR
    refine gzU ?_
    refine c_draw [(0, true), (1, true), (2, true), (3, true), (4, true), (7, true), (8, true), (9, true), (10, true), (11, true), (5, false), (6, true), (12, false), (13, true), (14, true)] [[], [], [1], [], [3], [0, 1, 2, 3, 4], [0, 1, 2, 3, 4, 5], [], [], [8], [], [10], [0, 1, 2, 3, 4, 5, 6, 7, 8, 9, 10, 11], [0, 1, 2, 3, 4, 5, 6, 7, 8, 9, 10, 11, 12], [0, 1, 2, 3, 4, 5, 6, 7, 8, 9, 10, 11, 12, 13]] ([acC b5 x]) (by kernel_rfl) (by kernel_rfl) zAtt zHR ?_
    refine pzU ?_
    apply pl_e
    · exact e_call rfl rfl HA
    · rfl
    · rfl
    · rfl
    · rintro _ _ ⟨_, lq1, _, rfl⟩
      exact sing_mem (.head _)
    rintro _ _ ⟨rfl, lq1, hq1, rfl⟩
    refine pzU ?_
    refine pl_h (q_call rfl rfl (fun l hl => num_any _ l)) rfl rfl rfl ?_
    refine pzU ?_
    apply pl_e
    · exact e_call rfl rfl (HR lq1)
    · rfl
    · rfl
    · rfl
    · rintro _ _ ⟨_, lr1, _, rfl⟩
      exact sing_mem (.head _)
    rintro _ _ ⟨rfl, lr1, hr1, rfl⟩
    refine pzU ?_
    rw [decide_eq_true (rfl : (swapH H x.a x.b).1 = _)]
    refine gzU ?_
    exact k_ret [] rfl (l' := lq1 ++ (lr1 ++ G)) (.drop .refl) (by exact zRes) ⟨rfl, lq1, lr1, hq1, hr1, rfl⟩
  rw [if_neg hd6] at hD1
  by_cases hd7 : x.d = 7
  · rw [if_pos hd7] at hD1
    obtain ⟨d, hd⟩ : ∃ d, (clearH H x.a).1.1 = d := ⟨_, rfl⟩
    obtain ⟨e, he⟩ : ∃ e, (clearH H x.a).1.2 = e := ⟨_, rfl⟩
    have HA := Fn.mvP (fun A => acC b5 x :: (A ++ (lr ++ G))) (hclear_any b H n hI hn lq hq x.a (acC b5 x :: (lr ++ G)))
    have HR := fun b7 lq => Fn.mvP (fun A => capC b7 d :: acC b5 x :: (lq ++ (A ++ G))) (rhclear_any bw H n hI hn lr hr x.a (capC b7 d :: acC b5 x :: (lq ++ G)))
    rw [hD1, hd, he] at HA HR
    refine gzU ?_
    refine t_eh (e_call rfl rfl HA) rfl rfl rfl ?_
    rintro _ _ ⟨rfl, lq1, hq1, rfl⟩
    refine gzU ?_
    refine t_e e_alloc rfl rfl rfl ?_; rintro _ _ ⟨b7, _, rfl, rfl⟩
    refine gzU ?_
    refine t_eh (e_call rfl rfl (HR b7 lq1)) rfl rfl rfl ?_
    rintro _ _ ⟨rfl, lr1, hr1, rfl⟩
    refine gzU ?_
    refine t_e e_alloc rfl rfl rfl ?_; rintro _ _ ⟨b9, _, rfl, rfl⟩
    refine gzU ?_
    refine t_q (q_eqagg (xs := encC d) (ys := encC d) rfl rfl (encC_k d) (encC_k d)) rfl rfl rfl ?_
    rw [eqCells_self (encC_k d)]
    refine gzU ?_
    refine t_h (q_call rfl rfl (fun l hl => num_any _ l)) rfl rfl rfl ?_
    refine gzU ?_
    rw [decide_eq_true (rfl : e = _)]
    refine gzU ?_
    exact k_ret [] rfl (l' := lq1 ++ (lr1 ++ G)) (.drop (.drop (.drop .refl))) (by exact zRes) ⟨rfl, lq1, lr1, hq1, hr1, rfl⟩
  rw [if_neg hd7] at hD1
  by_cases hd8 : x.d = 8
  · rw [if_pos hd8] at hD1
    have HA := Fn.mvP (fun A => acC b5 x :: (A ++ (lr ++ G))) (haddN_any b H lq hq x.a.1 x.n (acC b5 x :: (lr ++ G)))
    obtain ⟨bs, bt, ls, lt, rfl, hs, ht⟩ := hr
    have HR := fun lq => Fn.mvP (fun A => acC b5 x :: (lq ++ (rhoC bw bs bt :: (A ++ (lt ++ G))))) (radd_any bs H.1 ls hs (by omega) x.a.1 x.n (acC b5 x :: (lq ++ (rhoC bw bs bt :: (lt ++ G)))))
    simp only [List.cons_append, List.append_assoc] at HA HR ⊢
    have hmr : ∀ lq ls, rhoC bw bs bt ∈ acC b5 x :: (lq ++ (rhoC bw bs bt :: (ls ++ (lt ++ G)))) := fun lq ls => .tail _ (List.mem_append_right _ (.head _))
    have hR2 : ∀ lq ls c, c ∈ [acC b5 x, rhoC bw bs bt] → c ∈ acC b5 x :: (lq ++ (rhoC bw bs bt :: (ls ++ (lt ++ G)))) := fun lq ls c hc => by
      rcases List.mem_cons.1 hc with rfl | hc
      · exact .head _
      · rw [List.mem_singleton.1 hc]; exact hmr lq ls
    refine gzU ?_
    refine c_draw [(0, true), (1, true), (2, true), (3, true), (4, true), (5, true), (8, true), (9, true), (10, true), (11, true), (12, true), (13, true), (14, true), (15, true), (16, true), (6, false), (7, true), (17, false), (18, true), (19, true)] [[], [], [1], [1, 2], [], [4], [0, 1, 2, 3, 4, 5], [0, 1, 2, 3, 4, 5, 6], [], [8], [8, 9], [8, 9, 10], [], [12], [12, 13], [], [15], [0, 1, 2, 3, 4, 5, 6, 7, 8, 9, 10, 11, 12, 13, 14, 15, 16], [0, 1, 2, 3, 4, 5, 6, 7, 8, 9, 10, 11, 12, 13, 14, 15, 16, 17], [0, 1, 2, 3, 4, 5, 6, 7, 8, 9, 10, 11, 12, 13, 14, 15, 16, 17, 18]] ([acC b5 x, rhoC bw bs bt]) (by kernel_rfl) (by kernel_rfl) zAtt (hR2 _ _) ?_
    refine pzU ?_
    apply pl_e
    · exact e_call rfl rfl HA
    · rfl
    · rfl
    · rfl
    · rintro _ _ ⟨_, lq1, _, rfl⟩
      exact hR2 _ _
    rintro _ _ ⟨rfl, lq1, hq1, rfl⟩
    refine pzU ?_
    refine pl_h (q_call rfl rfl (fun l hl => num_any _ l)) rfl rfl rfl ?_
    refine pzU ?_
    apply pl_e
    · exact e_call rfl rfl (HR lq1)
    · rfl
    · rfl
    · rfl
    · rintro _ _ ⟨_, lr1, _, rfl⟩
      exact hR2 _ _
    rintro _ _ ⟨rfl, ls1, hs1, rfl⟩
    refine pzU ?_
    rw [decide_eq_true (rfl : (addN H.1 x.a.1 x.n).1 = _)]
    refine gzU ?_
    exact k_ret [] rfl (l' := lq1 ++ ((rhoC bw bs bt :: (ls1 ++ lt)) ++ G)) (.drop (.of_perm (.of_eq (by simp)))) (by exact zRes) ⟨rfl, lq1, _, by rw [← hD1]; exact hq1, by rw [← hD1]; exact ⟨bs, bt, ls1, lt, rfl, hs1, ht⟩, rfl⟩
  rw [if_neg hd8] at hD1
  by_cases hd9 : x.d = 9
  · rw [if_pos hd9] at hD1
    have HA := Fn.mvP (fun A => acC b5 x :: (A ++ (lr ++ G))) (hdropN_any b H lq hq x.a.1 (acC b5 x :: (lr ++ G)))
    obtain ⟨bs, bt, ls, lt, rfl, hs, ht⟩ := hr
    have HR := fun lq => Fn.mvP (fun A => acC b5 x :: (lq ++ (rhoC bw bs bt :: (A ++ (lt ++ G))))) (rdrop_any bs H.1 ls hs (by omega) hI.valD x.a.1 (acC b5 x :: (lq ++ (rhoC bw bs bt :: (lt ++ G)))))
    simp only [List.cons_append, List.append_assoc] at HA HR ⊢
    have hmr : ∀ lq ls, rhoC bw bs bt ∈ acC b5 x :: (lq ++ (rhoC bw bs bt :: (ls ++ (lt ++ G)))) := fun lq ls => .tail _ (List.mem_append_right _ (.head _))
    have hR2 : ∀ lq ls c, c ∈ [acC b5 x, rhoC bw bs bt] → c ∈ acC b5 x :: (lq ++ (rhoC bw bs bt :: (ls ++ (lt ++ G)))) := fun lq ls c hc => by
      rcases List.mem_cons.1 hc with rfl | hc
      · exact .head _
      · rw [List.mem_singleton.1 hc]; exact hmr lq ls
    refine gzU ?_
    refine c_draw [(0, true), (1, true), (2, true), (3, true), (6, true), (7, true), (8, true), (9, true), (10, true), (11, true), (12, true), (4, false), (5, true), (13, false), (14, true), (15, true)] [[], [], [1], [1, 2], [0, 1, 2, 3], [0, 1, 2, 3, 4], [], [6], [6, 7], [6, 7, 8], [], [10], [10, 11], [0, 1, 2, 3, 4, 5, 6, 7, 8, 9, 10, 11, 12], [0, 1, 2, 3, 4, 5, 6, 7, 8, 9, 10, 11, 12, 13], [0, 1, 2, 3, 4, 5, 6, 7, 8, 9, 10, 11, 12, 13, 14]] ([acC b5 x, rhoC bw bs bt]) (by kernel_rfl) (by kernel_rfl) zAtt (hR2 _ _) ?_
    refine pzU ?_
    apply pl_e
    · exact e_call rfl rfl HA
    · rfl
    · rfl
    · rfl
    · rintro _ _ ⟨_, lq1, _, rfl⟩
      exact hR2 _ _
    rintro _ _ ⟨rfl, lq1, hq1, rfl⟩
    refine pzU ?_
    refine pl_h (q_call rfl rfl (fun l hl => num_any _ l)) rfl rfl rfl ?_
    refine pzU ?_
    apply pl_e
    · exact e_call rfl rfl (HR lq1)
    · rfl
    · rfl
    · rfl
    · rintro _ _ ⟨_, lr1, _, rfl⟩
      exact hR2 _ _
    rintro _ _ ⟨rfl, ls1, hs1, rfl⟩
    refine pzU ?_
    rw [decide_eq_true (rfl : (dropN H.1 x.a.1).1 = _)]
    refine gzU ?_
    exact k_ret [] rfl (l' := lq1 ++ ((rhoC bw bs bt :: (ls1 ++ lt)) ++ G)) (.drop (.of_perm (.of_eq (by simp)))) (by exact zRes) ⟨rfl, lq1, _, by rw [← hD1]; exact hq1, by rw [← hD1]; exact ⟨bs, bt, ls1, lt, rfl, hs1, ht⟩, rfl⟩
  rw [if_neg hd9] at hD1
  subst hD1
  refine gzU ?_
  exact k_ret [] rfl (l' := lq ++ (lr ++ G)) (.drop .refl) (by exact zRes) ⟨rfl, lq, lr, hq, hr, rfl⟩
end Go.Proofs.YtpplknmmjlgadaaGreat
