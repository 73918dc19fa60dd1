import Derived.Test.YtpfhmodjjljpjaaPq
namespace Go.Proofs.Ytpfhmodjjljpjaa
open Go.RowKit
namespace Lg
set_option maxRecDepth 100000
set_option linter.unusedVariables false
set_option linter.unusedSimpArgs false



theorem body133 : (Try.prog.funcs[133]?).map (fun fn => (fn.name == "runtime.NumGoroutine" || fn.body.isNone)) = some false := by kernel_rfl
theorem reach1_spec (o : List Bool) (b : Int) (h0 : 0 ≤ b) (hb : b < (o.length : Int)) : Spec Try.prog 133 [.v (.int .i64 b), .p 1 0] 3 [(1, .box 48 [.r 2]), (2, .row 4 1 (o.map eB))] (.tup []) 3 [(1, .box 48 [.r 2]), (2, .row 4 1 ((o.set b.toNat true).map eB))] := by
  refine spec_of D (fn := Try.f133) rfl rfl (Nat.le_of_ble_eq_true rfl) ?_
  refine W_seqK (b' := 67) rfl rfl ?_
  refine k_op0 (d := 3) (b := 3) (j' := 1) rfl rfl rfl rfl (.plain rfl) (T_load_b D rfl rfl rfl rfl rfl rfl) rfl ?_
  refine k_op0 (d := 4) (b := 19) (j' := 2) rfl rfl rfl rfl (.plain rfl) (T_move rfl rfl) rfl ?_
  first | refine k_op0 (d := 5) (b := 35) (j' := 3) rfl rfl rfl rfl (.plain rfl) (T_indexAddr D rfl rfl rfl rfl rfl rfl rfl rfl (by first | assumption | omega | (simp; omega))) rfl ?_ | refine k_op0 (d := 5) (b := 35) (j' := 3) rfl rfl rfl rfl (.plain rfl) (T_indexAddrZ D rfl rfl rfl rfl rfl rfl rfl rfl (by first | assumption | omega | (simp; omega)) (by first | assumption | omega | (simp; omega))) rfl ?_
  refine k_st1 (b := 51) (j' := 4) rfl rfl rfl rfl (.plain rfl) (T_store_e D (z := _) rfl rfl rfl rfl (flat_v rfl) rfl rfl (by first | assumption | omega | (simp; omega)) (.v rfl (.nil)) rfl (Nat.le_of_ble_eq_true rfl) rfl) rfl ?_
  refine k_done rfl ?_
  -- end 0
  exact .mk [] (.inl rfl) (.nil) rfl (.box (by first | rfl | simp) (.rowE rfl (.nil) (by first | rfl | simp))) rfl

theorem body136 : (Try.prog.funcs[136]?).map (fun fn => (fn.name == "runtime.NumGoroutine" || fn.body.isNone)) = some false := by kernel_rfl
theorem visit_spec (next : List (List Int)) (bar : Int) (hn : next.length ≤ 1000000) (hnl : ∀ l ∈ next, l.length ≤ 1000000) : ∀ (m : Nat) (b : Int) (s o s2 o2 : List Bool), visit next bar m b (s, o) = some (s2, o2) → s.length = next.length → o.length = next.length →  Spec Try.prog 136 [.v (.int .i64 b), .p 1 0, .p 2 0, .p 3 0, .p 4 0, .p 5 0] 10 [(1, .box 30 [.r 6]), (2, .box 48 [.r 7]), (3, .box 3 [.v (.int .i64 bar)]), (4, .box 108 [.fn 136 [.p 1 0, .p 2 0, .p 3 0, .p 4 0, .p 5 0]]), (5, .box 108 [.fn 133 [.p 8 0]]), (6, .fz 1 (next.map eIs)), (7, .row 4 1 (s.map eB)), (8, .box 48 [.r 9]), (9, .row 4 1 (o.map eB))] (.tup []) 10 [(1, .box 30 [.r 6]), (2, .box 48 [.r 7]), (3, .box 3 [.v (.int .i64 bar)]), (4, .box 108 [.fn 136 [.p 1 0, .p 2 0, .p 3 0, .p 4 0, .p 5 0]]), (5, .box 108 [.fn 133 [.p 8 0]]), (7, .row 4 1 (s2.map eB)), (8, .box 48 [.r 9]), (9, .row 4 1 (o2.map eB))] := by
  intro m
  induction m with
  | zero => intro b s o s2 o2 hv; cases hv
  | succ m ih =>
    intro b s o s2 o2 hv hs ho
    refine spec_of D (fn := Try.f136) rfl rfl (Nat.le_of_ble_eq_true rfl) ?_
    refine W_seq ?_
    refine W_seq ?_
    refine W_seqK (b' := 314) rfl rfl ?_
    refine k_op0 (d := 9) (b := 10) (j' := 1) rfl rfl rfl rfl (.plain rfl) (T_move rfl rfl) rfl ?_
    refine k_op0 (d := 10) (b := 26) (j' := 2) rfl rfl rfl rfl (.plain rfl) (T_cmp rfl rfl rfl rfl) rfl ?_
    refine k_op0 (d := 11) (b := 42) (j' := 3) rfl rfl rfl rfl (.plain rfl) (T_move rfl rfl) rfl ?_
    refine k_split (d := 11) rfl (fun g1 => ?_) (fun g1 => ?_)
    · have h1 := g1; (try simp only [cmpB, decide_eq_true_eq, decide_eq_false_iff_not, beq_iff_eq, beq_eq_false_iff_ne, bne_iff_ne, ne_eq, bne_eq_false_iff_eq, Bool.not_eq_true', Bool.not_eq_false', Int.not_lt, Int.not_le] at h1)
      refine k_no (d := 12) (j' := 4) rfl rfl rfl (g_ft rfl rfl rfl g1) ?_
      refine k_no (d := 13) (j' := 5) rfl rfl rfl (g_ft rfl rfl rfl g1) ?_
      refine k_no (d := 14) (j' := 6) rfl rfl rfl (g_ft rfl rfl rfl g1) ?_
      refine k_no (d := 15) (j' := 7) rfl rfl rfl (g_ft rfl rfl rfl g1) ?_
      refine k_op0 (d := 16) (b := 122) (j' := 8) rfl rfl rfl rfl (.plain rfl) (T_pick_t rfl rfl rfl g1) rfl ?_
      refine k_op0 (d := 17) (b := 138) (j' := 9) rfl rfl rfl rfl (.plain rfl) (T_move rfl rfl) rfl ?_
      refine k_no (d := 18) (j' := 10) rfl rfl rfl (g_ft rfl rfl rfl rfl) ?_
      refine k_no (d := 19) (j' := 11) rfl rfl rfl (g_ft rfl rfl rfl rfl) ?_
      refine k_no (d := 20) (j' := 12) rfl rfl rfl (g_ft rfl rfl rfl rfl) ?_
      refine k_no (d := 21) (j' := 13) rfl rfl rfl (g_ft rfl rfl rfl rfl) ?_
      refine k_op0 (d := 22) (b := 218) (j' := 14) rfl rfl rfl rfl (.plain rfl) (T_pick_t rfl rfl rfl rfl) rfl ?_
      refine k_op0 (d := 23) (b := 234) (j' := 15) rfl rfl rfl rfl (.plain rfl) (T_move rfl rfl) rfl ?_
      refine k_no (d := 24) (j' := 16) rfl rfl rfl (g_ft rfl rfl rfl rfl) ?_
      refine k_no (d := 25) (j' := 17) rfl rfl rfl (g_ft rfl rfl rfl rfl) ?_
      refine k_no (d := 26) (j' := 18) rfl rfl rfl (g_ft rfl rfl rfl rfl) ?_
      refine k_op0 (d := 27) (b := 298) (j' := 19) rfl rfl rfl rfl (.plain rfl) (T_pick_t rfl rfl rfl rfl) rfl ?_
      refine k_done rfl ?_
      refine thenK_n ?_
      refine W_cond rfl (fun g2 => ?_) (fun g2 => ?_)
      · skip
        refine W_ret ?_
        refine thenK_r ?_
        -- end 0
        exact .mk [] (.inr rfl) (.nil) rfl (.box (by first | rfl | (rw [visit, if_pos (by simp_all)] at hv; cases hv; rfl)) (.box (by first | rfl | (rw [visit, if_pos (by simp_all)] at hv; cases hv; rfl)) (.box (by first | rfl | (rw [visit, if_pos (by simp_all)] at hv; cases hv; rfl)) (.box (by first | rfl | (rw [visit, if_pos (by simp_all)] at hv; cases hv; rfl)) (.box (by first | rfl | (rw [visit, if_pos (by simp_all)] at hv; cases hv; rfl)) (.rowE rfl (.box (by first | rfl | (rw [visit, if_pos (by simp_all)] at hv; cases hv; rfl)) (.rowE rfl (.nil) (by first | rfl | (rw [visit, if_pos (by simp_all)] at hv; cases hv; rfl)))) (by first | rfl | (rw [visit, if_pos (by simp_all)] at hv; cases hv; rfl)))))))) rfl
      · exact absurd (g2.symm.trans rfl) (by decide)
    · have h1 := g1; (try simp only [cmpB, decide_eq_true_eq, decide_eq_false_iff_not, beq_iff_eq, beq_eq_false_iff_ne, bne_iff_ne, ne_eq, bne_eq_false_iff_eq, Bool.not_eq_true', Bool.not_eq_false', Int.not_lt, Int.not_le] at h1)
      refine k_op0 (d := 12) (b := 58) (j' := 4) rfl rfl rfl rfl (g_ff rfl rfl rfl g1) (T_move rfl rfl) rfl ?_
      refine k_op0 (d := 13) (b := 74) (j' := 5) rfl rfl rfl rfl (g_ff rfl rfl rfl g1) (T_load_b D rfl rfl rfl rfl rfl rfl) rfl ?_
      refine k_op0 (d := 14) (b := 90) (j' := 6) rfl rfl rfl rfl (g_ff rfl rfl rfl g1) (T_len D rfl rfl rfl rfl rfl rfl) rfl ?_
      refine k_op0 (d := 15) (b := 106) (j' := 7) rfl rfl rfl rfl (g_ff rfl rfl rfl g1) (T_cmp rfl rfl rfl rfl) rfl ?_
      refine k_op0 (d := 16) (b := 122) (j' := 8) rfl rfl rfl rfl (.plain rfl) (T_pick_f rfl rfl rfl g1) rfl ?_
      refine k_op0 (d := 17) (b := 138) (j' := 9) rfl rfl rfl rfl (.plain rfl) (T_move rfl rfl) rfl ?_
      refine k_split (d := 17) rfl (fun g3 => ?_) (fun g3 => ?_)
      · have h3 := g3; (try simp only [cmpB, decide_eq_true_eq, decide_eq_false_iff_not, beq_iff_eq, beq_eq_false_iff_ne, bne_iff_ne, ne_eq, bne_eq_false_iff_eq, Bool.not_eq_true', Bool.not_eq_false', Int.not_lt, Int.not_le] at h3)
        refine k_no (d := 18) (j' := 10) rfl rfl rfl (g_ft rfl rfl rfl g3) ?_
        refine k_no (d := 19) (j' := 11) rfl rfl rfl (g_ft rfl rfl rfl g3) ?_
        refine k_no (d := 20) (j' := 12) rfl rfl rfl (g_ft rfl rfl rfl g3) ?_
        refine k_no (d := 21) (j' := 13) rfl rfl rfl (g_ft rfl rfl rfl g3) ?_
        refine k_op0 (d := 22) (b := 218) (j' := 14) rfl rfl rfl rfl (.plain rfl) (T_pick_t rfl rfl rfl g3) rfl ?_
        refine k_op0 (d := 23) (b := 234) (j' := 15) rfl rfl rfl rfl (.plain rfl) (T_move rfl rfl) rfl ?_
        refine k_no (d := 24) (j' := 16) rfl rfl rfl (g_ft rfl rfl rfl rfl) ?_
        refine k_no (d := 25) (j' := 17) rfl rfl rfl (g_ft rfl rfl rfl rfl) ?_
        refine k_no (d := 26) (j' := 18) rfl rfl rfl (g_ft rfl rfl rfl rfl) ?_
        refine k_op0 (d := 27) (b := 298) (j' := 19) rfl rfl rfl rfl (.plain rfl) (T_pick_t rfl rfl rfl rfl) rfl ?_
        refine k_done rfl ?_
        refine thenK_n ?_
        refine W_cond rfl (fun g4 => ?_) (fun g4 => ?_)
        · skip
          refine W_ret ?_
          refine thenK_r ?_
          -- end 1
          exact .mk [] (.inr rfl) (.nil) rfl (.box (by first | rfl | (rw [visit, if_pos (by simp_all)] at hv; cases hv; rfl)) (.box (by first | rfl | (rw [visit, if_pos (by simp_all)] at hv; cases hv; rfl)) (.box (by first | rfl | (rw [visit, if_pos (by simp_all)] at hv; cases hv; rfl)) (.box (by first | rfl | (rw [visit, if_pos (by simp_all)] at hv; cases hv; rfl)) (.box (by first | rfl | (rw [visit, if_pos (by simp_all)] at hv; cases hv; rfl)) (.rowE rfl (.box (by first | rfl | (rw [visit, if_pos (by simp_all)] at hv; cases hv; rfl)) (.rowE rfl (.nil) (by first | rfl | (rw [visit, if_pos (by simp_all)] at hv; cases hv; rfl)))) (by first | rfl | (rw [visit, if_pos (by simp_all)] at hv; cases hv; rfl)))))))) rfl
        · exact absurd (g4.symm.trans rfl) (by decide)
      · have h3 := g3; (try simp only [cmpB, decide_eq_true_eq, decide_eq_false_iff_not, beq_iff_eq, beq_eq_false_iff_ne, bne_iff_ne, ne_eq, bne_eq_false_iff_eq, Bool.not_eq_true', Bool.not_eq_false', Int.not_lt, Int.not_le] at h3)
        refine k_op0 (d := 18) (b := 154) (j' := 10) rfl rfl rfl rfl (g_ff rfl rfl rfl g3) (T_load_b D rfl rfl rfl rfl rfl rfl) rfl ?_
        refine k_op0 (d := 19) (b := 170) (j' := 11) rfl rfl rfl rfl (g_ff rfl rfl rfl g3) (T_move rfl rfl) rfl ?_
        first | refine k_op0 (d := 20) (b := 186) (j' := 12) rfl rfl rfl rfl (g_ff rfl rfl rfl g3) (T_indexAddr D rfl rfl rfl rfl rfl rfl rfl rfl (by first | assumption | omega | (simp; omega))) rfl ?_ | refine k_op0 (d := 20) (b := 186) (j' := 12) rfl rfl rfl rfl (g_ff rfl rfl rfl g3) (T_indexAddrZ D rfl rfl rfl rfl rfl rfl rfl rfl (by first | assumption | omega | (simp; omega)) (by first | assumption | omega | (simp; omega))) rfl ?_
        refine k_op0 (d := 21) (b := 202) (j' := 13) rfl rfl rfl rfl (g_ff rfl rfl rfl g3) (T_ldE D (lv := .v _) (nn := 0) (upd := []) rfl rfl rfl rfl rfl (by first | assumption | omega | (simp; omega)) rfl rfl rfl rfl) rfl ?_
        refine k_op0 (d := 22) (b := 218) (j' := 14) rfl rfl rfl rfl (.plain rfl) (T_pick_f rfl rfl rfl g3) rfl ?_
        refine k_op0 (d := 23) (b := 234) (j' := 15) rfl rfl rfl rfl (.plain rfl) (T_move rfl rfl) rfl ?_
        refine k_split (d := 23) rfl (fun g5 => ?_) (fun g5 => ?_)
        · have h5 := g5; (try simp only [cmpB, decide_eq_true_eq, decide_eq_false_iff_not, beq_iff_eq, beq_eq_false_iff_ne, bne_iff_ne, ne_eq, bne_eq_false_iff_eq, Bool.not_eq_true', Bool.not_eq_false', Int.not_lt, Int.not_le] at h5)
          refine k_no (d := 24) (j' := 16) rfl rfl rfl (g_ft rfl rfl rfl g5) ?_
          refine k_no (d := 25) (j' := 17) rfl rfl rfl (g_ft rfl rfl rfl g5) ?_
          refine k_no (d := 26) (j' := 18) rfl rfl rfl (g_ft rfl rfl rfl g5) ?_
          refine k_op0 (d := 27) (b := 298) (j' := 19) rfl rfl rfl rfl (.plain rfl) (T_pick_t rfl rfl rfl g5) rfl ?_
          refine k_done rfl ?_
          refine thenK_n ?_
          refine W_cond rfl (fun g6 => ?_) (fun g6 => ?_)
          · skip
            refine W_ret ?_
            refine thenK_r ?_
            -- end 2
            exact .mk [] (.inr rfl) (.nil) rfl (.box (by first | rfl | (rw [visit, if_pos (by simp_all)] at hv; cases hv; rfl)) (.box (by first | rfl | (rw [visit, if_pos (by simp_all)] at hv; cases hv; rfl)) (.box (by first | rfl | (rw [visit, if_pos (by simp_all)] at hv; cases hv; rfl)) (.box (by first | rfl | (rw [visit, if_pos (by simp_all)] at hv; cases hv; rfl)) (.box (by first | rfl | (rw [visit, if_pos (by simp_all)] at hv; cases hv; rfl)) (.rowE rfl (.box (by first | rfl | (rw [visit, if_pos (by simp_all)] at hv; cases hv; rfl)) (.rowE rfl (.nil) (by first | rfl | (rw [visit, if_pos (by simp_all)] at hv; cases hv; rfl)))) (by first | rfl | (rw [visit, if_pos (by simp_all)] at hv; cases hv; rfl)))))))) rfl
          · exact absurd (g6.symm.trans rfl) (by decide)
        · have h5 := g5; (try simp only [cmpB, decide_eq_true_eq, decide_eq_false_iff_not, beq_iff_eq, beq_eq_false_iff_ne, bne_iff_ne, ne_eq, bne_eq_false_iff_eq, Bool.not_eq_true', Bool.not_eq_false', Int.not_lt, Int.not_le] at h5)
          refine k_op0 (d := 24) (b := 250) (j' := 16) rfl rfl rfl rfl (g_ff rfl rfl rfl g5) (T_move rfl rfl) rfl ?_
          refine k_op0 (d := 25) (b := 266) (j' := 17) rfl rfl rfl rfl (g_ff rfl rfl rfl g5) (T_load_b D rfl rfl rfl rfl rfl rfl) rfl ?_
          refine k_op0 (d := 26) (b := 282) (j' := 18) rfl rfl rfl rfl (g_ff rfl rfl rfl g5) (T_cmp rfl rfl rfl rfl) rfl ?_
          refine k_op0 (d := 27) (b := 298) (j' := 19) rfl rfl rfl rfl (.plain rfl) (T_pick_f rfl rfl rfl g5) rfl ?_
          refine k_done rfl ?_
          refine thenK_n ?_
          refine W_cond rfl (fun g7 => ?_) (fun g7 => ?_)
          · have h7 := g7; (try simp only [cmpB, decide_eq_true_eq, decide_eq_false_iff_not, beq_iff_eq, beq_eq_false_iff_ne, bne_iff_ne, ne_eq, bne_eq_false_iff_eq, Bool.not_eq_true', Bool.not_eq_false', Int.not_lt, Int.not_le] at h7)
            refine W_ret ?_
            refine thenK_r ?_
            -- end 3
            exact .mk [] (.inr rfl) (.nil) rfl (.box (by first | rfl | (rw [visit, if_pos (by simp_all)] at hv; cases hv; rfl)) (.box (by first | rfl | (rw [visit, if_pos (by simp_all)] at hv; cases hv; rfl)) (.box (by first | rfl | (rw [visit, if_pos (by simp_all)] at hv; cases hv; rfl)) (.box (by first | rfl | (rw [visit, if_pos (by simp_all)] at hv; cases hv; rfl)) (.box (by first | rfl | (rw [visit, if_pos (by simp_all)] at hv; cases hv; rfl)) (.rowE rfl (.box (by first | rfl | (rw [visit, if_pos (by simp_all)] at hv; cases hv; rfl)) (.rowE rfl (.nil) (by first | rfl | (rw [visit, if_pos (by simp_all)] at hv; cases hv; rfl)))) (by first | rfl | (rw [visit, if_pos (by simp_all)] at hv; cases hv; rfl)))))))) rfl
          · have h7 := g7; (try simp only [cmpB, decide_eq_true_eq, decide_eq_false_iff_not, beq_iff_eq, beq_eq_false_iff_ne, bne_iff_ne, ne_eq, bne_eq_false_iff_eq, Bool.not_eq_true', Bool.not_eq_false', Int.not_lt, Int.not_le] at h7)
            refine W_skip ?_
            refine thenK_n ?_
            refine W_seq ?_
            refine W_seqK (b' := 378) rfl rfl ?_
            refine k_op0 (d := 28) (b := 314) (j' := 1) rfl rfl rfl rfl (.plain rfl) (T_load_b D rfl rfl rfl rfl rfl rfl) rfl ?_
            refine k_op0 (d := 29) (b := 330) (j' := 2) rfl rfl rfl rfl (.plain rfl) (T_move rfl rfl) rfl ?_
            first | refine k_op0 (d := 30) (b := 346) (j' := 3) rfl rfl rfl rfl (.plain rfl) (T_indexAddr D rfl rfl rfl rfl rfl rfl rfl rfl (by first | assumption | omega | (simp; omega))) rfl ?_ | refine k_op0 (d := 30) (b := 346) (j' := 3) rfl rfl rfl rfl (.plain rfl) (T_indexAddrZ D rfl rfl rfl rfl rfl rfl rfl rfl (by first | assumption | omega | (simp; omega)) (by first | assumption | omega | (simp; omega))) rfl ?_
            refine k_st1 (b := 362) (j' := 4) rfl rfl rfl rfl (.plain rfl) (T_store_e D (z := _) rfl rfl rfl rfl (flat_v rfl) rfl rfl (by first | assumption | omega | (simp; omega)) (.v rfl (.nil)) rfl (Nat.le_of_ble_eq_true rfl) rfl) rfl ?_
            refine k_done rfl ?_
            refine thenK_n ?_
            refine W_seq ?_
            refine W_seq ?_
            refine W_seqK (b' := 474) rfl rfl ?_
            refine k_op0 (d := 31) (b := 378) (j' := 1) rfl rfl rfl rfl (.plain rfl) (T_load_b D rfl rfl rfl rfl rfl rfl) rfl ?_
            refine k_op0 (d := 32) (b := 394) (j' := 2) rfl rfl rfl rfl (.plain rfl) (T_move rfl rfl) rfl ?_
            first | refine k_op0 (d := 33) (b := 410) (j' := 3) rfl rfl rfl rfl (.plain rfl) (T_indexAddr D rfl rfl rfl rfl rfl rfl rfl rfl (by first | assumption | omega | (simp; omega))) rfl ?_ | refine k_op0 (d := 33) (b := 410) (j' := 3) rfl rfl rfl rfl (.plain rfl) (T_indexAddrZ D rfl rfl rfl rfl rfl rfl rfl rfl (by first | assumption | omega | (simp; omega)) (by first | assumption | omega | (simp; omega))) rfl ?_
            refine k_op1 (d := 34) (b := 426) (j' := 4) rfl rfl rfl rfl (.plain rfl) (T_ldE D (lv := .r 426) (nn := 1) (upd := [(426, .fz 1 _)]) rfl rfl rfl rfl rfl (by first | assumption | omega | (simp; omega)) rfl rfl rfl rfl) rfl ?_
            refine k_op0 (d := 35) (b := 442) (j' := 5) rfl rfl rfl rfl (.plain rfl) (T_len D rfl rfl rfl rfl rfl rfl) rfl ?_
            refine k_op0 (d := 36) (b := 458) (j' := 6) rfl rfl rfl rfl (.plain rfl) (T_move rfl rfl) rfl ?_
            refine k_done rfl ?_
            refine thenK_n ?_
            refine W_block ?_
            have hcond : ¬ (b < 0 ∨ b ≥ (next.length : Int) ∨ s.getD b.toNat default = true ∨ b = bar) := by rintro (k | k | k | k) <;> simp_all <;> omega
            have hw : ((next.getD b.toNat default).foldlM (fun st n => visit next bar m n st) (s.set b.toNat true, o)).map (fun st => (st.1, st.2.set b.toNat true)) = some (s2, o2) := by rw [visit, if_neg hcond] at hv; exact hv
            obtain ⟨r, hr, hre⟩ := Option.map_eq_some_iff.1 hw
            have hnb := hnl (next.getD b.toNat default) (getD_mem (by omega))
            refine W_loop (ι := Nat × List Bool × List Bool) 11 (fun x => ⟨[(0, .v (.int .i64 b)), (4, .p 4 0), (5, .p 5 0), (34, .r 10), (35, .v (.int .i64 ((next.getD b.toNat default).length : Int))), (36, .v (.int .i64 (x.1 : Int)))], [(1, .box 30 [.r 6]), (2, .box 48 [.r 7]), (3, .box 3 [.v (.int .i64 bar)]), (4, .box 108 [.fn 136 [.p 1 0, .p 2 0, .p 3 0, .p 4 0, .p 5 0]]), (5, .box 108 [.fn 133 [.p 8 0]]), (6, .fz 1 (next.map eIs)), (7, .row 4 1 (x.2.1.map eB)), (8, .box 48 [.r 9]), (9, .row 4 1 (x.2.2.map eB)), (10, .fz 1 ((next.getD b.toNat default).map eI))]⟩) (fun x => x.1 ≤ (next.getD b.toNat default).length ∧ ((next.getD b.toNat default).take x.1).foldlM (fun st n => visit next bar m n st) (s.set b.toNat true, o) = some x.2 ∧ x.2.1.length = next.length ∧ x.2.2.length = next.length) (fun x => (next.getD b.toNat default).length - x.1) ((0, s.set b.toNat true, o)) (by exact ⟨Nat.zero_le _, by simp, by simpa using hs, ho⟩) ?_ (fun x hJ => ?_)
            · exact ⟨[(10, 426)], .eq rfl (.same rfl rfl (.same rfl rfl (.same rfl rfl (.eq rfl (.eq rfl (.nil) (by first | rfl | simp)) (by first | rfl | simp))))) (by first | rfl | simp), .box (by first | rfl | simp) (.box (by first | rfl | simp) (.box (by first | rfl | simp) (.box (by first | rfl | simp) (.box (by first | rfl | simp) (.fzE rfl (.rowE rfl (.box (by first | rfl | simp) (.rowE rfl (.fzE rfl (.nil) (by first | rfl | simp)) (by first | rfl | simp))) (by first | rfl | simp)) (by first | rfl | simp)))))), rfl⟩
            have hx := fun h => vstep hr (j := x.1) h hJ.2.1
            refine W_seq ?_
            refine W_seqK (b' := 27) rfl rfl ?_
            refine k_op0 (d := 37) (b := 11) (j' := 1) rfl rfl rfl rfl (.plain rfl) (T_cmp rfl rfl rfl rfl) rfl ?_
            refine k_done rfl ?_
            refine thenK_n ?_
            refine W_seq ?_
            refine W_cond rfl (fun g8 => ?_) (fun g8 => ?_)
            · have h8 := g8; (try simp only [cmpB, decide_eq_true_eq, decide_eq_false_iff_not, beq_iff_eq, beq_eq_false_iff_ne, bne_iff_ne, ne_eq, bne_eq_false_iff_eq, Bool.not_eq_true', Bool.not_eq_false', Int.not_lt, Int.not_le] at h8)
              refine W_skip ?_
              refine thenK_n ?_
              refine W_seq ?_
              refine W_block ?_
              refine W_seq ?_
              refine W_seqK (b' := 75) rfl rfl ?_
              first | refine k_op0 (d := 38) (b := 27) (j' := 1) rfl rfl rfl rfl (.plain rfl) (T_indexAddr D rfl rfl rfl rfl rfl rfl rfl rfl (by first | assumption | omega | (simp; omega))) rfl ?_ | refine k_op0 (d := 38) (b := 27) (j' := 1) rfl rfl rfl rfl (.plain rfl) (T_indexAddrZ D rfl rfl rfl rfl rfl rfl rfl rfl (by first | assumption | omega | (simp; omega)) (by first | assumption | omega | (simp; omega))) rfl ?_
              refine k_op0 (d := 39) (b := 43) (j' := 2) rfl rfl rfl rfl (.plain rfl) (T_ldE D (lv := .v _) (nn := 0) (upd := []) rfl rfl rfl rfl rfl (by first | assumption | omega | (simp; omega)) rfl rfl rfl rfl) rfl ?_
              refine k_op0 (d := 8) (b := 59) (j' := 3) rfl rfl rfl rfl (.plain rfl) (T_assign rfl rfl) rfl ?_
              refine k_done rfl ?_
              refine thenK_n ?_
              refine W_seqK (b' := 123) rfl rfl ?_
              refine k_op0 (d := 40) (b := 75) (j' := 1) rfl rfl rfl rfl (.plain rfl) (T_load_b D rfl rfl rfl rfl rfl rfl) rfl ?_
              refine k_op0 (d := 41) (b := 91) (j' := 2) rfl rfl rfl rfl (.plain rfl) (T_move rfl rfl) rfl ?_
              refine k_opn (d := 42) (b := 107) (j' := 3) rfl rfl rfl rfl (.plain rfl) (T_call (lvs := [_]) (L := [(1, 1), (2, 2), (3, 3), (4, 4), (5, 5), (6, 6), (7, 7), (8, 8), (9, 9)]) (lv := .tup []) (upd := [(1, .box 30 [.r 6]), (2, .box 48 [.r 7]), (3, .box 3 [.v _]), (4, .box 108 [.fn 136 [.p 1 0, .p 2 0, .p 3 0, .p 4 0, .p 5 0]]), (5, .box 108 [.fn 133 [.p 8 0]]), (7, .row 4 1 _), (8, .box 48 [.r 9]), (9, .row 4 1 _)]) (nn := 0) false (ih _ _ _ _ _ (hx (by omega)).1 hJ.2.2.1 hJ.2.2.2) body136 rfl rfl rfl rfl (.box rfl (.box rfl (.box rfl (.box rfl (.box rfl (.fz rfl (.row rfl (.box rfl (.row rfl (.nil)))))))))) rfl (.inl rfl) rfl rfl rfl) rfl ?_
              refine k_done rfl ?_
              refine blockK_n ?_
              refine thenK_n ?_
              refine W_seqK (b' := 155) rfl rfl ?_
              refine k_op0 (d := 43) (b := 123) (j' := 1) rfl rfl rfl rfl (.plain rfl) (T_add64 rfl rfl rfl (by first | assumption | omega | (simp; omega))) rfl ?_
              refine k_op0 (d := 36) (b := 139) (j' := 2) rfl rfl rfl rfl (.plain rfl) (T_move rfl rfl) rfl ?_
              refine k_done rfl ?_
              refine thenK_n ?_
              refine ⟨(x.1 + 1, vnext next bar m ((next.getD b.toNat default).getD x.1 default) x.2), by (try dsimp only); exact ⟨by (try dsimp only); omega, (hx (by omega)).2, (visit_len next bar next.length m _ _ _ (hx (by omega)).1 hJ.2.2.1 hJ.2.2.2)⟩, by (try dsimp only); omega, ?_⟩
              exact ⟨[(10, 10)], .eq rfl (.same rfl rfl (.same rfl rfl (.same rfl rfl (.eq rfl (.eq rfl (.nil) (by first | rfl | simp)) (by first | rfl | simp))))) (by first | rfl | simp), .box (by first | rfl | simp) (.box (by first | rfl | simp) (.box (by first | rfl | simp) (.box (by first | rfl | simp) (.box (by first | rfl | simp) (.fzE rfl (.rowE rfl (.box (by first | rfl | simp) (.rowE rfl (.fzE rfl (.nil) (by first | rfl | simp)) (by first | rfl | simp))) (by first | rfl | simp)) (by first | rfl | simp)))))), rfl⟩
            · have h8 := g8; (try simp only [cmpB, decide_eq_true_eq, decide_eq_false_iff_not, beq_iff_eq, beq_eq_false_iff_ne, bne_iff_ne, ne_eq, bne_eq_false_iff_eq, Bool.not_eq_true', Bool.not_eq_false', Int.not_lt, Int.not_le] at h8)
              refine W_exit ?_
              refine thenK_e ?_
              refine thenK_e ?_
              refine blockK_hit ?_
              refine thenK_n ?_
              refine W_seqK (b' := 75) rfl rfl ?_
              refine k_op0 (d := 44) (b := 27) (j' := 1) rfl rfl rfl rfl (.plain rfl) (T_load_b D rfl rfl rfl rfl rfl rfl) rfl ?_
              refine k_op0 (d := 45) (b := 43) (j' := 2) rfl rfl rfl rfl (.plain rfl) (T_move rfl rfl) rfl ?_
              refine k_opn (d := 46) (b := 59) (j' := 3) rfl rfl rfl rfl (.plain rfl) (T_call (lvs := [_]) (L := [(1, 8), (2, 9)]) (lv := .tup []) (upd := [(8, .box 48 [.r 9]), (9, .row 4 1 _)]) (nn := 0) false (reach1_spec _ _ (by omega) (by omega)) body133 rfl rfl rfl rfl (.box rfl (.row rfl (.nil))) rfl (.inl rfl) rfl rfl rfl) rfl ?_
              refine k_done rfl ?_
              -- end 4
              have e1 : x.1 = (next.getD b.toNat default).length := by omega
              have e2 : r = x.2 := by have h := hJ.2.1; rw [e1, List.take_of_length_le (Nat.le_refl _), hr] at h; exact Option.some.inj h
              obtain ⟨rfl, rfl⟩ := Prod.mk.inj hre
              subst e2
              exact .mk [] (.inl rfl) (.nil) rfl (.box (by first | rfl | (rw [visit, if_pos (by simp_all)] at hv; cases hv; rfl)) (.box (by first | rfl | (rw [visit, if_pos (by simp_all)] at hv; cases hv; rfl)) (.box (by first | rfl | (rw [visit, if_pos (by simp_all)] at hv; cases hv; rfl)) (.box (by first | rfl | (rw [visit, if_pos (by simp_all)] at hv; cases hv; rfl)) (.box (by first | rfl | (rw [visit, if_pos (by simp_all)] at hv; cases hv; rfl)) (.rowE rfl (.box (by first | rfl | (rw [visit, if_pos (by simp_all)] at hv; cases hv; rfl)) (.rowE rfl (.nil) (by first | rfl | (rw [visit, if_pos (by simp_all)] at hv; cases hv; rfl)))) (by first | rfl | (rw [visit, if_pos (by simp_all)] at hv; cases hv; rfl)))))))) rfl
end Lg
end Go.Proofs.Ytpfhmodjjljpjaa
