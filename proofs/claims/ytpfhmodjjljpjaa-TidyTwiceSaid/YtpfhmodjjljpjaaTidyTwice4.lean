import Derived.Test.YtpfhmodjjljpjaaTidyTwice3
set_option linter.unusedVariables false
set_option linter.unusedSimpArgs false
namespace Go.Proofs.Ytpfhmodjjljpjaa
open Go.RowKit
namespace Lg
set_option maxRecDepth 100000
set_option linter.unusedVariables false
set_option linter.unusedSimpArgs false



theorem body133 : (Try.prog.funcs[133]?).map (fun fn => (fn.name == "runtime.NumGoroutine" || fn.body.isNone)) = some false := by kernel_rfl
theorem reach1_spec (o : List Bool) (b : Int) (h0 : 0 ≤ b) (hb : b < (o.length : Int)) : Spec Try.prog 133 [.v (.int .i64 b), .p 1 0] 3 [(1, .box 48 [.r 2]), (2, .row 4 1 (o.map eB))] (.tup []) 3 [(1, .box 48 [.r 2]), (2, .row 4 1 ((o.set b.toNat true).map eB))] := by
  refine spec_of D (fn := Try.f133) rfl rfl (Nat.le_of_ble_eq_true rfl) ?_
  refine W_seqK (b' := 67) rfl rfl ?_
  refine k_op0 (d := 3) (b := 3) (j' := 1) rfl rfl rfl rfl (.plain rfl) (T_load_b D rfl rfl rfl rfl rfl rfl) rfl ?_
  refine k_op0 (d := 4) (b := 19) (j' := 2) rfl rfl rfl rfl (.plain rfl) (T_move rfl rfl) rfl ?_
  first | refine k_op0 (d := 5) (b := 35) (j' := 3) rfl rfl rfl rfl (.plain rfl) (T_indexAddr D rfl rfl rfl rfl rfl rfl rfl rfl (by first | assumption | omega | (simp; omega))) rfl ?_ | refine k_op0 (d := 5) (b := 35) (j' := 3) rfl rfl rfl rfl (.plain rfl) (T_indexAddrZ D rfl rfl rfl rfl rfl rfl rfl rfl (by first | assumption | omega | (simp; omega)) (by first | assumption | omega | (simp; omega))) rfl ?_
  refine k_st1 (b := 51) (j' := 4) rfl rfl rfl rfl (.plain rfl) (T_store_e D (z := _) rfl rfl rfl rfl (flat_v rfl) rfl rfl (by first | assumption | omega | (simp; omega)) (.v rfl (.nil)) rfl (Nat.le_of_ble_eq_true rfl) rfl) rfl ?_
  refine k_done rfl ?_
  -- end 0
  exact .mk [] (.inl rfl) (.nil) rfl (.box (by first | rfl | simp) (.rowE rfl (.nil) (by first | rfl | simp))) rfl

theorem body136 : (Try.prog.funcs[136]?).map (fun fn => (fn.name == "runtime.NumGoroutine" || fn.body.isNone)) = some false := by kernel_rfl
theorem visit_spec (next : List (List Int)) (bar : Int) (hn : next.length ≤ 1000000) (hnl : ∀ l ∈ next, l.length ≤ 1000000) : ∀ (m : Nat) (b : Int) (s o s2 o2 : List Bool), visit next bar m b (s, o) = some (s2, o2) → s.length = next.length → o.length = next.length →  Spec Try.prog 136 [.v (.int .i64 b), .p 1 0, .p 2 0, .p 3 0, .p 4 0, .p 5 0] 10 [(1, .box 30 [.r 6]), (2, .box 48 [.r 7]), (3, .box 3 [.v (.int .i64 bar)]), (4, .box 108 [.fn 136 [.p 1 0, .p 2 0, .p 3 0, .p 4 0, .p 5 0]]), (5, .box 108 [.fn 133 [.p 8 0]]), (6, .fz 1 (next.map eIs)), (7, .row 4 1 (s.map eB)), (8, .box 48 [.r 9]), (9, .row 4 1 (o.map eB))] (.tup []) 10 [(1, .box 30 [.r 6]), (2, .box 48 [.r 7]), (3, .box 3 [.v (.int .i64 bar)]), (4, .box 108 [.fn 136 [.p 1 0, .p 2 0, .p 3 0, .p 4 0, .p 5 0]]), (5, .box 108 [.fn 133 [.p 8 0]]), (7, .row 4 1 (s2.map eB)), (8, .box 48 [.r 9]), (9, .row 4 1 (o2.map eB))] := by
  intro m
  induction m with
  | zero => intro b s o s2 o2 hv; cases hv
  | succ m ih =>
    intro b s o s2 o2 hv hs ho
    refine spec_of D (fn := Try.f136) rfl rfl (Nat.le_of_ble_eq_true rfl) ?_
    refine W_seq ?_
    refine W_seq ?_
    refine W_seqK (b' := 314) rfl rfl ?_
    refine k_op0 (d := 9) (b := 10) (j' := 1) rfl rfl rfl rfl (.plain rfl) (T_move rfl rfl) rfl ?_
    refine k_op0 (d := 10) (b := 26) (j' := 2) rfl rfl rfl rfl (.plain rfl) (T_cmp rfl rfl rfl rfl) rfl ?_
    refine k_op0 (d := 11) (b := 42) (j' := 3) rfl rfl rfl rfl (.plain rfl) (T_move rfl rfl) rfl ?_
    refine k_split (d := 11) rfl (fun g1 => ?_) (fun g1 => ?_)
    · have h1 := g1; (try simp only [cmpB, decide_eq_true_eq, decide_eq_false_iff_not, beq_iff_eq, beq_eq_false_iff_ne, bne_iff_ne, ne_eq, bne_eq_false_iff_eq, Bool.not_eq_true', Bool.not_eq_false', Int.not_lt, Int.not_le] at h1)
      refine k_no (d := 12) (j' := 4) rfl rfl rfl (g_ft rfl rfl rfl g1) ?_
      refine k_no (d := 13) (j' := 5) rfl rfl rfl (g_ft rfl rfl rfl g1) ?_
      refine k_no (d := 14) (j' := 6) rfl rfl rfl (g_ft rfl rfl rfl g1) ?_
      refine k_no (d := 15) (j' := 7) rfl rfl rfl (g_ft rfl rfl rfl g1) ?_
      refine k_op0 (d := 16) (b := 122) (j' := 8) rfl rfl rfl rfl (.plain rfl) (T_pick_t rfl rfl rfl g1) rfl ?_
      refine k_op0 (d := 17) (b := 138) (j' := 9) rfl rfl rfl rfl (.plain rfl) (T_move rfl rfl) rfl ?_
      refine k_no (d := 18) (j' := 10) rfl rfl rfl (g_ft rfl rfl rfl rfl) ?_
      refine k_no (d := 19) (j' := 11) rfl rfl rfl (g_ft rfl rfl rfl rfl) ?_
      refine k_no (d := 20) (j' := 12) rfl rfl rfl (g_ft rfl rfl rfl rfl) ?_
      refine k_no (d := 21) (j' := 13) rfl rfl rfl (g_ft rfl rfl rfl rfl) ?_
      refine k_op0 (d := 22) (b := 218) (j' := 14) rfl rfl rfl rfl (.plain rfl) (T_pick_t rfl rfl rfl rfl) rfl ?_
      refine k_op0 (d := 23) (b := 234) (j' := 15) rfl rfl rfl rfl (.plain rfl) (T_move rfl rfl) rfl ?_
      refine k_no (d := 24) (j' := 16) rfl rfl rfl (g_ft rfl rfl rfl rfl) ?_
      refine k_no (d := 25) (j' := 17) rfl rfl rfl (g_ft rfl rfl rfl rfl) ?_
      refine k_no (d := 26) (j' := 18) rfl rfl rfl (g_ft rfl rfl rfl rfl) ?_
      refine k_op0 (d := 27) (b := 298) (j' := 19) rfl rfl rfl rfl (.plain rfl) (T_pick_t rfl rfl rfl rfl) rfl ?_
      refine k_done rfl ?_
      refine thenK_n ?_
      refine W_cond rfl (fun g2 => ?_) (fun g2 => ?_)
      · skip
        refine W_ret ?_
        refine thenK_r ?_
        -- end 0
        exact .mk [] (.inr rfl) (.nil) rfl (.box (by first | rfl | (rw [visit, if_pos (by simp_all)] at hv; cases hv; rfl)) (.box (by first | rfl | (rw [visit, if_pos (by simp_all)] at hv; cases hv; rfl)) (.box (by first | rfl | (rw [visit, if_pos (by simp_all)] at hv; cases hv; rfl)) (.box (by first | rfl | (rw [visit, if_pos (by simp_all)] at hv; cases hv; rfl)) (.box (by first | rfl | (rw [visit, if_pos (by simp_all)] at hv; cases hv; rfl)) (.rowE rfl (.box (by first | rfl | (rw [visit, if_pos (by simp_all)] at hv; cases hv; rfl)) (.rowE rfl (.nil) (by first | rfl | (rw [visit, if_pos (by simp_all)] at hv; cases hv; rfl)))) (by first | rfl | (rw [visit, if_pos (by simp_all)] at hv; cases hv; rfl)))))))) rfl
      · exact absurd (g2.symm.trans rfl) (by decide)
    · have h1 := g1; (try simp only [cmpB, decide_eq_true_eq, decide_eq_false_iff_not, beq_iff_eq, beq_eq_false_iff_ne, bne_iff_ne, ne_eq, bne_eq_false_iff_eq, Bool.not_eq_true', Bool.not_eq_false', Int.not_lt, Int.not_le] at h1)
      refine k_op0 (d := 12) (b := 58) (j' := 4) rfl rfl rfl rfl (g_ff rfl rfl rfl g1) (T_move rfl rfl) rfl ?_
      refine k_op0 (d := 13) (b := 74) (j' := 5) rfl rfl rfl rfl (g_ff rfl rfl rfl g1) (T_load_b D rfl rfl rfl rfl rfl rfl) rfl ?_
      refine k_op0 (d := 14) (b := 90) (j' := 6) rfl rfl rfl rfl (g_ff rfl rfl rfl g1) (T_len D rfl rfl rfl rfl rfl rfl) rfl ?_
      refine k_op0 (d := 15) (b := 106) (j' := 7) rfl rfl rfl rfl (g_ff rfl rfl rfl g1) (T_cmp rfl rfl rfl rfl) rfl ?_
      refine k_op0 (d := 16) (b := 122) (j' := 8) rfl rfl rfl rfl (.plain rfl) (T_pick_f rfl rfl rfl g1) rfl ?_
      refine k_op0 (d := 17) (b := 138) (j' := 9) rfl rfl rfl rfl (.plain rfl) (T_move rfl rfl) rfl ?_
      refine k_split (d := 17) rfl (fun g3 => ?_) (fun g3 => ?_)
      · have h3 := g3; (try simp only [cmpB, decide_eq_true_eq, decide_eq_false_iff_not, beq_iff_eq, beq_eq_false_iff_ne, bne_iff_ne, ne_eq, bne_eq_false_iff_eq, Bool.not_eq_true', Bool.not_eq_false', Int.not_lt, Int.not_le] at h3)
        refine k_no (d := 18) (j' := 10) rfl rfl rfl (g_ft rfl rfl rfl g3) ?_
        refine k_no (d := 19) (j' := 11) rfl rfl rfl (g_ft rfl rfl rfl g3) ?_
        refine k_no (d := 20) (j' := 12) rfl rfl rfl (g_ft rfl rfl rfl g3) ?_
        refine k_no (d := 21) (j' := 13) rfl rfl rfl (g_ft rfl rfl rfl g3) ?_
        refine k_op0 (d := 22) (b := 218) (j' := 14) rfl rfl rfl rfl (.plain rfl) (T_pick_t rfl rfl rfl g3) rfl ?_
        refine k_op0 (d := 23) (b := 234) (j' := 15) rfl rfl rfl rfl (.plain rfl) (T_move rfl rfl) rfl ?_
        refine k_no (d := 24) (j' := 16) rfl rfl rfl (g_ft rfl rfl rfl rfl) ?_
        refine k_no (d := 25) (j' := 17) rfl rfl rfl (g_ft rfl rfl rfl rfl) ?_
        refine k_no (d := 26) (j' := 18) rfl rfl rfl (g_ft rfl rfl rfl rfl) ?_
        refine k_op0 (d := 27) (b := 298) (j' := 19) rfl rfl rfl rfl (.plain rfl) (T_pick_t rfl rfl rfl rfl) rfl ?_
        refine k_done rfl ?_
        refine thenK_n ?_
        refine W_cond rfl (fun g4 => ?_) (fun g4 => ?_)
        · skip
          refine W_ret ?_
          refine thenK_r ?_
          -- end 1
          exact .mk [] (.inr rfl) (.nil) rfl (.box (by first | rfl | (rw [visit, if_pos (by simp_all)] at hv; cases hv; rfl)) (.box (by first | rfl | (rw [visit, if_pos (by simp_all)] at hv; cases hv; rfl)) (.box (by first | rfl | (rw [visit, if_pos (by simp_all)] at hv; cases hv; rfl)) (.box (by first | rfl | (rw [visit, if_pos (by simp_all)] at hv; cases hv; rfl)) (.box (by first | rfl | (rw [visit, if_pos (by simp_all)] at hv; cases hv; rfl)) (.rowE rfl (.box (by first | rfl | (rw [visit, if_pos (by simp_all)] at hv; cases hv; rfl)) (.rowE rfl (.nil) (by first | rfl | (rw [visit, if_pos (by simp_all)] at hv; cases hv; rfl)))) (by first | rfl | (rw [visit, if_pos (by simp_all)] at hv; cases hv; rfl)))))))) rfl
        · exact absurd (g4.symm.trans rfl) (by decide)
      · have h3 := g3; (try simp only [cmpB, decide_eq_true_eq, decide_eq_false_iff_not, beq_iff_eq, beq_eq_false_iff_ne, bne_iff_ne, ne_eq, bne_eq_false_iff_eq, Bool.not_eq_true', Bool.not_eq_false', Int.not_lt, Int.not_le] at h3)
        refine k_op0 (d := 18) (b := 154) (j' := 10) rfl rfl rfl rfl (g_ff rfl rfl rfl g3) (T_load_b D rfl rfl rfl rfl rfl rfl) rfl ?_
        refine k_op0 (d := 19) (b := 170) (j' := 11) rfl rfl rfl rfl (g_ff rfl rfl rfl g3) (T_move rfl rfl) rfl ?_
        first | refine k_op0 (d := 20) (b := 186) (j' := 12) rfl rfl rfl rfl (g_ff rfl rfl rfl g3) (T_indexAddr D rfl rfl rfl rfl rfl rfl rfl rfl (by first | assumption | omega | (simp; omega))) rfl ?_ | refine k_op0 (d := 20) (b := 186) (j' := 12) rfl rfl rfl rfl (g_ff rfl rfl rfl g3) (T_indexAddrZ D rfl rfl rfl rfl rfl rfl rfl rfl (by first | assumption | omega | (simp; omega)) (by first | assumption | omega | (simp; omega))) rfl ?_
        refine k_op0 (d := 21) (b := 202) (j' := 13) rfl rfl rfl rfl (g_ff rfl rfl rfl g3) (T_ldE D (lv := .v _) (nn := 0) (upd := []) rfl rfl rfl rfl rfl (by first | assumption | omega | (simp; omega)) rfl rfl rfl rfl) rfl ?_
        refine k_op0 (d := 22) (b := 218) (j' := 14) rfl rfl rfl rfl (.plain rfl) (T_pick_f rfl rfl rfl g3) rfl ?_
        refine k_op0 (d := 23) (b := 234) (j' := 15) rfl rfl rfl rfl (.plain rfl) (T_move rfl rfl) rfl ?_
        refine k_split (d := 23) rfl (fun g5 => ?_) (fun g5 => ?_)
        · have h5 := g5; (try simp only [cmpB, decide_eq_true_eq, decide_eq_false_iff_not, beq_iff_eq, beq_eq_false_iff_ne, bne_iff_ne, ne_eq, bne_eq_false_iff_eq, Bool.not_eq_true', Bool.not_eq_false', Int.not_lt, Int.not_le] at h5)
          refine k_no (d := 24) (j' := 16) rfl rfl rfl (g_ft rfl rfl rfl g5) ?_
          refine k_no (d := 25) (j' := 17) rfl rfl rfl (g_ft rfl rfl rfl g5) ?_
          refine k_no (d := 26) (j' := 18) rfl rfl rfl (g_ft rfl rfl rfl g5) ?_
          refine k_op0 (d := 27) (b := 298) (j' := 19) rfl rfl rfl rfl (.plain rfl) (T_pick_t rfl rfl rfl g5) rfl ?_
          refine k_done rfl ?_
          refine thenK_n ?_
          refine W_cond rfl (fun g6 => ?_) (fun g6 => ?_)
          · skip
            refine W_ret ?_
            refine thenK_r ?_
            -- end 2
            exact .mk [] (.inr rfl) (.nil) rfl (.box (by first | rfl | (rw [visit, if_pos (by simp_all)] at hv; cases hv; rfl)) (.box (by first | rfl | (rw [visit, if_pos (by simp_all)] at hv; cases hv; rfl)) (.box (by first | rfl | (rw [visit, if_pos (by simp_all)] at hv; cases hv; rfl)) (.box (by first | rfl | (rw [visit, if_pos (by simp_all)] at hv; cases hv; rfl)) (.box (by first | rfl | (rw [visit, if_pos (by simp_all)] at hv; cases hv; rfl)) (.rowE rfl (.box (by first | rfl | (rw [visit, if_pos (by simp_all)] at hv; cases hv; rfl)) (.rowE rfl (.nil) (by first | rfl | (rw [visit, if_pos (by simp_all)] at hv; cases hv; rfl)))) (by first | rfl | (rw [visit, if_pos (by simp_all)] at hv; cases hv; rfl)))))))) rfl
          · exact absurd (g6.symm.trans rfl) (by decide)
        · have h5 := g5; (try simp only [cmpB, decide_eq_true_eq, decide_eq_false_iff_not, beq_iff_eq, beq_eq_false_iff_ne, bne_iff_ne, ne_eq, bne_eq_false_iff_eq, Bool.not_eq_true', Bool.not_eq_false', Int.not_lt, Int.not_le] at h5)
          refine k_op0 (d := 24) (b := 250) (j' := 16) rfl rfl rfl rfl (g_ff rfl rfl rfl g5) (T_move rfl rfl) rfl ?_
          refine k_op0 (d := 25) (b := 266) (j' := 17) rfl rfl rfl rfl (g_ff rfl rfl rfl g5) (T_load_b D rfl rfl rfl rfl rfl rfl) rfl ?_
          refine k_op0 (d := 26) (b := 282) (j' := 18) rfl rfl rfl rfl (g_ff rfl rfl rfl g5) (T_cmp rfl rfl rfl rfl) rfl ?_
          refine k_op0 (d := 27) (b := 298) (j' := 19) rfl rfl rfl rfl (.plain rfl) (T_pick_f rfl rfl rfl g5) rfl ?_
          refine k_done rfl ?_
          refine thenK_n ?_
          refine W_cond rfl (fun g7 => ?_) (fun g7 => ?_)
          · have h7 := g7; (try simp only [cmpB, decide_eq_true_eq, decide_eq_false_iff_not, beq_iff_eq, beq_eq_false_iff_ne, bne_iff_ne, ne_eq, bne_eq_false_iff_eq, Bool.not_eq_true', Bool.not_eq_false', Int.not_lt, Int.not_le] at h7)
            refine W_ret ?_
            refine thenK_r ?_
            -- end 3
            exact .mk [] (.inr rfl) (.nil) rfl (.box (by first | rfl | (rw [visit, if_pos (by simp_all)] at hv; cases hv; rfl)) (.box (by first | rfl | (rw [visit, if_pos (by simp_all)] at hv; cases hv; rfl)) (.box (by first | rfl | (rw [visit, if_pos (by simp_all)] at hv; cases hv; rfl)) (.box (by first | rfl | (rw [visit, if_pos (by simp_all)] at hv; cases hv; rfl)) (.box (by first | rfl | (rw [visit, if_pos (by simp_all)] at hv; cases hv; rfl)) (.rowE rfl (.box (by first | rfl | (rw [visit, if_pos (by simp_all)] at hv; cases hv; rfl)) (.rowE rfl (.nil) (by first | rfl | (rw [visit, if_pos (by simp_all)] at hv; cases hv; rfl)))) (by first | rfl | (rw [visit, if_pos (by simp_all)] at hv; cases hv; rfl)))))))) rfl
          · have h7 := g7; (try simp only [cmpB, decide_eq_true_eq, decide_eq_false_iff_not, beq_iff_eq, beq_eq_false_iff_ne, bne_iff_ne, ne_eq, bne_eq_false_iff_eq, Bool.not_eq_true', Bool.not_eq_false', Int.not_lt, Int.not_le] at h7)
            refine W_skip ?_
            refine thenK_n ?_
            refine W_seq ?_
            refine W_seqK (b' := 378) rfl rfl ?_
            refine k_op0 (d := 28) (b := 314) (j' := 1) rfl rfl rfl rfl (.plain rfl) (T_load_b D rfl rfl rfl rfl rfl rfl) rfl ?_
            refine k_op0 (d := 29) (b := 330) (j' := 2) rfl rfl rfl rfl (.plain rfl) (T_move rfl rfl) rfl ?_
            first | refine k_op0 (d := 30) (b := 346) (j' := 3) rfl rfl rfl rfl (.plain rfl) (T_indexAddr D rfl rfl rfl rfl rfl rfl rfl rfl (by first | assumption | omega | (simp; omega))) rfl ?_ | refine k_op0 (d := 30) (b := 346) (j' := 3) rfl rfl rfl rfl (.plain rfl) (T_indexAddrZ D rfl rfl rfl rfl rfl rfl rfl rfl (by first | assumption | omega | (simp; omega)) (by first | assumption | omega | (simp; omega))) rfl ?_
            refine k_st1 (b := 362) (j' := 4) rfl rfl rfl rfl (.plain rfl) (T_store_e D (z := _) rfl rfl rfl rfl (flat_v rfl) rfl rfl (by first | assumption | omega | (simp; omega)) (.v rfl (.nil)) rfl (Nat.le_of_ble_eq_true rfl) rfl) rfl ?_
            refine k_done rfl ?_
            refine thenK_n ?_
            refine W_seq ?_
            refine W_seq ?_
            refine W_seqK (b' := 474) rfl rfl ?_
            refine k_op0 (d := 31) (b := 378) (j' := 1) rfl rfl rfl rfl (.plain rfl) (T_load_b D rfl rfl rfl rfl rfl rfl) rfl ?_
            refine k_op0 (d := 32) (b := 394) (j' := 2) rfl rfl rfl rfl (.plain rfl) (T_move rfl rfl) rfl ?_
            first | refine k_op0 (d := 33) (b := 410) (j' := 3) rfl rfl rfl rfl (.plain rfl) (T_indexAddr D rfl rfl rfl rfl rfl rfl rfl rfl (by first | assumption | omega | (simp; omega))) rfl ?_ | refine k_op0 (d := 33) (b := 410) (j' := 3) rfl rfl rfl rfl (.plain rfl) (T_indexAddrZ D rfl rfl rfl rfl rfl rfl rfl rfl (by first | assumption | omega | (simp; omega)) (by first | assumption | omega | (simp; omega))) rfl ?_
            refine k_op1 (d := 34) (b := 426) (j' := 4) rfl rfl rfl rfl (.plain rfl) (T_ldE D (lv := .r 426) (nn := 1) (upd := [(426, .fz 1 _)]) rfl rfl rfl rfl rfl (by first | assumption | omega | (simp; omega)) rfl rfl rfl rfl) rfl ?_
            refine k_op0 (d := 35) (b := 442) (j' := 5) rfl rfl rfl rfl (.plain rfl) (T_len D rfl rfl rfl rfl rfl rfl) rfl ?_
            refine k_op0 (d := 36) (b := 458) (j' := 6) rfl rfl rfl rfl (.plain rfl) (T_move rfl rfl) rfl ?_
            refine k_done rfl ?_
            refine thenK_n ?_
            refine W_block ?_
            have hcond : ¬ (b < 0 ∨ b ≥ (next.length : Int) ∨ s.getD b.toNat default = true ∨ b = bar) := by rintro (k | k | k | k) <;> simp_all <;> omega
            have hw : ((next.getD b.toNat default).foldlM (fun st n => visit next bar m n st) (s.set b.toNat true, o)).map (fun st => (st.1, st.2.set b.toNat true)) = some (s2, o2) := by rw [visit, if_neg hcond] at hv; exact hv
            obtain ⟨r, hr, hre⟩ := Option.map_eq_some_iff.1 hw
            have hnb := hnl (next.getD b.toNat default) (getD_mem (by omega))
            refine W_loop (ι := Nat × List Bool × List Bool) 11 (fun x => ⟨[(0, .v (.int .i64 b)), (4, .p 4 0), (5, .p 5 0), (34, .r 10), (35, .v (.int .i64 ((next.getD b.toNat default).length : Int))), (36, .v (.int .i64 (x.1 : Int)))], [(1, .box 30 [.r 6]), (2, .box 48 [.r 7]), (3, .box 3 [.v (.int .i64 bar)]), (4, .box 108 [.fn 136 [.p 1 0, .p 2 0, .p 3 0, .p 4 0, .p 5 0]]), (5, .box 108 [.fn 133 [.p 8 0]]), (6, .fz 1 (next.map eIs)), (7, .row 4 1 (x.2.1.map eB)), (8, .box 48 [.r 9]), (9, .row 4 1 (x.2.2.map eB)), (10, .fz 1 ((next.getD b.toNat default).map eI))]⟩) (fun x => x.1 ≤ (next.getD b.toNat default).length ∧ ((next.getD b.toNat default).take x.1).foldlM (fun st n => visit next bar m n st) (s.set b.toNat true, o) = some x.2 ∧ x.2.1.length = next.length ∧ x.2.2.length = next.length) (fun x => (next.getD b.toNat default).length - x.1) ((0, s.set b.toNat true, o)) (by exact ⟨Nat.zero_le _, by simp, by simpa using hs, ho⟩) ?_ (fun x hJ => ?_)
            · exact ⟨[(10, 426)], .eq rfl (.same rfl rfl (.same rfl rfl (.same rfl rfl (.eq rfl (.eq rfl (.nil) (by first | rfl | simp)) (by first | rfl | simp))))) (by first | rfl | simp), .box (by first | rfl | simp) (.box (by first | rfl | simp) (.box (by first | rfl | simp) (.box (by first | rfl | simp) (.box (by first | rfl | simp) (.fzE rfl (.rowE rfl (.box (by first | rfl | simp) (.rowE rfl (.fzE rfl (.nil) (by first | rfl | simp)) (by first | rfl | simp))) (by first | rfl | simp)) (by first | rfl | simp)))))), rfl⟩
            have hx := fun h => vstep hr (j := x.1) h hJ.2.1
            refine W_seq ?_
            refine W_seqK (b' := 27) rfl rfl ?_
            refine k_op0 (d := 37) (b := 11) (j' := 1) rfl rfl rfl rfl (.plain rfl) (T_cmp rfl rfl rfl rfl) rfl ?_
            refine k_done rfl ?_
            refine thenK_n ?_
            refine W_seq ?_
            refine W_cond rfl (fun g8 => ?_) (fun g8 => ?_)
            · have h8 := g8; (try simp only [cmpB, decide_eq_true_eq, decide_eq_false_iff_not, beq_iff_eq, beq_eq_false_iff_ne, bne_iff_ne, ne_eq, bne_eq_false_iff_eq, Bool.not_eq_true', Bool.not_eq_false', Int.not_lt, Int.not_le] at h8)
              refine W_skip ?_
              refine thenK_n ?_
              refine W_seq ?_
              refine W_block ?_
              refine W_seq ?_
              refine W_seqK (b' := 75) rfl rfl ?_
              first | refine k_op0 (d := 38) (b := 27) (j' := 1) rfl rfl rfl rfl (.plain rfl) (T_indexAddr D rfl rfl rfl rfl rfl rfl rfl rfl (by first | assumption | omega | (simp; omega))) rfl ?_ | refine k_op0 (d := 38) (b := 27) (j' := 1) rfl rfl rfl rfl (.plain rfl) (T_indexAddrZ D rfl rfl rfl rfl rfl rfl rfl rfl (by first | assumption | omega | (simp; omega)) (by first | assumption | omega | (simp; omega))) rfl ?_
              refine k_op0 (d := 39) (b := 43) (j' := 2) rfl rfl rfl rfl (.plain rfl) (T_ldE D (lv := .v _) (nn := 0) (upd := []) rfl rfl rfl rfl rfl (by first | assumption | omega | (simp; omega)) rfl rfl rfl rfl) rfl ?_
              refine k_op0 (d := 8) (b := 59) (j' := 3) rfl rfl rfl rfl (.plain rfl) (T_assign rfl rfl) rfl ?_
              refine k_done rfl ?_
              refine thenK_n ?_
              refine W_seqK (b' := 123) rfl rfl ?_
              refine k_op0 (d := 40) (b := 75) (j' := 1) rfl rfl rfl rfl (.plain rfl) (T_load_b D rfl rfl rfl rfl rfl rfl) rfl ?_
              refine k_op0 (d := 41) (b := 91) (j' := 2) rfl rfl rfl rfl (.plain rfl) (T_move rfl rfl) rfl ?_
              refine k_opn (d := 42) (b := 107) (j' := 3) rfl rfl rfl rfl (.plain rfl) (T_call (lvs := [_]) (L := [(1, 1), (2, 2), (3, 3), (4, 4), (5, 5), (6, 6), (7, 7), (8, 8), (9, 9)]) (lv := .tup []) (upd := [(1, .box 30 [.r 6]), (2, .box 48 [.r 7]), (3, .box 3 [.v _]), (4, .box 108 [.fn 136 [.p 1 0, .p 2 0, .p 3 0, .p 4 0, .p 5 0]]), (5, .box 108 [.fn 133 [.p 8 0]]), (7, .row 4 1 _), (8, .box 48 [.r 9]), (9, .row 4 1 _)]) (nn := 0) false (ih _ _ _ _ _ (hx (by omega)).1 hJ.2.2.1 hJ.2.2.2) body136 rfl rfl rfl rfl (.box rfl (.box rfl (.box rfl (.box rfl (.box rfl (.fz rfl (.row rfl (.box rfl (.row rfl (.nil)))))))))) rfl (.inl rfl) rfl rfl rfl) rfl ?_
              refine k_done rfl ?_
              refine blockK_n ?_
              refine thenK_n ?_
              refine W_seqK (b' := 155) rfl rfl ?_
              refine k_op0 (d := 43) (b := 123) (j' := 1) rfl rfl rfl rfl (.plain rfl) (T_add64 rfl rfl rfl (by first | assumption | omega | (simp; omega))) rfl ?_
              refine k_op0 (d := 36) (b := 139) (j' := 2) rfl rfl rfl rfl (.plain rfl) (T_move rfl rfl) rfl ?_
              refine k_done rfl ?_
              refine thenK_n ?_
              refine ⟨(x.1 + 1, vnext next bar m ((next.getD b.toNat default).getD x.1 default) x.2), by (try dsimp only); exact ⟨by (try dsimp only); omega, (hx (by omega)).2, (visit_len next bar next.length m _ _ _ (hx (by omega)).1 hJ.2.2.1 hJ.2.2.2)⟩, by (try dsimp only); omega, ?_⟩
              exact ⟨[(10, 10)], .eq rfl (.same rfl rfl (.same rfl rfl (.same rfl rfl (.eq rfl (.eq rfl (.nil) (by first | rfl | simp)) (by first | rfl | simp))))) (by first | rfl | simp), .box (by first | rfl | simp) (.box (by first | rfl | simp) (.box (by first | rfl | simp) (.box (by first | rfl | simp) (.box (by first | rfl | simp) (.fzE rfl (.rowE rfl (.box (by first | rfl | simp) (.rowE rfl (.fzE rfl (.nil) (by first | rfl | simp)) (by first | rfl | simp))) (by first | rfl | simp)) (by first | rfl | simp)))))), rfl⟩
            · have h8 := g8; (try simp only [cmpB, decide_eq_true_eq, decide_eq_false_iff_not, beq_iff_eq, beq_eq_false_iff_ne, bne_iff_ne, ne_eq, bne_eq_false_iff_eq, Bool.not_eq_true', Bool.not_eq_false', Int.not_lt, Int.not_le] at h8)
              refine W_exit ?_
              refine thenK_e ?_
              refine thenK_e ?_
              refine blockK_hit ?_
              refine thenK_n ?_
              refine W_seqK (b' := 75) rfl rfl ?_
              refine k_op0 (d := 44) (b := 27) (j' := 1) rfl rfl rfl rfl (.plain rfl) (T_load_b D rfl rfl rfl rfl rfl rfl) rfl ?_
              refine k_op0 (d := 45) (b := 43) (j' := 2) rfl rfl rfl rfl (.plain rfl) (T_move rfl rfl) rfl ?_
              refine k_opn (d := 46) (b := 59) (j' := 3) rfl rfl rfl rfl (.plain rfl) (T_call (lvs := [_]) (L := [(1, 8), (2, 9)]) (lv := .tup []) (upd := [(8, .box 48 [.r 9]), (9, .row 4 1 _)]) (nn := 0) false (reach1_spec _ _ (by omega) (by omega)) body133 rfl rfl rfl rfl (.box rfl (.row rfl (.nil))) rfl (.inl rfl) rfl rfl rfl) rfl ?_
              refine k_done rfl ?_
              -- end 4
              have e1 : x.1 = (next.getD b.toNat default).length := by omega
              have e2 : r = x.2 := by have h := hJ.2.1; rw [e1, List.take_of_length_le (Nat.le_refl _), hr] at h; exact Option.some.inj h
              obtain ⟨rfl, rfl⟩ := Prod.mk.inj hre
              subst e2
              exact .mk [] (.inl rfl) (.nil) rfl (.box (by first | rfl | (rw [visit, if_pos (by simp_all)] at hv; cases hv; rfl)) (.box (by first | rfl | (rw [visit, if_pos (by simp_all)] at hv; cases hv; rfl)) (.box (by first | rfl | (rw [visit, if_pos (by simp_all)] at hv; cases hv; rfl)) (.box (by first | rfl | (rw [visit, if_pos (by simp_all)] at hv; cases hv; rfl)) (.box (by first | rfl | (rw [visit, if_pos (by simp_all)] at hv; cases hv; rfl)) (.rowE rfl (.box (by first | rfl | (rw [visit, if_pos (by simp_all)] at hv; cases hv; rfl)) (.rowE rfl (.nil) (by first | rfl | (rw [visit, if_pos (by simp_all)] at hv; cases hv; rfl)))) (by first | rfl | (rw [visit, if_pos (by simp_all)] at hv; cases hv; rfl)))))))) rfl
end Lg
end Go.Proofs.Ytpfhmodjjljpjaa

namespace Go.Proofs.Ytpfhmodjjljpjaa
open Go.RowKit
namespace Lg
set_option maxRecDepth 100000
set_option linter.unusedVariables false
set_option linter.unusedSimpArgs false



theorem body132 : (Try.prog.funcs[132]?).map (fun fn => (fn.name == "runtime.NumGoroutine" || fn.body.isNone)) = some false := by kernel_rfl
theorem deep_spec (next : List (List Int)) (bar : Int) (hn : next.length ≤ 1000000) (hnl : ∀ l ∈ next, l.length ≤ 1000000) (m : Nat) (o s2 o2 : List Bool) (hv : visit next bar m 0 (List.replicate next.length false, o) = some (s2, o2)) (ho : o.length = next.length) : Spec Try.prog 132 [.r 1, .v (.int .i64 bar), .fn 133 [.p 2 0]] 4 [(1, .fz 1 (next.map eIs)), (2, .box 48 [.r 3]), (3, .row 4 1 (o.map eB))] (.tup []) 4 [(2, .box 48 [.r 3]), (3, .row 4 1 (o2.map eB))] := by
  refine spec_of D (fn := Try.f132) rfl rfl (Nat.le_of_ble_eq_true rfl) ?_
  refine W_seq ?_
  refine W_seqK (b' := 52) rfl rfl ?_
  refine k_op1 (d := 3) (b := 4) (j' := 1) rfl rfl rfl rfl (.plain rfl) (T_box rfl rfl (flat_sl rfl)) rfl ?_
  refine k_op1 (d := 4) (b := 20) (j' := 2) rfl rfl rfl rfl (.plain rfl) (T_box rfl rfl (flat_v rfl)) rfl ?_
  refine k_op1 (d := 5) (b := 36) (j' := 3) rfl rfl rfl rfl (.plain rfl) (T_box rfl rfl flat_fn) rfl ?_
  refine k_done rfl ?_
  refine thenK_n ?_
  refine W_seq ?_
  refine W_seqK (b' := 132) rfl rfl ?_
  refine k_op0 (d := 8) (b := 52) (j' := 1) rfl rfl rfl rfl (.plain rfl) (T_load_b D rfl rfl rfl rfl rfl rfl) rfl ?_
  refine k_op0 (d := 9) (b := 68) (j' := 2) rfl rfl rfl rfl (.plain rfl) (T_len D rfl rfl rfl rfl rfl rfl) rfl ?_
  refine k_op1 (d := 10) (b := 84) (j' := 3) rfl rfl rfl rfl (.plain rfl) (T_make D (zx := false) (enc := eB) rfl rfl rfl rfl rfl rfl rfl (.v rfl (.nil)) rfl (by (try simp only [ty4]); first | assumption | omega | (simp; omega)) (by (try simp only [ty4]); first | assumption | omega | (simp; omega))) rfl ?_
  refine k_opn (d := 6) (b := 100) (j' := 4) rfl rfl rfl rfl (.plain rfl) (T_nilbox [(4, 1)] (T_alloc D rfl rfl rfl) rfl (.cons (.nil rfl) <| .nil) (upd' := [(100, .box 48 [.r 101]), (101, .row 4 1 (List.map eB ([] : List (Bool))))]) (nn' := 2) rfl rfl) rfl ?_
  refine k_st1 (b := 116) (j' := 5) rfl rfl rfl rfl (.plain rfl) (T_stB D (cs' := [_]) rfl rfl rfl rfl (flat_sl rfl) rfl rfl (Nat.le_of_ble_eq_true rfl) rfl) rfl ?_
  refine k_done rfl ?_
  refine thenK_n ?_
  refine W_seq ?_
  refine W_seqK (b' := 148) rfl rfl ?_
  refine k_op1 (d := 7) (b := 132) (j' := 1) rfl rfl rfl rfl (.plain rfl) (T_alloc D rfl rfl rfl) rfl ?_
  refine k_done rfl ?_
  refine thenK_n ?_
  refine W_seq ?_
  refine W_seqK (b' := 180) rfl rfl ?_
  refine k_op0 (d := 11) (b := 148) (j' := 1) rfl rfl rfl rfl (.plain rfl) (T_makeFunc (l := [_, _, _, _, _]) rfl rfl) rfl ?_
  refine k_st1 (b := 164) (j' := 2) rfl rfl rfl rfl (.plain rfl) (T_stB D (cs' := [_]) rfl rfl rfl rfl flat_fn rfl rfl (Nat.le_of_ble_eq_true rfl) rfl) rfl ?_
  refine k_done rfl ?_
  refine thenK_n ?_
  refine W_seqK (b' := 212) rfl rfl ?_
  refine k_op0 (d := 12) (b := 180) (j' := 1) rfl rfl rfl rfl (.plain rfl) (T_load_b D rfl rfl rfl rfl rfl rfl) rfl ?_
  refine k_opn (d := 13) (b := 196) (j' := 2) rfl rfl rfl rfl (.plain rfl) (T_call (lvs := [_]) (L := [(1, 4), (2, 100), (3, 20), (4, 132), (5, 36), (6, 1), (7, 84), (8, 2), (9, 3)]) (lv := .tup []) (upd := [(4, .box 30 [.r 1]), (100, .box 48 [.r 84]), (20, .box 3 [.v _]), (132, .box 108 [.fn 136 [.p 4 0, .p 100 0, .p 20 0, .p 132 0, .p 36 0]]), (36, .box 108 [.fn 133 [.p 2 0]]), (84, .row 4 1 _), (2, .box 48 [.r 3]), (3, .row 4 1 _)]) (nn := 0) false (visit_spec _ _ hn hnl _ _ _ _ _ _ hv (by simp) ho) body136 rfl rfl rfl rfl (.box rfl (.box rfl (.box rfl (.box rfl (.box rfl (.fz rfl (.row rfl (.box rfl (.row rfl (.nil)))))))))) rfl (.inl rfl) rfl rfl rfl) rfl ?_
  refine k_done rfl ?_
  -- end 0
  exact .mk [] (.inl rfl) (.nil) rfl (.box (by first | rfl | simp) (.rowE rfl (.nil) (by first | rfl | simp))) rfl

theorem body111 : (Try.prog.funcs[111]?).map (fun fn => (fn.name == "runtime.NumGoroutine" || fn.body.isNone)) = some false := by kernel_rfl
theorem reach_spec (next : List (List Int)) (hn : next.length ≤ 1000000) (hnl : ∀ l ∈ next, l.length ≤ 1000000) (m : Nat) (s2 o2 : List Bool) (hv : visit next (-1) m 0 (List.replicate next.length false, List.replicate next.length false) = some (s2, o2)) : Spec Try.prog 111 [.r 1] 2 [(1, .fz 1 (next.map eIs))] (.r 2) 3 [(2, .row 4 1 (o2.map eB))] := by
  refine spec_of D (fn := Try.f111) rfl rfl (Nat.le_of_ble_eq_true rfl) ?_
  refine W_seq ?_
  refine W_seqK (b' := 18) rfl rfl ?_
  refine k_op1 (d := 2) (b := 2) (j' := 1) rfl rfl rfl rfl (.plain rfl) (T_nils [(4, 1)] (T_assign rfl rfl) rfl (.inr ⟨rfl, rfl⟩) (.cons (.nil rfl) .nil) (lv' := .r 2) (upd' := [(2, .row 4 1 (List.map eB ([] : List (Bool))))]) (nn' := 1) rfl rfl) rfl ?_
  refine k_done rfl ?_
  refine thenK_n ?_
  refine W_seq ?_
  refine W_seqK (b' := 98) rfl rfl ?_
  refine k_op0 (d := 4) (b := 18) (j' := 1) rfl rfl rfl rfl (.plain rfl) (T_move rfl rfl) rfl ?_
  refine k_op0 (d := 5) (b := 34) (j' := 2) rfl rfl rfl rfl (.plain rfl) (T_len D rfl rfl rfl rfl rfl rfl) rfl ?_
  refine k_op1 (d := 6) (b := 50) (j' := 3) rfl rfl rfl rfl (.plain rfl) (T_make D (zx := false) (enc := eB) rfl rfl rfl rfl rfl rfl rfl (.v rfl (.nil)) rfl (by (try simp only [ty4]); first | assumption | omega | (simp; omega)) (by (try simp only [ty4]); first | assumption | omega | (simp; omega))) rfl ?_
  refine k_opn (d := 3) (b := 66) (j' := 4) rfl rfl rfl rfl (.plain rfl) (T_nilbox [(4, 1)] (T_alloc D rfl rfl rfl) rfl (.cons (.nil rfl) <| .nil) (upd' := [(66, .box 48 [.r 67]), (67, .row 4 1 (List.map eB ([] : List (Bool))))]) (nn' := 2) rfl rfl) rfl ?_
  refine k_st1 (b := 82) (j' := 5) rfl rfl rfl rfl (.plain rfl) (T_stB D (cs' := [_]) rfl rfl rfl rfl (flat_sl rfl) rfl rfl (Nat.le_of_ble_eq_true rfl) rfl) rfl ?_
  refine k_done rfl ?_
  refine thenK_n ?_
  refine W_seq ?_
  refine W_seqK (b' := 146) rfl rfl ?_
  refine k_op0 (d := 7) (b := 98) (j' := 1) rfl rfl rfl rfl (.plain rfl) (T_move rfl rfl) rfl ?_
  refine k_op0 (d := 8) (b := 114) (j' := 2) rfl rfl rfl rfl (.plain rfl) (T_makeFunc (l := [_]) rfl rfl) rfl ?_
  refine k_opn (d := 9) (b := 130) (j' := 3) rfl rfl rfl rfl (.plain rfl) (T_call (lvs := [_, _, _]) (L := [(1, 1), (2, 66), (3, 50)]) (lv := .tup []) (upd := [(66, .box 48 [.r 50]), (50, .row 4 1 _)]) (nn := 0) false (deep_spec _ _ hn hnl _ _ _ _ hv (by simp)) body132 rfl rfl rfl rfl (.fz rfl (.box rfl (.row rfl (.nil)))) rfl (.inl rfl) rfl rfl rfl) rfl ?_
  refine k_done rfl ?_
  refine thenK_n ?_
  refine W_seq ?_
  refine W_seqK (b' := 178) rfl rfl ?_
  refine k_op0 (d := 10) (b := 146) (j' := 1) rfl rfl rfl rfl (.plain rfl) (T_load_b D rfl rfl rfl rfl rfl rfl) rfl ?_
  refine k_op0 (d := 2) (b := 162) (j' := 2) rfl rfl rfl rfl (.plain rfl) (T_assign rfl rfl) rfl ?_
  refine k_done rfl ?_
  refine thenK_n ?_
  refine W_ret ?_
  -- end 0
  exact .mk [(2, 50)] (.inr rfl) (.tmp rfl (.nil)) rfl (.rowE rfl (.nil) (by first | rfl | simp)) rfl
end Lg
end Go.Proofs.Ytpfhmodjjljpjaa

namespace Go.Proofs.Ytpfhmodjjljpjaa
open Go.RowKit
namespace Lg
set_option linter.unusedSimpArgs false
set_option linter.unusedVariables false

/-! ### Slices of slices that the call owns -/
/-- An object, told in another way. -/
theorem HR.retell {w0 w : World} {M : Fp} {U : Nat → Prop} {ρ : Nat → Value} {own : Nat → Option Nat} {o : List (Nat × Ob)} (hr : HR w0 M U ρ own o w) {i : Nat} {ob ob' : Ob} (hi : o.lookup i = some ob) (h : RepOb w ρ own i ob → RepOb w ρ own i ob') (hu : ob.used U ρ → ob'.used U ρ) : HR w0 M U ρ own ((i, ob') :: o) w := by
  obtain ⟨h1, h2, h3⟩ := hr.ob i ob hi
  refine hr.step (upd := [(i, ob')]) (fun _ => False) rfl rfl rfl (Nat.le_refl _) (fun _ _ _ => ⟨rfl, rfl⟩) (fun _ _ => rfl) (fun _ h => h) (fun _ h => h.elim) (fun q x hq => .inl (by rw [lookup_key hq]; exact ⟨_, hi⟩)) (fun q x hq => ?_)
  have hq' := lookup_key hq
  subst hq'
  obtain rfl : ob' = x := by simpa using hq
  exact ⟨h h1, h2, hu h3⟩

def nilC : Cell := .v (.slice none 0 0)
theorem nest_of_nils {w : World} {ρ : Nat → Value} {own : Nat → Option Nat} {i e e2 sz2 m : Nat} (hs : 0 < sz2) (h : RepOb w ρ own i (.row e 1 ((List.replicate m ()).map fun _ => [nilC]))) : RepOb w ρ own i (.nest e e2 sz2 (List.replicate m []) none) := by
  obtain ⟨h0, cells, h1, h2, h3⟩ := h
  have hlen : ((List.replicate m ()).map fun _ => [nilC]).length = m := by simp
  have hv : ∀ j v, cells[j]? = some v → v = Value.slice none 0 0 := fun j v hj => by
    have hjm : j < m := by
      have := (List.getElem?_eq_some_iff.1 hj).1
      rw [h3.len, hlen] at this; omega
    obtain ⟨u, hu, hR⟩ := (h3.each j [nilC] (by simp [List.getElem?_map, hjm])).2 0 nilC rfl
    rw [Nat.mul_one, Nat.add_zero, hj] at hu
    cases hu
    cases hR with
    | v _ _ => rfl
  refine ⟨cells, hs, by simpa [hlen] using h1, h2, (fun j b hb => by cases hb), fun j r v hj hjv _ => ?_, fun j j' v v' k hne _ _ hjv hjv' hk => ?_⟩
  · have := hv j v hjv
    subst this
    have hr : r = [] := (List.mem_replicate.1 (List.mem_of_getElem? hj)).2
    subst hr
    exact ⟨[], ⟨by simp, .inl ⟨rfl, rfl⟩⟩, ⟨by simp, (fun i r hi => by simp at hi)⟩, (fun k hk => by cases hk)⟩
  · rw [hv j v hjv] at hk; cases hk

section
variable {P : Program} {N b : Nat} {o : Oper} {st : St} (D : Tab P)

theorem T_makeN {t : Nat} {x y : Operand} {m e2 sz2 : Nat} {ty ety : TyI} (ho : o.op = .makeSlice t x y) (hx : st.ev x = some (.v (.int .i64 (m : Int)))) (hy : st.ev y = some (.v (.int .i64 (m : Int))))
    (hi : D.get t = some ty) (he0 : (ty.elem == 0) = false) (he : D.get ty.elem = some ety) (hz : ety.zero = [.slice none 0 0]) (hsz : ety.size = 1) (hs2 : (0 < sz2) = True) (hm : m * ety.bytes ≤ 281474976710656) (hm2 : m ≤ 9223372036854775807) :
    T P N o b [] st (.r b) 1 [(b, .nest ty.elem e2 sz2 (List.replicate m []) none)] := by
  have h := T_make D (enc := fun (_ : Unit) => [nilC]) (zx := ()) (N := N) (b := b) ho hx hy hi he0 he (by rw [hsz]; rfl) (by rw [hz]; exact .v rfl .nil) (by rw [hz, hsz]; rfl) hm hm2
  rw [hsz] at h
  intro w0 M U ρ own st' a w hev hp hf fr hr next Q hn
  refine h w0 M U ρ own st' a w hev hp hf fr hr next Q (fun v w' hv => hn v w' ?_)
  obtain ⟨ρ', own', h1, h2, h3, h4⟩ := hv
  refine ⟨ρ', own', h1, h2, h3, ?_⟩
  have h5 := h4.retell (i := b) (ob := .row ty.elem 1 ((List.replicate m ()).map fun _ => [nilC])) (ob' := .nest ty.elem e2 sz2 (List.replicate m []) none) (by simp) (nest_of_nils (of_eq_true hs2)) (fun _ => fun j q hq => by cases hq)
  refine h5.congr (fun i => ?_)
  simp only [List.cons_append, List.nil_append, List.lookup]
  cases hib : i == b <;> rfl

theorem nest_base {w : World} {ρ : Nat → Value} {own : Nat → Option Nat} {i e e2 sz2 : Nat} {rows : List (List (List Cell))} {hole : Option (Nat × Nat)} (h : RepOb w ρ own i (.nest e e2 sz2 rows hole)) : ∃ A c, ρ i = .slice A rows.length c ∧ (0 < rows.length → ∃ a, A = some a) := by
  obtain ⟨vs, hN⟩ := h
  rcases hN.out.2 with ⟨h4, h5⟩ | ⟨g, off, cap, cur, he, hh, r1, r2, r3, r4⟩
  · exact ⟨none, 0, by rw [h4, h5], fun hp => by omega⟩
  · exact ⟨_, cap, he, fun _ => ⟨_, rfl⟩⟩

theorem T_lenN {α : Type} {enc : α → List Cell} {xs : List (List α)} {t tt i e e2 sz2 : Nat} {hole : Option (Nat × Nat)} {x : Operand} {ty : TyI} (ho : o.op = .call { callee := .builtin .len, args := #[x], argTypes := #[t] }) (hx : st.ev x = some (.r i)) (hob : st.o.lookup i = some (.nest e e2 sz2 (xs.map (List.map enc)) hole))
    (hi : D.get t = some ty) (he0 : (ty.elem == 0) = false) (_htt : o.type = tt) : T P N o b [i] st (.v (.int .i64 (xs.length : Int))) 0 [] := by
  intro w0 M U ρ own st' a w hev hp hfr fr hr
  obtain ⟨hv, hu⟩ := fr.eval ((hev x (by simp [ho, Op.operands, Call.operands])).trans hx)
  obtain ⟨g1, g2, g3⟩ := hr.ob i _ ((hp i (by simp)).trans hob)
  obtain ⟨A, c, hA, hn⟩ := nest_base g1
  rw [List.length_map] at hA
  have hu' := (D.ok t ty hi).sl (by simpa using he0)
  have hrun : (execOp a.eval o).run P w = .ok (.value (.int .i64 (xs.length : Int))) w := by
    simp [execOp, ho, resolve, invoke, builtin, hv, LV.val, hA, Builtin.len_, run_underlying hu', goInt]
  exact does_value hrun ⟨ρ, own, rfl, fun _ _ => rfl, trivial, hr.mono (fun i hi => .inl hi)⟩

theorem T_indexAddrN {α : Type} {enc : α → List Cell} {xs : List (List α)} {t i e e2 sz2 : Nat} {hole : Option (Nat × Nat)} {x y : Operand} {k : IntKind} {j : Int} {ty ety : TyI} (ho : o.op = .indexAddr t x y) (hx : st.ev x = some (.r i)) (hob : st.o.lookup i = some (.nest e e2 sz2 (xs.map (List.map enc)) hole)) (hy : st.ev y = some (.v (.int k j)))
    (hi : D.get t = some ty) (he0 : (ty.elem == 0) = false) (he : D.get ty.elem = some ety) (hs : ety.size = 1) (h0 : 0 ≤ j) (h1 : j < (xs.length : Int)) : T P N o b [i] st (.e i 1 j.toNat 0) 0 [] := by
  intro w0 M U ρ own st' a w hev hp hfr fr hr
  obtain ⟨hv, hu⟩ := fr.eval ((hev x (by simp [ho, Op.operands])).trans hx)
  obtain ⟨hv2, _⟩ := fr.eval ((hev y (by simp [ho, Op.operands])).trans hy)
  obtain ⟨g1, g2, g3⟩ := hr.ob i _ ((hp i (by simp)).trans hob)
  obtain ⟨A, c, hA, hn⟩ := nest_base g1
  rw [List.length_map] at hA hn
  obtain ⟨ad, rfl⟩ := hn (by omega)
  have hb : base (ρ i) = some ad := by rw [hA]; rfl
  have hrun : (execOp a.eval o).run P w = .ok (.value (.pointer (some (ad.add (j.toNat * 1))))) w := by
    simp only [execOp, ho, hv, hv2, LV.val, hA]
    rw [Sem.run_bind, run_indexAddr (D.ok t ty hi) (by simpa using he0) (D.ok _ ety he) h0 h1, hs]
    rfl
  exact does_value hrun ⟨ρ, own, by simp [LV.val, ptrOf, hb], fun _ _ => rfl, ⟨.inl hu, ad, hb⟩, hr.mono (fun i hi => .inl hi)⟩

theorem owns_same {w w' : World} {e sz n : Nat} {v : Value} {cells : List Value} (h : OwnsR w e sz v n cells) (hk : ∀ k, v.ownBlock = some k → w'.heap[k]? = w.heap[k]?) : OwnsR w' e sz v n cells := by
  refine ⟨h.1, ?_⟩
  rcases h.2 with h4 | ⟨g, off, cap, cur, he, hh, r⟩
  · exact .inl h4
  · exact .inr ⟨g, off, cap, cur, he, (hk g (by rw [he]; rfl)).trans hh, r⟩

/-- An element slice is split off: an object of its own. -/
theorem T_ldN {α : Type} [Inhabited α] {enc : α → List Cell} {xs : List (List α)} {t i e e2 sz2 j : Nat} {x : Operand} {ty : TyI} (ho : o.op = .load t x) (hx : st.ev x = some (.e i 1 j 0)) (hob : st.o.lookup i = some (.nest e e2 sz2 (xs.map (List.map enc)) none)) (hi : D.get t = some ty) (ha : ty.agg = false) (hj : j < xs.length) :
    T P N o b [i] st (.r b) 1 [(b, .row e2 sz2 ((xs.getD j default).map enc)), (i, .nest e e2 sz2 (xs.map (List.map enc)) (some (j, b)))] := by
  intro w0 M U ρ own st' a w hev hp hfrs fr hr
  obtain ⟨hv, hu⟩ := fr.eval ((hev x (by simp [ho, Op.operands])).trans hx)
  obtain ⟨ad, had⟩ := hu.2
  have hob' := (hp i (by simp)).trans hob
  obtain ⟨⟨vs, hN⟩, hUi, _⟩ := hr.ob i _ hob'
  have hbU : ¬ U b := hfrs b (Nat.le_refl _) (by omega)
  have hbi : b ≠ i := fun h => hbU (h ▸ hUi)
  have hrl : (xs.map (List.map enc)).length = xs.length := by simp
  have hvl : vs.length = xs.length := by rw [hN.out.1, hrl]; simp
  have hjv : vs[j]? = some vs[j] := List.getElem?_eq_getElem (by omega)
  have hrow : (xs.map (List.map enc))[j]? = some ((xs.getD j default).map enc) := by
    rw [List.getElem?_map, List.getElem?_eq_getElem hj, List.getD_eq_getElem?_getD, List.getElem?_eq_getElem hj]; rfl
  generalize hvj : vs[j] = v at hjv
  obtain ⟨cells, g1, g2, g3⟩ := hN.inn j _ v hrow hjv (fun b hb => by cases hb)
  have hcell : w.cell? (ad.add (j * 1 + 0)) = some v := by
    rcases hN.out.2 with ⟨h4, h5⟩ | ⟨g, off, cap, cur, he, hh, r⟩
    · omega
    · have had' : ad = ⟨g, off, none⟩ := by rw [he] at had; simpa [base] using had.symm
      subst had'
      rw [Nat.mul_one, Nat.add_zero]
      exact hN.out.cells he _ _ hjv
  have hrun : (execOp a.eval o).run P w = .ok (.value v) w := by
    simp only [execOp, ho]
    rw [Sem.run_bind, run_load1 (D.ok t ty hi) ha (a := ad.add (j * 1 + 0)) (by rw [hv]; simp [LV.val, ptrOf, had]) hcell]
    rfl
  let own' : Nat → Option Nat := fun k => if own k = some i ∧ v.ownBlock = some k then some b else own k
  have hρ : ∀ q, U q → upd1 ρ b v q = ρ q := fun q hq => upd1_other _ _ (fun h => hbU (h ▸ hq))
  have hnone : ∀ k, own k = none → k < w.heap.size → own' k = none ∧ w.heap[k]? = w.heap[k]? := fun k hk _ => ⟨by simp [own', hk], rfl⟩
  have hkeep : ∀ k, v.ownBlock ≠ some k → own' k = own k := fun k hk => by simp [own', hk]
  refine does_value hrun ⟨upd1 ρ b v, own', by simp [LV.val, upd1_same], hρ, .inr ⟨Nat.le_refl _, by omega⟩, ?_⟩
  refine hr.step (fun q => q = i) rfl rfl rfl (Nat.le_refl _) (fun k hk hq => ⟨rfl, ?_⟩) hρ (fun q hq => .inl hq) (fun q hq => ⟨.nest e e2 sz2 (xs.map (List.map enc)) (some (j, b)), by subst hq; simp [List.lookup, show (q == b) = false by simpa using Ne.symm hbi]⟩) (fun q ob' hq => ?_) (fun q ob' hq => ?_)
  · have : own k ≠ some i := fun h => hq i h rfl
    simp [own', this]
  · simp only [List.lookup] at hq
    cases hqb : q == b with
    | true => exact .inr (by rw [show q = b by simpa using hqb]; exact hbU)
    | false =>
      rw [hqb] at hq
      cases hqi : q == i with
      | true => exact .inl (by rw [show q = i by simpa using hqi]; exact ⟨_, hob'⟩)
      | false => rw [hqi] at hq; cases hq
  · simp only [List.lookup] at hq
    cases hqb : q == b with
    | true =>
      rw [hqb] at hq
      obtain rfl : q = b := by simpa using hqb
      obtain rfl : Ob.row e2 sz2 ((xs.getD j default).map enc) = ob' := by injection hq
      refine ⟨⟨hN.pos, cells, by rw [upd1_same]; exact g1, fun k hk => ?_, g2.mono hnone⟩, .inr ⟨Nat.le_refl _, by omega⟩, trivial⟩
      rw [upd1_same] at hk
      simp [own', (g3 k hk).1, hk]
    | false =>
      rw [hqb] at hq
      cases hqi : q == i with
      | false => rw [hqi] at hq; cases hq
      | true =>
        rw [hqi] at hq
        obtain rfl : q = i := by simpa using hqi
        obtain rfl : Ob.nest e e2 sz2 (xs.map (List.map enc)) (some (j, b)) = ob' := by injection hq
        have hρi := hρ q hUi
        refine ⟨⟨vs, hN.pos, by rw [hρi]; exact hN.out, fun k hk => ?_, fun j' b' hb => ?_, fun j' r v' hj' hv' hh => ?_, fun j1 j2 v1 v2 k hne _ _ => hN.dis j1 j2 v1 v2 k hne (fun b hb => by cases hb) (fun b hb => by cases hb)⟩, .inl hUi, fun j' b' hb => ?_⟩
        · rw [hρi] at hk
          rw [hkeep k (fun h => (g3 k h).2 hk)]
          exact hN.blk k hk
        · cases hb
          rw [upd1_same]; exact hjv
        · have hjj : j ≠ j' := fun h => hh b (by rw [h])
          obtain ⟨cells', k1, k2, k3⟩ := hN.inn j' r v' hj' hv' (fun b hb => by cases hb)
          refine ⟨cells', k1, k2.mono hnone, fun k hk => ?_⟩
          rw [hkeep k (fun h => hN.dis j j' v v' k hjj (fun b hb => by cases hb) (fun b hb => by cases hb) hjv hv' h hk), hρi]
          exact k3 k hk
        · cases hb
          exact .inr ⟨Nat.le_refl _, by omega⟩

/-- A slice of the call's own is stored into an element. -/
theorem T_stN {α : Type} {enc : α → List Cell} {xs : List (List α)} {ys : List α} {t i q e e2 sz2 j : Nat} {hole : Option (Nat × Nat)} {x y : Operand} {ty : TyI} (ho : o.op = .store t x y) (hx : st.ev x = some (.e i 1 j 0)) (hob : st.o.lookup i = some (.nest e e2 sz2 (xs.map (List.map enc)) hole)) (hy : st.ev y = some (.r q)) (hoq : st.o.lookup q = some (.row e2 sz2 (ys.map enc)))
    (hi : D.get t = some ty) (hsz : ty.size = 1) (hiq : (i == q) = false) (hj : j < xs.length) (hh : hole = none ∨ ∃ b0, hole = some (j, b0)) :
    T P N o b [i, q] st (.v undef) 0 [(i, .nest e e2 sz2 ((xs.set j ys).map (List.map enc)) none), (q, .no)] := by
  intro w0 M U ρ own st' a w hev hp hfrs fr hr
  obtain ⟨hv, hu⟩ := fr.eval ((hev x (by simp [ho, Op.operands])).trans hx)
  obtain ⟨hv2, hu2⟩ := fr.eval ((hev y (by simp [ho, Op.operands])).trans hy)
  obtain ⟨ad, had⟩ := hu.2
  have hiq' : i ≠ q := by simpa using hiq
  have hob' := (hp i (by simp)).trans hob
  have hoq' := (hp q (by simp)).trans hoq
  obtain ⟨⟨vs, hN⟩, hUi, _⟩ := hr.ob i _ hob'
  obtain ⟨hq1, hUq, _⟩ := hr.ob q _ hoq'
  obtain ⟨A, c, hA⟩ := row_slice hq1
  obtain ⟨_, cellsq, q1, q2, q3⟩ := hq1
  have hrl : (xs.map (List.map enc)).length = xs.length := by simp
  have hvl : vs.length = xs.length := by rw [hN.out.1, hrl]; simp
  have hhole : ∀ j', j' ≠ j → ∀ b, hole ≠ some (j', b) := fun j' hne b hb => by
    rcases hh with rfl | ⟨b0, rfl⟩
    · cases hb
    · cases hb; exact hne rfl
  rcases hN.out.2 with ⟨h4, h5⟩ | ⟨g, off, cap, cur, he, hheap, r1, r2, r3, r4⟩
  · omega
  have hgi : own g = some i := hN.blk g (by rw [he]; rfl)
  have hb : base (ρ i) = some ⟨g, off, none⟩ := by rw [he]; rfl
  have hfits : off + j + [ρ q].length ≤ cur.size := by simp only [List.length_singleton]; omega
  have hcur : cur.toList.length = cur.size := Array.length_toList
  have hrun : (execOp a.eval o).run P w = .ok .skip (w.setRow g (splice cur.toList (off + j) [ρ q]).toArray) := by
    simp only [execOp, ho]
    rw [Sem.run_bind, run_storeAt (D.ok t ty hi) (g := g) (n := off + j) (vs := [ρ q]) (by rw [hv]; simp [LV.val, ptrOf, hb, add_at]) (by rw [hv2]; simp [LV.val, hA, Value.cells]) (by simp [hsz]) hheap hfits (fun u hu => by simp at hu; subst hu; rw [hA]; rfl)]
    rfl
  let own' : Nat → Option Nat := fun k => if own k = some q then some i else own k
  have hkq : ∀ k, own k ≠ some q → own' k = own k := fun k hk => by simp [own', hk]
  have hoth : ∀ k, own k ≠ some i → (w.setRow g (splice cur.toList (off + j) [ρ q]).toArray).heap[k]? = w.heap[k]? := fun k hk => setRow_other w g k _ (fun h => hk (by rw [h]; exact hgi))
  have hne2 : ∀ k, (ρ i).ownBlock ≠ some k → k ≠ g := fun k hk h => hk (by rw [he, h]; rfl)
  have hnone : ∀ k, own k = none → k < w.heap.size → own' k = none ∧ (w.setRow g (splice cur.toList (off + j) [ρ q]).toArray).heap[k]? = w.heap[k]? := fun k hk _ => ⟨by simp [own', hk], hoth k (by rw [hk]; simp)⟩
  refine does_skip hrun ⟨ρ, own', rfl, fun _ _ => rfl, trivial, ?_⟩
  refine HR.mono ?_ (fun i hi => .inl hi)
  refine hr.step (fun p => p = i ∨ p = q) (by simp) (by simp) (by simp) (by simp) (fun k hk hp' => ⟨hoth k (fun h => hp' i h (.inl rfl)), hkq k (fun h => hp' q h (.inr rfl))⟩) (fun _ _ => rfl) (fun _ h => h) (fun p hp' => ?_) (fun p ob' hp' => ?_) (fun p ob' hp' => ?_)
  · rcases hp' with rfl | rfl
    · exact ⟨_, by simp; rfl⟩
    · exact ⟨.no, by simp [List.lookup, show (p == i) = false by simpa using Ne.symm hiq']⟩
  · simp only [List.lookup] at hp'
    cases hpi : p == i with
    | true => exact .inl (by rw [show p = i by simpa using hpi]; exact ⟨_, hob'⟩)
    | false =>
      rw [hpi] at hp'
      cases hpq : p == q with
      | true => exact .inl (by rw [show p = q by simpa using hpq]; exact ⟨_, hoq'⟩)
      | false => rw [hpq] at hp'; cases hp'
  · simp only [List.lookup] at hp'
    cases hpi : p == i with
    | false =>
      rw [hpi] at hp'
      cases hpq : p == q with
      | false => rw [hpq] at hp'; cases hp'
      | true =>
        rw [hpq] at hp'
        obtain rfl : p = q := by simpa using hpq
        obtain rfl : Ob.no = ob' := by injection hp'
        exact ⟨trivial, hUq, trivial⟩
    | true =>
      rw [hpi] at hp'
      obtain rfl : p = i := by simpa using hpi
      obtain rfl : Ob.nest e e2 sz2 ((xs.set j ys).map (List.map enc)) none = ob' := by injection hp'
      have hat : ∀ j' v', (splice vs j [ρ q])[j']? = some v' → (j' = j ∧ v' = ρ q) ∨ (j' ≠ j ∧ vs[j']? = some v') := fun j' v' h => by
        rw [splice_get vs j [ρ q] (by simp; omega)] at h
        simp only [List.length_singleton] at h
        by_cases h1 : j' < j
        · rw [if_pos h1] at h; exact .inr ⟨by omega, h⟩
        · rw [if_neg h1] at h
          by_cases h2 : j' < j + 1
          · rw [if_pos h2] at h
            have : j' = j := by omega
            subst this
            simp at h
            exact .inl ⟨rfl, h.symm⟩
          · rw [if_neg h2] at h; exact .inr ⟨by omega, h⟩
      refine ⟨⟨splice vs j [ρ q], hN.pos, ?_, fun k hk => ?_, (fun j' b' hb => by cases hb), fun j' r v' hj' hv' _ => ?_, fun j1 j2 v1 v2 k hne _ _ hv1 hv2' hk1 hk2 => ?_⟩, hUi, (fun j' b' hb => by cases hb)⟩
      · have hlen : ((xs.set j ys).map (List.map enc)).length = xs.length := by simp
        refine ⟨by rw [splice_length _ _ _ (by simp; omega), hvl, hlen]; simp, .inr ⟨g, off, cap, _, by rw [he, hrl, hlen], setRow_heap w g cur _ e _ hheap, by rw [hlen]; omega, r2, ?_, ?_⟩⟩
        · rw [List.size_toArray, splice_length _ _ _ (by rw [hcur]; exact hfits), Array.length_toList]; exact r3
        · rw [hlen, ← r4, hrl]
          show ((splice cur.toList (off + j) [ρ q]).drop off).take _ = _
          rw [splice_drop _ _ _ _ (by rw [hcur]; omega)]
          exact splice_take _ _ _ _ (by simp; omega) (by rw [List.length_drop, hcur]; omega)
      · rw [hkq k (by rw [hN.blk k hk]; intro h; exact hiq' (Option.some.inj h))]
        exact hN.blk k hk
      · rcases hat j' v' hv' with ⟨rfl, rfl⟩ | ⟨hne, hv''⟩
        · have hr : r = ys.map enc := by
            rw [List.getElem?_map, List.getElem?_set_self (by omega)] at hj'
            simpa using hj'.symm
          subst hr
          refine ⟨cellsq, owns_same q1 (fun k hk => hoth k (by rw [q2 k hk]; intro h; exact hiq' (Option.some.inj h).symm)), q3.mono hnone, fun k hk => ⟨by simp [own', q2 k hk], fun h => ?_⟩⟩
          have h1 := hN.blk k h
          rw [q2 k hk] at h1
          exact hiq' (Option.some.inj h1).symm
        · have hr : (xs.map (List.map enc))[j']? = some r := by
            rw [List.getElem?_map, List.getElem?_set_ne (Ne.symm hne)] at hj'
            rw [List.getElem?_map]; exact hj'
          obtain ⟨cells', k1, k2, k3⟩ := hN.inn j' r v' hr hv'' (hhole j' hne)
          refine ⟨cells', owns_same k1 (fun k hk => setRow_other w g k _ (hne2 k (k3 k hk).2)), k2.mono hnone, fun k hk => ⟨?_, (k3 k hk).2⟩⟩
          rw [hkq k (by rw [(k3 k hk).1]; intro h; exact hiq' (Option.some.inj h))]
          exact (k3 k hk).1
      · have hown : ∀ j' v', j' ≠ j → vs[j']? = some v' → ∀ k, v'.ownBlock = some k → own k = some p := fun j' v' hne hv'' k hk => by
          have hj3 : j' < xs.length := by rw [← hvl]; exact (List.getElem?_eq_some_iff.1 hv'').1
          obtain ⟨cells', k1, k2, k3⟩ := hN.inn j' _ v' (by rw [List.getElem?_map, List.getElem?_eq_getElem hj3]; rfl) hv'' (hhole j' hne)
          exact (k3 k hk).1
        rcases hat j1 v1 hv1 with ⟨rfl, rfl⟩ | ⟨hne1, hv1'⟩
        · rcases hat j2 v2 hv2' with ⟨rfl, rfl⟩ | ⟨hne2', hv2''⟩
          · exact hne rfl
          · have h1 := hown j2 v2 hne2' hv2'' k hk2
            rw [q2 k hk1] at h1
            exact hiq' (Option.some.inj h1).symm
        · rcases hat j2 v2 hv2' with ⟨rfl, rfl⟩ | ⟨hne2', hv2''⟩
          · have h1 := hown j1 v1 hne1 hv1' k hk1
            rw [q2 k hk2] at h1
            exact hiq' (Option.some.inj h1).symm
          · exact hN.dis j1 j2 v1 v2 k hne (hhole j1 hne1) (hhole j2 hne2') hv1' hv2'' hk1 hk2
end
theorem Embs.nestE {o : List (Nat × Ob)} {σ : Nat → Nat} {c e e2 sz2 : Nat} {rows rows' : List (List (List Cell))} {l : List (Nat × Ob)} (h : o.lookup (σ c) = some (.nest e e2 sz2 rows' none)) (t : Embs o σ l) (he : rows' = rows) : Embs o σ ((c, .nest e e2 sz2 rows none) :: l) := .nest (by rw [h, he]) t
theorem Embs.lendNE {o : List (Nat × Ob)} {σ : Nat → Nat} {c e e2 sz2 : Nat} {rows : List (List Cell)} {rows' : List (List (List Cell))} {l : List (Nat × Ob)} (h : o.lookup (σ c) = some (.nest e e2 sz2 rows' none)) (t : Embs o σ l) (he : nestRows sz2 rows' = rows) : Embs o σ ((c, .fz 1 rows) :: l) := by
  subst he
  exact .lendN h t
theorem nestRows_eIs (xs : List (List Int)) : nestRows 1 (xs.map (List.map eI)) = xs.map eIs := by simp [nestRows, eIs, Function.comp_def]
theorem nestRows_eBs (xs : List (List Bool)) : nestRows 1 (xs.map (List.map eB)) = xs.map eBs := by simp [nestRows, eBs, Function.comp_def]
end Lg
end Go.Proofs.Ytpfhmodjjljpjaa

namespace Go.Proofs.Ytpfhmodjjljpjaa
open Go.RowKit
namespace Lg

/-! ### Which block takes each in -/
def addTo (fr : List (List Int)) (n i : Int) : List (List Int) := fr.set n.toNat (fr.getD n.toNat default ++ [i])
def fromStep (reached : List Bool) (i : Nat) (fr : List (List Int)) (n : Int) : List (List Int) := if reached.getD i default = true then addTo fr n i else fr
def fromRow (next : List (List Int)) (reached : List Bool) (fr : List (List Int)) (i : Nat) : List (List Int) := (next.getD i default).foldl (fromStep reached i) fr
def fromAll (next : List (List Int)) (reached : List Bool) (nb m : Nat) : List (List Int) := (List.range m).foldl (fromRow next reached) (List.replicate nb [])
def takenAt (f : GFn) (reached : List Bool) (fr : List (List Int)) (i : Nat) : Int :=
  if 0 < i ∧ reached.getD i default = true ∧ (fr.getD i default).length = 1 ∧ ¬ (fr.getD i default).getD 0 default = (i : Int) ∧ (blk f ((fr.getD i default).getD 0 default)).fin = 1 then (fr.getD i default).getD 0 default else -1

theorem addTo_length (fr : List (List Int)) (n i : Int) : (addTo fr n i).length = fr.length := by simp [addTo]
theorem fromStep_length (reached : List Bool) (i : Nat) (fr : List (List Int)) (n : Int) : (fromStep reached i fr n).length = fr.length := by
  unfold fromStep; split
  · exact addTo_length _ _ _
  · rfl
theorem foldl_length {β : Type} (g : List (List Int) → β → List (List Int)) (h : ∀ fr x, (g fr x).length = fr.length) : ∀ (l : List β) (fr : List (List Int)), (l.foldl g fr).length = fr.length
  | [], fr => rfl
  | x :: l, fr => by rw [List.foldl_cons, foldl_length g h l, h]
theorem fromRow_length (next : List (List Int)) (reached : List Bool) (fr : List (List Int)) (i : Nat) : (fromRow next reached fr i).length = fr.length := foldl_length _ (fromStep_length reached i) _ _
theorem fromAll_length (next : List (List Int)) (reached : List Bool) (nb m : Nat) : (fromAll next reached nb m).length = nb := by
  rw [fromAll, foldl_length _ (fromRow_length next reached)]; simp
theorem fromAll_succ (next : List (List Int)) (reached : List Bool) (nb m : Nat) : fromAll next reached nb (m + 1) = fromRow next reached (fromAll next reached nb m) m := by
  simp [fromAll, List.range_succ]
theorem foldl_take_succ {α β : Type} [Inhabited β] (g : α → β → α) (l : List β) (a : α) (j : Nat) (h : j < l.length) : (l.take (j + 1)).foldl g a = g ((l.take j).foldl g a) (l.getD j default) := by
  rw [take_succ_getD h]; simp
theorem step_bound {reached : List Bool} {j c : Nat} {fr : List (List Int)} {n : Int} (h : ∀ q ∈ fr, q.length ≤ c) : ∀ q ∈ fromStep reached j fr n, q.length ≤ c + 1 := fun q hq => by
  unfold fromStep at hq
  split at hq
  · unfold addTo at hq
    rcases List.mem_or_eq_of_mem_set hq with h1 | h1
    · have := h q h1; omega
    · subst h1
      rw [List.length_append, List.length_singleton]
      by_cases hn : n.toNat < fr.length
      · have := h _ (getD_mem (i := n.toNat) hn); omega
      · rw [List.getD_eq_getElem?_getD, List.getElem?_eq_none (by omega)]
        show 0 + 1 ≤ c + 1
        omega
  · have := h q hq; omega
theorem range_getD {n j : Nat} (h : j < n) : (List.range n).getD j default = j := by
  rw [List.getD_eq_getElem?_getD, List.getElem?_range h]; rfl
theorem row_step {F : Nat → Int} {n j : Nat} (h : j < n) {z : Int} (hz : z = F j) : (((List.range n).take j).map F ++ List.replicate (n - j) 0).set j z = ((List.range n).take (j + 1)).map F ++ List.replicate (n - (j + 1)) 0 :=
  fill_step F 0 (List.range n) j n (by simp) h z (by rw [range_getD h]; exact hz)
theorem fromStep_in {reached : List Bool} {j : Nat} {q : Int → Prop} {fr : List (List Int)} {n : Int} (hj : q (j : Int)) (h : ∀ l ∈ fr, ∀ x ∈ l, q x) : ∀ l ∈ fromStep reached j fr n, ∀ x ∈ l, q x := fun l hl x hx => by
  unfold fromStep at hl
  split at hl
  · unfold addTo at hl
    rcases List.mem_or_eq_of_mem_set hl with h1 | h1
    · exact h l h1 x hx
    · subst h1
      rcases List.mem_append.1 hx with h2 | h2
      · by_cases hn : n.toNat < fr.length
        · exact h _ (getD_mem (i := n.toNat) hn) x h2
        · rw [List.getD_eq_getElem?_getD, List.getElem?_eq_none (by omega)] at h2
          cases h2
      · have : x = (j : Int) := by simpa using h2
        rw [this]; exact hj
  · exact h l hl x hx
theorem fromAll_in (next : List (List Int)) (reached : List Bool) (nb : Nat) : ∀ (m : Nat), ∀ l ∈ fromAll next reached nb m, ∀ x ∈ l, 0 ≤ x ∧ x < (m : Int)
  | 0, l, hl, x, hx => by
    have : l = [] := (List.mem_replicate.1 (show l ∈ List.replicate nb [] from hl)).2
    subst this; cases hx
  | m + 1, l, hl, x, hx => by
    rw [fromAll_succ, fromRow] at hl
    have key : ∀ (k : List Int) (fr : List (List Int)), (∀ l ∈ fr, ∀ x ∈ l, 0 ≤ x ∧ x < ((m + 1 : Nat) : Int)) → ∀ l ∈ k.foldl (fromStep reached m) fr, ∀ x ∈ l, 0 ≤ x ∧ x < ((m + 1 : Nat) : Int) := by
      intro k
      induction k with
      | nil => exact fun fr h => h
      | cons n k ih => exact fun fr h => ih _ (fromStep_in (q := fun x => 0 ≤ x ∧ x < ((m + 1 : Nat) : Int)) ⟨by omega, by omega⟩ h)
    exact key _ _ (fun l hl x hx => by have := fromAll_in next reached nb m l hl x hx; omega) l hl x hx
end Lg
end Go.Proofs.Ytpfhmodjjljpjaa

namespace Go.Proofs.Ytpfhmodjjljpjaa
open Go.RowKit
namespace Lg
set_option maxRecDepth 100000
set_option linter.unusedVariables false
set_option linter.unusedSimpArgs false



theorem body112 : (Try.prog.funcs[112]?).map (fun fn => (fn.name == "runtime.NumGoroutine" || fn.body.isNone)) = some false := by kernel_rfl
theorem taken_spec (f : GFn) (next : List (List Int)) (reached : List Bool) (hb : f.blocks.length ≤ 1000000) (hn : next.length = f.blocks.length) (hr : reached.length = f.blocks.length) (M : Nat) (hM : M ≤ 1000000) (hnl : ∀ l ∈ next, l.length ≤ M) (hin : ∀ l ∈ next, ∀ i, i < l.length → 0 ≤ l.getD i default ∧ l.getD i default < (f.blocks.length : Int)) : Spec Try.prog 112 [.agg [.v (.int .i64 f.regs), .r 1], .r 2, .r 3] 4 [(1, .fz 5 (f.blocks.map eBlock)), (2, .fz 1 (next.map eIs)), (3, .fz 1 (reached.map eB))] (.r 4) 5 [(4, .row 3 1 (((List.range f.blocks.length).map (takenAt f reached (fromAll next reached f.blocks.length next.length))).map eI))] := by
  refine spec_of D (fn := Try.f112) rfl rfl (Nat.le_of_ble_eq_true rfl) ?_
  refine W_seq ?_
  refine W_seqK (b' := 36) rfl rfl ?_
  refine k_op1 (d := 3) (b := 4) (j' := 1) rfl rfl rfl rfl (.plain rfl) (T_box rfl rfl flat_agg) rfl ?_
  refine k_op1 (d := 6) (b := 20) (j' := 2) rfl rfl rfl rfl (.plain rfl) (T_nils [(3, 1)] (T_assign rfl rfl) rfl (.inr ⟨rfl, rfl⟩) (.cons (.nil rfl) .nil) (lv' := .r 20) (upd' := [(20, .row 3 1 (List.map eI ([] : List (Int))))]) (nn' := 1) rfl rfl) rfl ?_
  refine k_done rfl ?_
  refine thenK_n ?_
  refine W_seq ?_
  refine W_seqK (b' := 116) rfl rfl ?_
  refine k_op0 (d := 15) (b := 36) (j' := 1) rfl rfl rfl rfl (.plain rfl) (T_fa D (m := 1) rfl rfl rfl rfl rfl rfl) rfl ?_
  refine k_op0 (d := 16) (b := 52) (j' := 2) rfl rfl rfl rfl (.plain rfl) (T_load_b D rfl rfl rfl rfl rfl rfl) rfl ?_
  refine k_op0 (d := 17) (b := 68) (j' := 3) rfl rfl rfl rfl (.plain rfl) (T_len D rfl rfl rfl rfl rfl rfl) rfl ?_
  refine k_op1 (d := 18) (b := 84) (j' := 4) rfl rfl rfl rfl (.plain rfl) (T_makeN D (e2 := 3) (sz2 := 1) rfl rfl rfl rfl rfl rfl rfl rfl (by simp) (by (try simp only [ty52]); first | assumption | omega | (simp only [List.length_append, List.length_map, List.length_take, List.length_range, List.length_replicate, List.length_set]; omega) | (have k1 := hfi j (by omega) (by omega); first | exact k1.1 | exact k1.2 | exact (Int.toNat_lt k1.1).2 k1.2 | omega) | (have k1 := hq (by omega); omega) | (have k0 := hq (by omega); have k1 := hqb ((next.getD j default).getD i default).toNat (by omega); simp only [List.length_cons, List.length_nil]; omega)) (by (try simp only [ty52]); first | assumption | omega | (simp only [List.length_append, List.length_map, List.length_take, List.length_range, List.length_replicate, List.length_set]; omega) | (have k1 := hfi j (by omega) (by omega); first | exact k1.1 | exact k1.2 | exact (Int.toNat_lt k1.1).2 k1.2 | omega) | (have k1 := hq (by omega); omega) | (have k0 := hq (by omega); have k1 := hqb ((next.getD j default).getD i default).toNat (by omega); simp only [List.length_cons, List.length_nil]; omega))) rfl ?_
  refine k_op0 (d := 7) (b := 100) (j' := 5) rfl rfl rfl rfl (.plain rfl) (T_assign rfl rfl) rfl ?_
  refine k_done rfl ?_
  refine thenK_n ?_
  refine W_seq ?_
  refine W_seq ?_
  refine W_seqK (b' := 164) rfl rfl ?_
  refine k_op0 (d := 19) (b := 116) (j' := 1) rfl rfl rfl rfl (.plain rfl) (T_move rfl rfl) rfl ?_
  refine k_op0 (d := 20) (b := 132) (j' := 2) rfl rfl rfl rfl (.plain rfl) (T_len D rfl rfl rfl rfl rfl rfl) rfl ?_
  refine k_op0 (d := 21) (b := 148) (j' := 3) rfl rfl rfl rfl (.plain rfl) (T_move rfl rfl) rfl ?_
  refine k_done rfl ?_
  refine thenK_n ?_
  refine W_block ?_
  refine W_loop (ι := Nat) 6 (fun j => ⟨[(2, .r 3), (3, .p 4 0), (7, .r 5), (19, .r 2), (20, .v (.int .i64 (next.length : Int))), (21, .v (.int .i64 (j : Int)))], [(1, .fz 5 (f.blocks.map eBlock)), (2, .fz 1 (next.map eIs)), (3, .fz 1 (reached.map eB)), (4, .box 29 [.v (.int .i64 f.regs), .r 1]), (5, .nest 52 3 1 ((fromAll next reached f.blocks.length j).map (List.map eI)) none)]⟩) (fun j => j ≤ next.length ∧ ∀ l ∈ fromAll next reached f.blocks.length j, l.length ≤ j * M) (fun j => next.length - j) (0) (by exact ⟨Nat.zero_le _, fun l h => by simp [fromAll] at h; simp [h.2]⟩) ?_ (fun j hJ => ?_)
  · exact ⟨[(4, 4), (5, 84)], .same rfl rfl (.same rfl rfl (.same rfl rfl (.same rfl rfl (.eq rfl (.eq rfl (.nil) (by first | rfl | simp [fromAll])) (by first | rfl | simp [fromAll]))))), .fzE rfl (.fzE rfl (.fzE rfl (.box (by first | rfl | simp [fromAll]) (.nestE rfl (.nil) (by first | rfl | simp [fromAll]))) (by first | rfl | simp [fromAll])) (by first | rfl | simp [fromAll])) (by first | rfl | simp [fromAll]), rfl⟩
  have hfl := fromAll_length next reached f.blocks.length j
  have hs := fromAll_succ next reached f.blocks.length j
  refine W_seq ?_
  refine W_seqK (b' := 22) rfl rfl ?_
  refine k_op0 (d := 22) (b := 6) (j' := 1) rfl rfl rfl rfl (.plain rfl) (T_cmp rfl rfl rfl rfl) rfl ?_
  refine k_done rfl ?_
  refine thenK_n ?_
  refine W_seq ?_
  refine W_cond rfl (fun g1 => ?_) (fun g1 => ?_)
  · have h1 := g1; (try simp only [cmpB, decide_eq_true_eq, decide_eq_false_iff_not, beq_iff_eq, beq_eq_false_iff_ne, bne_iff_ne, ne_eq, bne_eq_false_iff_eq, Bool.not_eq_true', Bool.not_eq_false', Int.not_lt, Int.not_le] at h1)
    refine W_skip ?_
    refine thenK_n ?_
    refine W_seq ?_
    refine W_block ?_
    refine W_seq ?_
    refine W_seqK (b' := 102) rfl rfl ?_
    refine k_op0 (d := 23) (b := 22) (j' := 1) rfl rfl rfl rfl (.plain rfl) (T_move rfl rfl) rfl ?_
    first | refine k_op0 (d := 24) (b := 38) (j' := 2) rfl rfl rfl rfl (.plain rfl) (T_indexAddr D rfl rfl rfl rfl rfl rfl rfl rfl (by first | assumption | omega | (simp only [List.length_append, List.length_map, List.length_take, List.length_range, List.length_replicate, List.length_set]; omega) | (have k1 := hfi j (by omega) (by omega); first | exact k1.1 | exact k1.2 | exact (Int.toNat_lt k1.1).2 k1.2 | omega) | (have k1 := hq (by omega); omega) | (have k0 := hq (by omega); have k1 := hqb ((next.getD j default).getD i default).toNat (by omega); simp only [List.length_cons, List.length_nil]; omega))) rfl ?_ | refine k_op0 (d := 24) (b := 38) (j' := 2) rfl rfl rfl rfl (.plain rfl) (T_indexAddrZ D rfl rfl rfl rfl rfl rfl rfl rfl (by first | assumption | omega | (simp only [List.length_append, List.length_map, List.length_take, List.length_range, List.length_replicate, List.length_set]; omega) | (have k1 := hfi j (by omega) (by omega); first | exact k1.1 | exact k1.2 | exact (Int.toNat_lt k1.1).2 k1.2 | omega) | (have k1 := hq (by omega); omega) | (have k0 := hq (by omega); have k1 := hqb ((next.getD j default).getD i default).toNat (by omega); simp only [List.length_cons, List.length_nil]; omega)) (by first | assumption | omega | (simp only [List.length_append, List.length_map, List.length_take, List.length_range, List.length_replicate, List.length_set]; omega) | (have k1 := hfi j (by omega) (by omega); first | exact k1.1 | exact k1.2 | exact (Int.toNat_lt k1.1).2 k1.2 | omega) | (have k1 := hq (by omega); omega) | (have k0 := hq (by omega); have k1 := hqb ((next.getD j default).getD i default).toNat (by omega); simp only [List.length_cons, List.length_nil]; omega))) rfl ?_
    refine k_op1 (d := 25) (b := 54) (j' := 3) rfl rfl rfl rfl (.plain rfl) (T_ldE D (lv := .r 54) (nn := 1) (upd := [(54, .fz 1 _)]) rfl rfl rfl rfl rfl (by first | assumption | omega | (simp only [List.length_append, List.length_map, List.length_take, List.length_range, List.length_replicate, List.length_set]; omega) | (have k1 := hfi j (by omega) (by omega); first | exact k1.1 | exact k1.2 | exact (Int.toNat_lt k1.1).2 k1.2 | omega) | (have k1 := hq (by omega); omega) | (have k0 := hq (by omega); have k1 := hqb ((next.getD j default).getD i default).toNat (by omega); simp only [List.length_cons, List.length_nil]; omega)) rfl rfl rfl rfl) rfl ?_
    refine k_op0 (d := 8) (b := 70) (j' := 4) rfl rfl rfl rfl (.plain rfl) (T_assign rfl rfl) rfl ?_
    refine k_op0 (d := 9) (b := 86) (j' := 5) rfl rfl rfl rfl (.plain rfl) (T_assign rfl rfl) rfl ?_
    refine k_done rfl ?_
    refine thenK_n ?_
    refine W_seq ?_
    refine W_seqK (b' := 150) rfl rfl ?_
    refine k_op0 (d := 26) (b := 102) (j' := 1) rfl rfl rfl rfl (.plain rfl) (T_move rfl rfl) rfl ?_
    refine k_op0 (d := 27) (b := 118) (j' := 2) rfl rfl rfl rfl (.plain rfl) (T_len D rfl rfl rfl rfl rfl rfl) rfl ?_
    refine k_op0 (d := 28) (b := 134) (j' := 3) rfl rfl rfl rfl (.plain rfl) (T_move rfl rfl) rfl ?_
    refine k_done rfl ?_
    refine thenK_n ?_
    refine W_block ?_
    have hlj := hnl (next.getD j default) (getD_mem (by omega))
    have hinj := hin (next.getD j default) (getD_mem (by omega))
    refine W_loop (ι := Nat) 7 (fun i => ⟨[(2, .r 3), (3, .p 4 0), (7, .r 5), (8, .v (.int .i64 (j : Int))), (19, .r 2), (20, .v (.int .i64 (next.length : Int))), (21, .v (.int .i64 (j : Int))), (26, .r 6), (27, .v (.int .i64 ((next.getD j default).length : Int))), (28, .v (.int .i64 (i : Int)))], [(1, .fz 5 (f.blocks.map eBlock)), (2, .fz 1 (next.map eIs)), (3, .fz 1 (reached.map eB)), (4, .box 29 [.v (.int .i64 f.regs), .r 1]), (5, .nest 52 3 1 ((((next.getD j default).take i).foldl (fromStep reached j) (fromAll next reached f.blocks.length j)).map (List.map eI)) none), (6, .fz 1 ((next.getD j default).map eI))]⟩) (fun i => i ≤ (next.getD j default).length ∧ ∀ q ∈ (((next.getD j default).take i).foldl (fromStep reached j) (fromAll next reached f.blocks.length j)), q.length ≤ j * M + i) (fun i => (next.getD j default).length - i) (0) (by exact ⟨Nat.zero_le _, fun q h => Nat.le_trans (hJ.2 q h) (Nat.le_add_right _ _)⟩) ?_ (fun i hI => ?_)
    · exact ⟨[(4, 4), (5, 5), (6, 54)], .same rfl rfl (.same rfl rfl (.same rfl rfl (.eq rfl (.same rfl rfl (.eq rfl (.eq rfl (.same rfl rfl (.eq rfl (.eq rfl (.nil) (by first | rfl | simp)) (by first | rfl | simp))) (by first | rfl | simp)) (by first | rfl | simp))) (by first | rfl | simp)))), .fzE rfl (.fzE rfl (.fzE rfl (.box (by first | rfl | simp) (.nestE rfl (.fzE rfl (.nil) (by first | rfl | simp)) (by first | rfl | simp))) (by first | rfl | simp)) (by first | rfl | simp)) (by first | rfl | simp), rfl⟩
    have hjM : j * M ≤ 1000000 * 1000000 := Nat.mul_le_mul (by omega) hM
    have hcl : (((next.getD j default).take i).foldl (fromStep reached j) (fromAll next reached f.blocks.length j)).length = f.blocks.length := by rw [foldl_length _ (fromStep_length reached j), hfl]
    have hst := fun h => foldl_take_succ (fromStep reached j) (next.getD j default) (fromAll next reached f.blocks.length j) i h
    have hq := hinj i
    have hqb : ∀ m, m < (((next.getD j default).take i).foldl (fromStep reached j) (fromAll next reached f.blocks.length j)).length → ((((next.getD j default).take i).foldl (fromStep reached j) (fromAll next reached f.blocks.length j)).getD m default).length ≤ j * M + i := fun m hm => hI.2 _ (getD_mem hm)
    refine W_seq ?_
    refine W_seqK (b' := 23) rfl rfl ?_
    refine k_op0 (d := 29) (b := 7) (j' := 1) rfl rfl rfl rfl (.plain rfl) (T_cmp rfl rfl rfl rfl) rfl ?_
    refine k_done rfl ?_
    refine thenK_n ?_
    refine W_seq ?_
    refine W_cond rfl (fun g2 => ?_) (fun g2 => ?_)
    · have h2 := g2; (try simp only [cmpB, decide_eq_true_eq, decide_eq_false_iff_not, beq_iff_eq, beq_eq_false_iff_ne, bne_iff_ne, ne_eq, bne_eq_false_iff_eq, Bool.not_eq_true', Bool.not_eq_false', Int.not_lt, Int.not_le] at h2)
      refine W_skip ?_
      refine thenK_n ?_
      refine W_seq ?_
      refine W_block ?_
      refine W_seq ?_
      refine W_seqK (b' := 71) rfl rfl ?_
      first | refine k_op0 (d := 30) (b := 23) (j' := 1) rfl rfl rfl rfl (.plain rfl) (T_indexAddr D rfl rfl rfl rfl rfl rfl rfl rfl (by first | assumption | omega | (simp only [List.length_append, List.length_map, List.length_take, List.length_range, List.length_replicate, List.length_set]; omega) | (have k1 := hfi j (by omega) (by omega); first | exact k1.1 | exact k1.2 | exact (Int.toNat_lt k1.1).2 k1.2 | omega) | (have k1 := hq (by omega); omega) | (have k0 := hq (by omega); have k1 := hqb ((next.getD j default).getD i default).toNat (by omega); simp only [List.length_cons, List.length_nil]; omega))) rfl ?_ | refine k_op0 (d := 30) (b := 23) (j' := 1) rfl rfl rfl rfl (.plain rfl) (T_indexAddrZ D rfl rfl rfl rfl rfl rfl rfl rfl (by first | assumption | omega | (simp only [List.length_append, List.length_map, List.length_take, List.length_range, List.length_replicate, List.length_set]; omega) | (have k1 := hfi j (by omega) (by omega); first | exact k1.1 | exact k1.2 | exact (Int.toNat_lt k1.1).2 k1.2 | omega) | (have k1 := hq (by omega); omega) | (have k0 := hq (by omega); have k1 := hqb ((next.getD j default).getD i default).toNat (by omega); simp only [List.length_cons, List.length_nil]; omega)) (by first | assumption | omega | (simp only [List.length_append, List.length_map, List.length_take, List.length_range, List.length_replicate, List.length_set]; omega) | (have k1 := hfi j (by omega) (by omega); first | exact k1.1 | exact k1.2 | exact (Int.toNat_lt k1.1).2 k1.2 | omega) | (have k1 := hq (by omega); omega) | (have k0 := hq (by omega); have k1 := hqb ((next.getD j default).getD i default).toNat (by omega); simp only [List.length_cons, List.length_nil]; omega))) rfl ?_
      refine k_op0 (d := 31) (b := 39) (j' := 2) rfl rfl rfl rfl (.plain rfl) (T_ldE D (lv := .v _) (nn := 0) (upd := []) rfl rfl rfl rfl rfl (by first | assumption | omega | (simp only [List.length_append, List.length_map, List.length_take, List.length_range, List.length_replicate, List.length_set]; omega) | (have k1 := hfi j (by omega) (by omega); first | exact k1.1 | exact k1.2 | exact (Int.toNat_lt k1.1).2 k1.2 | omega) | (have k1 := hq (by omega); omega) | (have k0 := hq (by omega); have k1 := hqb ((next.getD j default).getD i default).toNat (by omega); simp only [List.length_cons, List.length_nil]; omega)) rfl rfl rfl rfl) rfl ?_
      refine k_op0 (d := 11) (b := 55) (j' := 3) rfl rfl rfl rfl (.plain rfl) (T_assign rfl rfl) rfl ?_
      refine k_done rfl ?_
      refine thenK_n ?_
      refine W_seq ?_
      refine W_seqK (b' := 135) rfl rfl ?_
      refine k_op0 (d := 32) (b := 71) (j' := 1) rfl rfl rfl rfl (.plain rfl) (T_move rfl rfl) rfl ?_
      refine k_op0 (d := 33) (b := 87) (j' := 2) rfl rfl rfl rfl (.plain rfl) (T_move rfl rfl) rfl ?_
      first | refine k_op0 (d := 34) (b := 103) (j' := 3) rfl rfl rfl rfl (.plain rfl) (T_indexAddr D rfl rfl rfl rfl rfl rfl rfl rfl (by first | assumption | omega | (simp only [List.length_append, List.length_map, List.length_take, List.length_range, List.length_replicate, List.length_set]; omega) | (have k1 := hfi j (by omega) (by omega); first | exact k1.1 | exact k1.2 | exact (Int.toNat_lt k1.1).2 k1.2 | omega) | (have k1 := hq (by omega); omega) | (have k0 := hq (by omega); have k1 := hqb ((next.getD j default).getD i default).toNat (by omega); simp only [List.length_cons, List.length_nil]; omega))) rfl ?_ | refine k_op0 (d := 34) (b := 103) (j' := 3) rfl rfl rfl rfl (.plain rfl) (T_indexAddrZ D rfl rfl rfl rfl rfl rfl rfl rfl (by first | assumption | omega | (simp only [List.length_append, List.length_map, List.length_take, List.length_range, List.length_replicate, List.length_set]; omega) | (have k1 := hfi j (by omega) (by omega); first | exact k1.1 | exact k1.2 | exact (Int.toNat_lt k1.1).2 k1.2 | omega) | (have k1 := hq (by omega); omega) | (have k0 := hq (by omega); have k1 := hqb ((next.getD j default).getD i default).toNat (by omega); simp only [List.length_cons, List.length_nil]; omega)) (by first | assumption | omega | (simp only [List.length_append, List.length_map, List.length_take, List.length_range, List.length_replicate, List.length_set]; omega) | (have k1 := hfi j (by omega) (by omega); first | exact k1.1 | exact k1.2 | exact (Int.toNat_lt k1.1).2 k1.2 | omega) | (have k1 := hq (by omega); omega) | (have k0 := hq (by omega); have k1 := hqb ((next.getD j default).getD i default).toNat (by omega); simp only [List.length_cons, List.length_nil]; omega))) rfl ?_
      refine k_op0 (d := 35) (b := 119) (j' := 4) rfl rfl rfl rfl (.plain rfl) (T_ldE D (lv := .v _) (nn := 0) (upd := []) rfl rfl rfl rfl rfl (by first | assumption | omega | (simp only [List.length_append, List.length_map, List.length_take, List.length_range, List.length_replicate, List.length_set]; omega) | (have k1 := hfi j (by omega) (by omega); first | exact k1.1 | exact k1.2 | exact (Int.toNat_lt k1.1).2 k1.2 | omega) | (have k1 := hq (by omega); omega) | (have k0 := hq (by omega); have k1 := hqb ((next.getD j default).getD i default).toNat (by omega); simp only [List.length_cons, List.length_nil]; omega)) rfl rfl rfl rfl) rfl ?_
      refine k_done rfl ?_
      refine thenK_n ?_
      refine W_cond rfl (fun g3 => ?_) (fun g3 => ?_)
      · have h3 := g3; (try simp only [cmpB, decide_eq_true_eq, decide_eq_false_iff_not, beq_iff_eq, beq_eq_false_iff_ne, bne_iff_ne, ne_eq, bne_eq_false_iff_eq, Bool.not_eq_true', Bool.not_eq_false', Int.not_lt, Int.not_le] at h3)
        refine W_seqK (b' := 311) rfl rfl ?_
        refine k_op0 (d := 36) (b := 135) (j' := 1) rfl rfl rfl rfl (.plain rfl) (T_move rfl rfl) rfl ?_
        refine k_op0 (d := 37) (b := 151) (j' := 2) rfl rfl rfl rfl (.plain rfl) (T_move rfl rfl) rfl ?_
        refine k_op0 (d := 38) (b := 167) (j' := 3) rfl rfl rfl rfl (.plain rfl) (T_move rfl rfl) rfl ?_
        refine k_op0 (d := 39) (b := 183) (j' := 4) rfl rfl rfl rfl (.plain rfl) (T_move rfl rfl) rfl ?_
        refine k_op0 (d := 40) (b := 199) (j' := 5) rfl rfl rfl rfl (.plain rfl) (T_indexAddrN D rfl rfl rfl rfl rfl rfl rfl rfl (by first | assumption | omega | (simp only [List.length_append, List.length_map, List.length_take, List.length_range, List.length_replicate, List.length_set]; omega) | (have k1 := hfi j (by omega) (by omega); first | exact k1.1 | exact k1.2 | exact (Int.toNat_lt k1.1).2 k1.2 | omega) | (have k1 := hq (by omega); omega) | (have k0 := hq (by omega); have k1 := hqb ((next.getD j default).getD i default).toNat (by omega); simp only [List.length_cons, List.length_nil]; omega)) (by first | assumption | omega | (simp only [List.length_append, List.length_map, List.length_take, List.length_range, List.length_replicate, List.length_set]; omega) | (have k1 := hfi j (by omega) (by omega); first | exact k1.1 | exact k1.2 | exact (Int.toNat_lt k1.1).2 k1.2 | omega) | (have k1 := hq (by omega); omega) | (have k0 := hq (by omega); have k1 := hqb ((next.getD j default).getD i default).toNat (by omega); simp only [List.length_cons, List.length_nil]; omega))) rfl ?_
        refine k_opn (d := 41) (b := 215) (j' := 6) rfl rfl rfl rfl (.plain rfl) (T_ldN D rfl rfl rfl rfl rfl (by first | assumption | omega | (simp only [List.length_append, List.length_map, List.length_take, List.length_range, List.length_replicate, List.length_set]; omega) | (have k1 := hfi j (by omega) (by omega); first | exact k1.1 | exact k1.2 | exact (Int.toNat_lt k1.1).2 k1.2 | omega) | (have k1 := hq (by omega); omega) | (have k0 := hq (by omega); have k1 := hqb ((next.getD j default).getD i default).toNat (by omega); simp only [List.length_cons, List.length_nil]; omega))) rfl ?_
        refine k_op0 (d := 42) (b := 231) (j' := 7) rfl rfl rfl rfl (.plain rfl) (T_move rfl rfl) rfl ?_
        refine k_op1 (d := 43) (b := 247) (j' := 8) rfl rfl rfl rfl (.plain rfl) (T_bs D (ys := [_]) (enc := eI) (l := [_]) rfl rfl rfl rfl rfl rfl (.cons rfl (flat_v rfl) (.nil)) rfl rfl rfl rfl (.v rfl (.nil)) rfl rfl) rfl ?_
        refine k_opn (d := 44) (b := 263) (j' := 9) rfl rfl rfl rfl (.plain rfl) (T_append D rfl rfl rfl rfl rfl rfl rfl rfl rfl rfl rfl rfl (by (try simp only [ty3]); first | assumption | omega | (simp only [List.length_append, List.length_map, List.length_take, List.length_range, List.length_replicate, List.length_set]; omega) | (have k1 := hfi j (by omega) (by omega); first | exact k1.1 | exact k1.2 | exact (Int.toNat_lt k1.1).2 k1.2 | omega) | (have k1 := hq (by omega); omega) | (have k0 := hq (by omega); have k1 := hqb ((next.getD j default).getD i default).toNat (by omega); simp only [List.length_cons, List.length_nil]; omega)) (by (try simp only [ty3]); first | assumption | omega | (simp only [List.length_append, List.length_map, List.length_take, List.length_range, List.length_replicate, List.length_set]; omega) | (have k1 := hfi j (by omega) (by omega); first | exact k1.1 | exact k1.2 | exact (Int.toNat_lt k1.1).2 k1.2 | omega) | (have k1 := hq (by omega); omega) | (have k0 := hq (by omega); have k1 := hqb ((next.getD j default).getD i default).toNat (by omega); simp only [List.length_cons, List.length_nil]; omega))) rfl ?_
        refine k_op0 (d := 45) (b := 279) (j' := 10) rfl rfl rfl rfl (.plain rfl) (T_indexAddrN D rfl rfl rfl rfl rfl rfl rfl rfl (by first | assumption | omega | (simp only [List.length_append, List.length_map, List.length_take, List.length_range, List.length_replicate, List.length_set]; omega) | (have k1 := hfi j (by omega) (by omega); first | exact k1.1 | exact k1.2 | exact (Int.toNat_lt k1.1).2 k1.2 | omega) | (have k1 := hq (by omega); omega) | (have k0 := hq (by omega); have k1 := hqb ((next.getD j default).getD i default).toNat (by omega); simp only [List.length_cons, List.length_nil]; omega)) (by first | assumption | omega | (simp only [List.length_append, List.length_map, List.length_take, List.length_range, List.length_replicate, List.length_set]; omega) | (have k1 := hfi j (by omega) (by omega); first | exact k1.1 | exact k1.2 | exact (Int.toNat_lt k1.1).2 k1.2 | omega) | (have k1 := hq (by omega); omega) | (have k0 := hq (by omega); have k1 := hqb ((next.getD j default).getD i default).toNat (by omega); simp only [List.length_cons, List.length_nil]; omega))) rfl ?_
        refine k_stn (b := 295) (j' := 11) rfl rfl rfl rfl (.plain rfl) (T_stN D rfl rfl rfl rfl rfl rfl rfl rfl (by first | assumption | omega | (simp only [List.length_append, List.length_map, List.length_take, List.length_range, List.length_replicate, List.length_set]; omega) | (have k1 := hfi j (by omega) (by omega); first | exact k1.1 | exact k1.2 | exact (Int.toNat_lt k1.1).2 k1.2 | omega) | (have k1 := hq (by omega); omega) | (have k0 := hq (by omega); have k1 := hqb ((next.getD j default).getD i default).toNat (by omega); simp only [List.length_cons, List.length_nil]; omega)) (.inr ⟨_, rfl⟩)) rfl ?_
        refine k_done rfl ?_
        refine blockK_n ?_
        refine thenK_n ?_
        refine W_seqK (b' := 343) rfl rfl ?_
        refine k_op0 (d := 46) (b := 311) (j' := 1) rfl rfl rfl rfl (.plain rfl) (T_add64 rfl rfl rfl (by first | assumption | omega | (simp only [List.length_append, List.length_map, List.length_take, List.length_range, List.length_replicate, List.length_set]; omega) | (have k1 := hfi j (by omega) (by omega); first | exact k1.1 | exact k1.2 | exact (Int.toNat_lt k1.1).2 k1.2 | omega) | (have k1 := hq (by omega); omega) | (have k0 := hq (by omega); have k1 := hqb ((next.getD j default).getD i default).toNat (by omega); simp only [List.length_cons, List.length_nil]; omega))) rfl ?_
        refine k_op0 (d := 28) (b := 327) (j' := 2) rfl rfl rfl rfl (.plain rfl) (T_move rfl rfl) rfl ?_
        refine k_done rfl ?_
        refine thenK_n ?_
        refine ⟨i + 1, by (try dsimp only); exact ⟨by omega, fun q h => by rw [hst (by omega)] at h; have h2 := step_bound hI.2 q h; omega⟩, by (try dsimp only); omega, ?_⟩
        exact ⟨[(4, 4), (5, 5), (6, 6)], .same rfl rfl (.same rfl rfl (.same rfl rfl (.eq rfl (.same rfl rfl (.eq rfl (.eq rfl (.same rfl rfl (.eq rfl (.eq rfl (.nil) (by first | rfl | (rw [hst (by omega), fromStep, if_pos (by assumption)]; rfl) | (rw [hst (by omega), fromStep, if_neg (by intro hc; simp_all [-List.getD_eq_getElem?_getD])]))) (by first | rfl | (rw [hst (by omega), fromStep, if_pos (by assumption)]; rfl) | (rw [hst (by omega), fromStep, if_neg (by intro hc; simp_all [-List.getD_eq_getElem?_getD])])))) (by first | rfl | (rw [hst (by omega), fromStep, if_pos (by assumption)]; rfl) | (rw [hst (by omega), fromStep, if_neg (by intro hc; simp_all [-List.getD_eq_getElem?_getD])]))) (by first | rfl | (rw [hst (by omega), fromStep, if_pos (by assumption)]; rfl) | (rw [hst (by omega), fromStep, if_neg (by intro hc; simp_all [-List.getD_eq_getElem?_getD])])))) (by first | rfl | (rw [hst (by omega), fromStep, if_pos (by assumption)]; rfl) | (rw [hst (by omega), fromStep, if_neg (by intro hc; simp_all [-List.getD_eq_getElem?_getD])]))))), .fzE rfl (.fzE rfl (.fzE rfl (.box (by first | rfl | (rw [hst (by omega), fromStep, if_pos (by assumption)]; rfl) | (rw [hst (by omega), fromStep, if_neg (by intro hc; simp_all [-List.getD_eq_getElem?_getD])])) (.nestE rfl (.fzE rfl (.nil) (by first | rfl | (rw [hst (by omega), fromStep, if_pos (by assumption)]; rfl) | (rw [hst (by omega), fromStep, if_neg (by intro hc; simp_all [-List.getD_eq_getElem?_getD])]))) (by first | rfl | (rw [hst (by omega), fromStep, if_pos (by assumption)]; rfl) | (rw [hst (by omega), fromStep, if_neg (by intro hc; simp_all [-List.getD_eq_getElem?_getD])])))) (by first | rfl | (rw [hst (by omega), fromStep, if_pos (by assumption)]; rfl) | (rw [hst (by omega), fromStep, if_neg (by intro hc; simp_all [-List.getD_eq_getElem?_getD])]))) (by first | rfl | (rw [hst (by omega), fromStep, if_pos (by assumption)]; rfl) | (rw [hst (by omega), fromStep, if_neg (by intro hc; simp_all [-List.getD_eq_getElem?_getD])]))) (by first | rfl | (rw [hst (by omega), fromStep, if_pos (by assumption)]; rfl) | (rw [hst (by omega), fromStep, if_neg (by intro hc; simp_all [-List.getD_eq_getElem?_getD])])), rfl⟩
      · have h3 := g3; (try simp only [cmpB, decide_eq_true_eq, decide_eq_false_iff_not, beq_iff_eq, beq_eq_false_iff_ne, bne_iff_ne, ne_eq, bne_eq_false_iff_eq, Bool.not_eq_true', Bool.not_eq_false', Int.not_lt, Int.not_le] at h3)
        refine W_skip ?_
        refine blockK_n ?_
        refine thenK_n ?_
        refine W_seqK (b' := 167) rfl rfl ?_
        refine k_op0 (d := 46) (b := 135) (j' := 1) rfl rfl rfl rfl (.plain rfl) (T_add64 rfl rfl rfl (by first | assumption | omega | (simp only [List.length_append, List.length_map, List.length_take, List.length_range, List.length_replicate, List.length_set]; omega) | (have k1 := hfi j (by omega) (by omega); first | exact k1.1 | exact k1.2 | exact (Int.toNat_lt k1.1).2 k1.2 | omega) | (have k1 := hq (by omega); omega) | (have k0 := hq (by omega); have k1 := hqb ((next.getD j default).getD i default).toNat (by omega); simp only [List.length_cons, List.length_nil]; omega))) rfl ?_
        refine k_op0 (d := 28) (b := 151) (j' := 2) rfl rfl rfl rfl (.plain rfl) (T_move rfl rfl) rfl ?_
        refine k_done rfl ?_
        refine thenK_n ?_
        refine ⟨i + 1, by (try dsimp only); exact ⟨by omega, fun q h => by rw [hst (by omega)] at h; have h2 := step_bound hI.2 q h; omega⟩, by (try dsimp only); omega, ?_⟩
        exact ⟨[(4, 4), (5, 5), (6, 6)], .same rfl rfl (.same rfl rfl (.same rfl rfl (.eq rfl (.same rfl rfl (.eq rfl (.eq rfl (.same rfl rfl (.eq rfl (.eq rfl (.nil) (by first | rfl | (rw [hst (by omega), fromStep, if_pos (by assumption)]; rfl) | (rw [hst (by omega), fromStep, if_neg (by intro hc; simp_all [-List.getD_eq_getElem?_getD])]))) (by first | rfl | (rw [hst (by omega), fromStep, if_pos (by assumption)]; rfl) | (rw [hst (by omega), fromStep, if_neg (by intro hc; simp_all [-List.getD_eq_getElem?_getD])])))) (by first | rfl | (rw [hst (by omega), fromStep, if_pos (by assumption)]; rfl) | (rw [hst (by omega), fromStep, if_neg (by intro hc; simp_all [-List.getD_eq_getElem?_getD])]))) (by first | rfl | (rw [hst (by omega), fromStep, if_pos (by assumption)]; rfl) | (rw [hst (by omega), fromStep, if_neg (by intro hc; simp_all [-List.getD_eq_getElem?_getD])])))) (by first | rfl | (rw [hst (by omega), fromStep, if_pos (by assumption)]; rfl) | (rw [hst (by omega), fromStep, if_neg (by intro hc; simp_all [-List.getD_eq_getElem?_getD])]))))), .fzE rfl (.fzE rfl (.fzE rfl (.box (by first | rfl | (rw [hst (by omega), fromStep, if_pos (by assumption)]; rfl) | (rw [hst (by omega), fromStep, if_neg (by intro hc; simp_all [-List.getD_eq_getElem?_getD])])) (.nestE rfl (.fzE rfl (.nil) (by first | rfl | (rw [hst (by omega), fromStep, if_pos (by assumption)]; rfl) | (rw [hst (by omega), fromStep, if_neg (by intro hc; simp_all [-List.getD_eq_getElem?_getD])]))) (by first | rfl | (rw [hst (by omega), fromStep, if_pos (by assumption)]; rfl) | (rw [hst (by omega), fromStep, if_neg (by intro hc; simp_all [-List.getD_eq_getElem?_getD])])))) (by first | rfl | (rw [hst (by omega), fromStep, if_pos (by assumption)]; rfl) | (rw [hst (by omega), fromStep, if_neg (by intro hc; simp_all [-List.getD_eq_getElem?_getD])]))) (by first | rfl | (rw [hst (by omega), fromStep, if_pos (by assumption)]; rfl) | (rw [hst (by omega), fromStep, if_neg (by intro hc; simp_all [-List.getD_eq_getElem?_getD])]))) (by first | rfl | (rw [hst (by omega), fromStep, if_pos (by assumption)]; rfl) | (rw [hst (by omega), fromStep, if_neg (by intro hc; simp_all [-List.getD_eq_getElem?_getD])])), rfl⟩
    · have h2 := g2; (try simp only [cmpB, decide_eq_true_eq, decide_eq_false_iff_not, beq_iff_eq, beq_eq_false_iff_ne, bne_iff_ne, ne_eq, bne_eq_false_iff_eq, Bool.not_eq_true', Bool.not_eq_false', Int.not_lt, Int.not_le] at h2)
      refine W_exit ?_
      refine thenK_e ?_
      refine thenK_e ?_
      refine blockK_hit ?_
      refine blockK_n ?_
      refine thenK_n ?_
      refine W_seqK (b' := 55) rfl rfl ?_
      refine k_op0 (d := 47) (b := 23) (j' := 1) rfl rfl rfl rfl (.plain rfl) (T_add64 rfl rfl rfl (by first | assumption | omega | (simp only [List.length_append, List.length_map, List.length_take, List.length_range, List.length_replicate, List.length_set]; omega) | (have k1 := hfi j (by omega) (by omega); first | exact k1.1 | exact k1.2 | exact (Int.toNat_lt k1.1).2 k1.2 | omega) | (have k1 := hq (by omega); omega) | (have k0 := hq (by omega); have k1 := hqb ((next.getD j default).getD i default).toNat (by omega); simp only [List.length_cons, List.length_nil]; omega))) rfl ?_
      refine k_op0 (d := 21) (b := 39) (j' := 2) rfl rfl rfl rfl (.plain rfl) (T_move rfl rfl) rfl ?_
      refine k_done rfl ?_
      refine thenK_n ?_
      have hil : i = (next.getD j default).length := by omega
      have hI2 := hI.2
      rw [hil, List.take_of_length_le (Nat.le_refl _)] at hI2
      refine ⟨j + 1, by (try dsimp only); exact ⟨by omega, fun l h => by rw [hs] at h; have h2 := hI2 l h; rw [Nat.succ_mul]; omega⟩, by (try dsimp only); omega, ?_⟩
      exact ⟨[(4, 4), (5, 5)], .same rfl rfl (.same rfl rfl (.same rfl rfl (.same rfl rfl (.eq rfl (.eq rfl (.nil) (by first | rfl | (rw [hil, List.take_of_length_le (Nat.le_refl _), hs]; rfl))) (by first | rfl | (rw [hil, List.take_of_length_le (Nat.le_refl _), hs]; rfl)))))), .fzE rfl (.fzE rfl (.fzE rfl (.box (by first | rfl | (rw [hil, List.take_of_length_le (Nat.le_refl _), hs]; rfl)) (.nestE rfl (.nil) (by first | rfl | (rw [hil, List.take_of_length_le (Nat.le_refl _), hs]; rfl)))) (by first | rfl | (rw [hil, List.take_of_length_le (Nat.le_refl _), hs]; rfl))) (by first | rfl | (rw [hil, List.take_of_length_le (Nat.le_refl _), hs]; rfl))) (by first | rfl | (rw [hil, List.take_of_length_le (Nat.le_refl _), hs]; rfl)), rfl⟩
  · have h1 := g1; (try simp only [cmpB, decide_eq_true_eq, decide_eq_false_iff_not, beq_iff_eq, beq_eq_false_iff_ne, bne_iff_ne, ne_eq, bne_eq_false_iff_eq, Bool.not_eq_true', Bool.not_eq_false', Int.not_lt, Int.not_le] at h1)
    refine W_exit ?_
    refine thenK_e ?_
    refine thenK_e ?_
    refine blockK_hit ?_
    refine thenK_n ?_
    refine W_seq ?_
    refine W_seqK (b' := 102) rfl rfl ?_
    refine k_op0 (d := 48) (b := 22) (j' := 1) rfl rfl rfl rfl (.plain rfl) (T_fa D (m := 1) rfl rfl rfl rfl rfl rfl) rfl ?_
    refine k_op0 (d := 49) (b := 38) (j' := 2) rfl rfl rfl rfl (.plain rfl) (T_load_b D rfl rfl rfl rfl rfl rfl) rfl ?_
    refine k_op0 (d := 50) (b := 54) (j' := 3) rfl rfl rfl rfl (.plain rfl) (T_len D rfl rfl rfl rfl rfl rfl) rfl ?_
    refine k_op1 (d := 51) (b := 70) (j' := 4) rfl rfl rfl rfl (.plain rfl) (T_make D (zx := (0 : Int)) (enc := eI) rfl rfl rfl rfl rfl rfl rfl (.v rfl (.nil)) rfl (by (try simp only [ty3]); first | assumption | omega | (simp only [List.length_append, List.length_map, List.length_take, List.length_range, List.length_replicate, List.length_set]; omega) | (have k1 := hfi j (by omega) (by omega); first | exact k1.1 | exact k1.2 | exact (Int.toNat_lt k1.1).2 k1.2 | omega) | (have k1 := hq (by omega); omega) | (have k0 := hq (by omega); have k1 := hqb ((next.getD j default).getD i default).toNat (by omega); simp only [List.length_cons, List.length_nil]; omega)) (by (try simp only [ty3]); first | assumption | omega | (simp only [List.length_append, List.length_map, List.length_take, List.length_range, List.length_replicate, List.length_set]; omega) | (have k1 := hfi j (by omega) (by omega); first | exact k1.1 | exact k1.2 | exact (Int.toNat_lt k1.1).2 k1.2 | omega) | (have k1 := hq (by omega); omega) | (have k0 := hq (by omega); have k1 := hqb ((next.getD j default).getD i default).toNat (by omega); simp only [List.length_cons, List.length_nil]; omega))) rfl ?_
    refine k_op0 (d := 12) (b := 86) (j' := 5) rfl rfl rfl rfl (.plain rfl) (T_assign rfl rfl) rfl ?_
    refine k_done rfl ?_
    refine thenK_n ?_
    refine W_seq ?_
    refine W_seq ?_
    refine W_seqK (b' := 150) rfl rfl ?_
    refine k_op0 (d := 52) (b := 102) (j' := 1) rfl rfl rfl rfl (.plain rfl) (T_move rfl rfl) rfl ?_
    refine k_op0 (d := 53) (b := 118) (j' := 2) rfl rfl rfl rfl (.plain rfl) (T_lenN D rfl rfl rfl rfl rfl rfl) rfl ?_
    refine k_op0 (d := 54) (b := 134) (j' := 3) rfl rfl rfl rfl (.plain rfl) (T_move rfl rfl) rfl ?_
    refine k_done rfl ?_
    refine thenK_n ?_
    refine W_block ?_
    have hjn : j = next.length := by omega
    refine W_loop (ι := Nat) 7 (fun j => ⟨[(2, .r 3), (3, .p 4 0), (12, .r 5), (52, .r 6), (53, .v (.int .i64 (f.blocks.length : Int))), (54, .v (.int .i64 (j : Int)))], [(1, .fz 5 (f.blocks.map eBlock)), (2, .fz 1 (next.map eIs)), (3, .fz 1 (reached.map eB)), (4, .box 29 [.v (.int .i64 f.regs), .r 1]), (5, .row 3 1 ((((List.range f.blocks.length).take j).map (takenAt f reached (fromAll next reached f.blocks.length next.length)) ++ List.replicate (f.blocks.length - j) 0).map eI)), (6, .fz 1 ((fromAll next reached f.blocks.length next.length).map eIs))]⟩) (fun j => j ≤ f.blocks.length) (fun j => f.blocks.length - j) (0) (by exact Nat.zero_le _) ?_ (fun j hJ => ?_)
    · exact ⟨[(4, 4), (5, 70), (6, 5)], .same rfl rfl (.same rfl rfl (.same rfl rfl (.same rfl rfl (.eq rfl (.eq rfl (.nil) (by first | rfl | (congr 1; omega) | (subst hjn; exact nestRows_eIs _) | (simp; done))) (by first | rfl | (congr 1; omega) | (subst hjn; exact nestRows_eIs _) | (simp; done)))))), .fzE rfl (.fzE rfl (.fzE rfl (.box (by first | rfl | (congr 1; omega) | (subst hjn; exact nestRows_eIs _) | (simp; done)) (.rowE rfl (.lendNE rfl (.nil) (by first | rfl | (congr 1; omega) | (subst hjn; exact nestRows_eIs _) | (simp; done))) (by first | rfl | (congr 1; omega) | (subst hjn; exact nestRows_eIs _) | (simp; done)))) (by first | rfl | (congr 1; omega) | (subst hjn; exact nestRows_eIs _) | (simp; done))) (by first | rfl | (congr 1; omega) | (subst hjn; exact nestRows_eIs _) | (simp; done))) (by first | rfl | (congr 1; omega) | (subst hjn; exact nestRows_eIs _) | (simp; done)), rfl⟩
    have hfn := fromAll_length next reached f.blocks.length next.length
    have hfi : ∀ m, m < f.blocks.length → 0 < ((fromAll next reached f.blocks.length next.length).getD m default).length → 0 ≤ ((fromAll next reached f.blocks.length next.length).getD m default).getD 0 default ∧ ((fromAll next reached f.blocks.length next.length).getD m default).getD 0 default < (f.blocks.length : Int) := fun m hm h0 => by have k1 := fromAll_in next reached f.blocks.length next.length _ (getD_mem (i := m) (by omega)) _ (getD_mem h0); exact ⟨k1.1, Int.lt_of_lt_of_le k1.2 (by omega)⟩
    refine W_seq ?_
    refine W_seqK (b' := 23) rfl rfl ?_
    refine k_op0 (d := 55) (b := 7) (j' := 1) rfl rfl rfl rfl (.plain rfl) (T_cmp rfl rfl rfl rfl) rfl ?_
    refine k_done rfl ?_
    refine thenK_n ?_
    refine W_seq ?_
    refine W_cond rfl (fun g4 => ?_) (fun g4 => ?_)
    · have h4 := g4; (try simp only [cmpB, decide_eq_true_eq, decide_eq_false_iff_not, beq_iff_eq, beq_eq_false_iff_ne, bne_iff_ne, ne_eq, bne_eq_false_iff_eq, Bool.not_eq_true', Bool.not_eq_false', Int.not_lt, Int.not_le] at h4)
      refine W_skip ?_
      refine thenK_n ?_
      refine W_seq ?_
      refine W_block ?_
      refine W_seq ?_
      refine W_seqK (b' := 103) rfl rfl ?_
      refine k_op0 (d := 56) (b := 23) (j' := 1) rfl rfl rfl rfl (.plain rfl) (T_move rfl rfl) rfl ?_
      first | refine k_op0 (d := 57) (b := 39) (j' := 2) rfl rfl rfl rfl (.plain rfl) (T_indexAddr D rfl rfl rfl rfl rfl rfl rfl rfl (by first | assumption | omega | (simp only [List.length_append, List.length_map, List.length_take, List.length_range, List.length_replicate, List.length_set]; omega) | (have k1 := hfi j (by omega) (by omega); first | exact k1.1 | exact k1.2 | exact (Int.toNat_lt k1.1).2 k1.2 | omega) | (have k1 := hq (by omega); omega) | (have k0 := hq (by omega); have k1 := hqb ((next.getD j default).getD i default).toNat (by omega); simp only [List.length_cons, List.length_nil]; omega))) rfl ?_ | refine k_op0 (d := 57) (b := 39) (j' := 2) rfl rfl rfl rfl (.plain rfl) (T_indexAddrZ D rfl rfl rfl rfl rfl rfl rfl rfl (by first | assumption | omega | (simp only [List.length_append, List.length_map, List.length_take, List.length_range, List.length_replicate, List.length_set]; omega) | (have k1 := hfi j (by omega) (by omega); first | exact k1.1 | exact k1.2 | exact (Int.toNat_lt k1.1).2 k1.2 | omega) | (have k1 := hq (by omega); omega) | (have k0 := hq (by omega); have k1 := hqb ((next.getD j default).getD i default).toNat (by omega); simp only [List.length_cons, List.length_nil]; omega)) (by first | assumption | omega | (simp only [List.length_append, List.length_map, List.length_take, List.length_range, List.length_replicate, List.length_set]; omega) | (have k1 := hfi j (by omega) (by omega); first | exact k1.1 | exact k1.2 | exact (Int.toNat_lt k1.1).2 k1.2 | omega) | (have k1 := hq (by omega); omega) | (have k0 := hq (by omega); have k1 := hqb ((next.getD j default).getD i default).toNat (by omega); simp only [List.length_cons, List.length_nil]; omega))) rfl ?_
      refine k_op1 (d := 58) (b := 55) (j' := 3) rfl rfl rfl rfl (.plain rfl) (T_ldE D (lv := .r 55) (nn := 1) (upd := [(55, .fz 1 _)]) rfl rfl rfl rfl rfl (by first | assumption | omega | (simp only [List.length_append, List.length_map, List.length_take, List.length_range, List.length_replicate, List.length_set]; omega) | (have k1 := hfi j (by omega) (by omega); first | exact k1.1 | exact k1.2 | exact (Int.toNat_lt k1.1).2 k1.2 | omega) | (have k1 := hq (by omega); omega) | (have k0 := hq (by omega); have k1 := hqb ((next.getD j default).getD i default).toNat (by omega); simp only [List.length_cons, List.length_nil]; omega)) rfl rfl rfl rfl) rfl ?_
      refine k_op0 (d := 13) (b := 71) (j' := 4) rfl rfl rfl rfl (.plain rfl) (T_assign rfl rfl) rfl ?_
      refine k_op0 (d := 14) (b := 87) (j' := 5) rfl rfl rfl rfl (.plain rfl) (T_assign rfl rfl) rfl ?_
      refine k_done rfl ?_
      refine thenK_n ?_
      refine W_seq ?_
      refine W_seqK (b' := 167) rfl rfl ?_
      refine k_op0 (d := 59) (b := 103) (j' := 1) rfl rfl rfl rfl (.plain rfl) (T_move rfl rfl) rfl ?_
      refine k_op0 (d := 60) (b := 119) (j' := 2) rfl rfl rfl rfl (.plain rfl) (T_move rfl rfl) rfl ?_
      first | refine k_op0 (d := 61) (b := 135) (j' := 3) rfl rfl rfl rfl (.plain rfl) (T_indexAddr D rfl rfl rfl rfl rfl rfl rfl rfl (by first | assumption | omega | (simp only [List.length_append, List.length_map, List.length_take, List.length_range, List.length_replicate, List.length_set]; omega) | (have k1 := hfi j (by omega) (by omega); first | exact k1.1 | exact k1.2 | exact (Int.toNat_lt k1.1).2 k1.2 | omega) | (have k1 := hq (by omega); omega) | (have k0 := hq (by omega); have k1 := hqb ((next.getD j default).getD i default).toNat (by omega); simp only [List.length_cons, List.length_nil]; omega))) rfl ?_ | refine k_op0 (d := 61) (b := 135) (j' := 3) rfl rfl rfl rfl (.plain rfl) (T_indexAddrZ D rfl rfl rfl rfl rfl rfl rfl rfl (by first | assumption | omega | (simp only [List.length_append, List.length_map, List.length_take, List.length_range, List.length_replicate, List.length_set]; omega) | (have k1 := hfi j (by omega) (by omega); first | exact k1.1 | exact k1.2 | exact (Int.toNat_lt k1.1).2 k1.2 | omega) | (have k1 := hq (by omega); omega) | (have k0 := hq (by omega); have k1 := hqb ((next.getD j default).getD i default).toNat (by omega); simp only [List.length_cons, List.length_nil]; omega)) (by first | assumption | omega | (simp only [List.length_append, List.length_map, List.length_take, List.length_range, List.length_replicate, List.length_set]; omega) | (have k1 := hfi j (by omega) (by omega); first | exact k1.1 | exact k1.2 | exact (Int.toNat_lt k1.1).2 k1.2 | omega) | (have k1 := hq (by omega); omega) | (have k0 := hq (by omega); have k1 := hqb ((next.getD j default).getD i default).toNat (by omega); simp only [List.length_cons, List.length_nil]; omega))) rfl ?_
      refine k_st1 (b := 151) (j' := 4) rfl rfl rfl rfl (.plain rfl) (T_store_e D (z := _) rfl rfl rfl rfl (flat_v rfl) rfl rfl (by first | assumption | omega | (simp only [List.length_append, List.length_map, List.length_take, List.length_range, List.length_replicate, List.length_set]; omega) | (have k1 := hfi j (by omega) (by omega); first | exact k1.1 | exact k1.2 | exact (Int.toNat_lt k1.1).2 k1.2 | omega) | (have k1 := hq (by omega); omega) | (have k0 := hq (by omega); have k1 := hqb ((next.getD j default).getD i default).toNat (by omega); simp only [List.length_cons, List.length_nil]; omega)) (.v rfl (.nil)) rfl (Nat.le_of_ble_eq_true rfl) rfl) rfl ?_
      refine k_done rfl ?_
      refine thenK_n ?_
      refine W_seq ?_
      refine W_anyK (b' := 663) rfl rfl rfl ?_
      refine k_op0 (d := 62) (b := 167) (j' := 1) rfl rfl rfl rfl (.plain rfl) (T_move rfl rfl) rfl ?_
      refine k_op0 (d := 63) (b := 183) (j' := 2) rfl rfl rfl rfl (.plain rfl) (T_cmp rfl rfl rfl rfl) rfl ?_
      refine k_op0 (d := 64) (b := 199) (j' := 3) rfl rfl rfl rfl (.plain rfl) (T_move rfl rfl) rfl ?_
      refine k_split (d := 64) rfl (fun g5 => ?_) (fun g5 => ?_)
      · have h5 := g5; (try simp only [cmpB, decide_eq_true_eq, decide_eq_false_iff_not, beq_iff_eq, beq_eq_false_iff_ne, bne_iff_ne, ne_eq, bne_eq_false_iff_eq, Bool.not_eq_true', Bool.not_eq_false', Int.not_lt, Int.not_le] at h5)
        refine k_op0 (d := 65) (b := 215) (j' := 4) rfl rfl rfl rfl (g_tt rfl rfl rfl g5) (T_move rfl rfl) rfl ?_
        refine k_op0 (d := 66) (b := 231) (j' := 5) rfl rfl rfl rfl (g_tt rfl rfl rfl g5) (T_move rfl rfl) rfl ?_
        first | refine k_op0 (d := 67) (b := 247) (j' := 6) rfl rfl rfl rfl (g_tt rfl rfl rfl g5) (T_indexAddr D rfl rfl rfl rfl rfl rfl rfl rfl (by first | assumption | omega | (simp only [List.length_append, List.length_map, List.length_take, List.length_range, List.length_replicate, List.length_set]; omega) | (have k1 := hfi j (by omega) (by omega); first | exact k1.1 | exact k1.2 | exact (Int.toNat_lt k1.1).2 k1.2 | omega) | (have k1 := hq (by omega); omega) | (have k0 := hq (by omega); have k1 := hqb ((next.getD j default).getD i default).toNat (by omega); simp only [List.length_cons, List.length_nil]; omega))) rfl ?_ | refine k_op0 (d := 67) (b := 247) (j' := 6) rfl rfl rfl rfl (g_tt rfl rfl rfl g5) (T_indexAddrZ D rfl rfl rfl rfl rfl rfl rfl rfl (by first | assumption | omega | (simp only [List.length_append, List.length_map, List.length_take, List.length_range, List.length_replicate, List.length_set]; omega) | (have k1 := hfi j (by omega) (by omega); first | exact k1.1 | exact k1.2 | exact (Int.toNat_lt k1.1).2 k1.2 | omega) | (have k1 := hq (by omega); omega) | (have k0 := hq (by omega); have k1 := hqb ((next.getD j default).getD i default).toNat (by omega); simp only [List.length_cons, List.length_nil]; omega)) (by first | assumption | omega | (simp only [List.length_append, List.length_map, List.length_take, List.length_range, List.length_replicate, List.length_set]; omega) | (have k1 := hfi j (by omega) (by omega); first | exact k1.1 | exact k1.2 | exact (Int.toNat_lt k1.1).2 k1.2 | omega) | (have k1 := hq (by omega); omega) | (have k0 := hq (by omega); have k1 := hqb ((next.getD j default).getD i default).toNat (by omega); simp only [List.length_cons, List.length_nil]; omega))) rfl ?_
        refine k_op0 (d := 68) (b := 263) (j' := 7) rfl rfl rfl rfl (g_tt rfl rfl rfl g5) (T_ldE D (lv := .v _) (nn := 0) (upd := []) rfl rfl rfl rfl rfl (by first | assumption | omega | (simp only [List.length_append, List.length_map, List.length_take, List.length_range, List.length_replicate, List.length_set]; omega) | (have k1 := hfi j (by omega) (by omega); first | exact k1.1 | exact k1.2 | exact (Int.toNat_lt k1.1).2 k1.2 | omega) | (have k1 := hq (by omega); omega) | (have k0 := hq (by omega); have k1 := hqb ((next.getD j default).getD i default).toNat (by omega); simp only [List.length_cons, List.length_nil]; omega)) rfl rfl rfl rfl) rfl ?_
        refine k_op0 (d := 69) (b := 279) (j' := 8) rfl rfl rfl rfl (.plain rfl) (T_pick_t rfl rfl rfl g5) rfl ?_
        refine k_op0 (d := 70) (b := 295) (j' := 9) rfl rfl rfl rfl (.plain rfl) (T_move rfl rfl) rfl ?_
        refine k_split (d := 70) rfl (fun g6 => ?_) (fun g6 => ?_)
        · have h6 := g6; (try simp only [cmpB, decide_eq_true_eq, decide_eq_false_iff_not, beq_iff_eq, beq_eq_false_iff_ne, bne_iff_ne, ne_eq, bne_eq_false_iff_eq, Bool.not_eq_true', Bool.not_eq_false', Int.not_lt, Int.not_le] at h6)
          refine k_op0 (d := 71) (b := 311) (j' := 10) rfl rfl rfl rfl (g_tt rfl rfl rfl g6) (T_move rfl rfl) rfl ?_
          refine k_op0 (d := 72) (b := 327) (j' := 11) rfl rfl rfl rfl (g_tt rfl rfl rfl g6) (T_len D rfl rfl rfl rfl rfl rfl) rfl ?_
          refine k_op0 (d := 73) (b := 343) (j' := 12) rfl rfl rfl rfl (g_tt rfl rfl rfl g6) (T_cmp rfl rfl rfl rfl) rfl ?_
          refine k_op0 (d := 74) (b := 359) (j' := 13) rfl rfl rfl rfl (.plain rfl) (T_pick_t rfl rfl rfl g6) rfl ?_
          refine k_op0 (d := 75) (b := 375) (j' := 14) rfl rfl rfl rfl (.plain rfl) (T_move rfl rfl) rfl ?_
          refine k_split (d := 75) rfl (fun g7 => ?_) (fun g7 => ?_)
          · have h7 := g7; (try simp only [cmpB, decide_eq_true_eq, decide_eq_false_iff_not, beq_iff_eq, beq_eq_false_iff_ne, bne_iff_ne, ne_eq, bne_eq_false_iff_eq, Bool.not_eq_true', Bool.not_eq_false', Int.not_lt, Int.not_le] at h7)
            refine k_op0 (d := 76) (b := 391) (j' := 15) rfl rfl rfl rfl (g_tt rfl rfl rfl g7) (T_move rfl rfl) rfl ?_
            first | refine k_op0 (d := 77) (b := 407) (j' := 16) rfl rfl rfl rfl (g_tt rfl rfl rfl g7) (T_indexAddr D rfl rfl rfl rfl rfl rfl rfl rfl (by first | assumption | omega | (simp only [List.length_append, List.length_map, List.length_take, List.length_range, List.length_replicate, List.length_set]; omega) | (have k1 := hfi j (by omega) (by omega); first | exact k1.1 | exact k1.2 | exact (Int.toNat_lt k1.1).2 k1.2 | omega) | (have k1 := hq (by omega); omega) | (have k0 := hq (by omega); have k1 := hqb ((next.getD j default).getD i default).toNat (by omega); simp only [List.length_cons, List.length_nil]; omega))) rfl ?_ | refine k_op0 (d := 77) (b := 407) (j' := 16) rfl rfl rfl rfl (g_tt rfl rfl rfl g7) (T_indexAddrZ D rfl rfl rfl rfl rfl rfl rfl rfl (by first | assumption | omega | (simp only [List.length_append, List.length_map, List.length_take, List.length_range, List.length_replicate, List.length_set]; omega) | (have k1 := hfi j (by omega) (by omega); first | exact k1.1 | exact k1.2 | exact (Int.toNat_lt k1.1).2 k1.2 | omega) | (have k1 := hq (by omega); omega) | (have k0 := hq (by omega); have k1 := hqb ((next.getD j default).getD i default).toNat (by omega); simp only [List.length_cons, List.length_nil]; omega)) (by first | assumption | omega | (simp only [List.length_append, List.length_map, List.length_take, List.length_range, List.length_replicate, List.length_set]; omega) | (have k1 := hfi j (by omega) (by omega); first | exact k1.1 | exact k1.2 | exact (Int.toNat_lt k1.1).2 k1.2 | omega) | (have k1 := hq (by omega); omega) | (have k0 := hq (by omega); have k1 := hqb ((next.getD j default).getD i default).toNat (by omega); simp only [List.length_cons, List.length_nil]; omega))) rfl ?_
            refine k_op0 (d := 78) (b := 423) (j' := 17) rfl rfl rfl rfl (g_tt rfl rfl rfl g7) (T_ldE D (lv := .v _) (nn := 0) (upd := []) rfl rfl rfl rfl rfl (by first | assumption | omega | (simp only [List.length_append, List.length_map, List.length_take, List.length_range, List.length_replicate, List.length_set]; omega) | (have k1 := hfi j (by omega) (by omega); first | exact k1.1 | exact k1.2 | exact (Int.toNat_lt k1.1).2 k1.2 | omega) | (have k1 := hq (by omega); omega) | (have k0 := hq (by omega); have k1 := hqb ((next.getD j default).getD i default).toNat (by omega); simp only [List.length_cons, List.length_nil]; omega)) rfl rfl rfl rfl) rfl ?_
            refine k_op0 (d := 79) (b := 439) (j' := 18) rfl rfl rfl rfl (g_tt rfl rfl rfl g7) (T_move rfl rfl) rfl ?_
            refine k_op0 (d := 80) (b := 455) (j' := 19) rfl rfl rfl rfl (g_tt rfl rfl rfl g7) (T_cmp rfl rfl rfl rfl) rfl ?_
            refine k_op0 (d := 81) (b := 471) (j' := 20) rfl rfl rfl rfl (.plain rfl) (T_pick_t rfl rfl rfl g7) rfl ?_
            refine k_op0 (d := 82) (b := 487) (j' := 21) rfl rfl rfl rfl (.plain rfl) (T_move rfl rfl) rfl ?_
            refine k_split (d := 82) rfl (fun g8 => ?_) (fun g8 => ?_)
            · have h8 := g8; (try simp only [cmpB, decide_eq_true_eq, decide_eq_false_iff_not, beq_iff_eq, beq_eq_false_iff_ne, bne_iff_ne, ne_eq, bne_eq_false_iff_eq, Bool.not_eq_true', Bool.not_eq_false', Int.not_lt, Int.not_le] at h8)
              refine k_op0 (d := 83) (b := 503) (j' := 22) rfl rfl rfl rfl (g_tt rfl rfl rfl g8) (T_fa D (m := 1) rfl rfl rfl rfl rfl rfl) rfl ?_
              refine k_op0 (d := 84) (b := 519) (j' := 23) rfl rfl rfl rfl (g_tt rfl rfl rfl g8) (T_load_b D rfl rfl rfl rfl rfl rfl) rfl ?_
              refine k_op0 (d := 85) (b := 535) (j' := 24) rfl rfl rfl rfl (g_tt rfl rfl rfl g8) (T_move rfl rfl) rfl ?_
              first | refine k_op0 (d := 86) (b := 551) (j' := 25) rfl rfl rfl rfl (g_tt rfl rfl rfl g8) (T_indexAddr D rfl rfl rfl rfl rfl rfl rfl rfl (by first | assumption | omega | (simp only [List.length_append, List.length_map, List.length_take, List.length_range, List.length_replicate, List.length_set]; omega) | (have k1 := hfi j (by omega) (by omega); first | exact k1.1 | exact k1.2 | exact (Int.toNat_lt k1.1).2 k1.2 | omega) | (have k1 := hq (by omega); omega) | (have k0 := hq (by omega); have k1 := hqb ((next.getD j default).getD i default).toNat (by omega); simp only [List.length_cons, List.length_nil]; omega))) rfl ?_ | refine k_op0 (d := 86) (b := 551) (j' := 25) rfl rfl rfl rfl (g_tt rfl rfl rfl g8) (T_indexAddrZ D rfl rfl rfl rfl rfl rfl rfl rfl (by first | assumption | omega | (simp only [List.length_append, List.length_map, List.length_take, List.length_range, List.length_replicate, List.length_set]; omega) | (have k1 := hfi j (by omega) (by omega); first | exact k1.1 | exact k1.2 | exact (Int.toNat_lt k1.1).2 k1.2 | omega) | (have k1 := hq (by omega); omega) | (have k0 := hq (by omega); have k1 := hqb ((next.getD j default).getD i default).toNat (by omega); simp only [List.length_cons, List.length_nil]; omega)) (by first | assumption | omega | (simp only [List.length_append, List.length_map, List.length_take, List.length_range, List.length_replicate, List.length_set]; omega) | (have k1 := hfi j (by omega) (by omega); first | exact k1.1 | exact k1.2 | exact (Int.toNat_lt k1.1).2 k1.2 | omega) | (have k1 := hq (by omega); omega) | (have k0 := hq (by omega); have k1 := hqb ((next.getD j default).getD i default).toNat (by omega); simp only [List.length_cons, List.length_nil]; omega))) rfl ?_
              refine k_op0 (d := 87) (b := 567) (j' := 26) rfl rfl rfl rfl (g_tt rfl rfl rfl g8) (T_ldE D (lv := .v _) (nn := 0) (upd := []) rfl rfl rfl rfl rfl (by first | assumption | omega | (simp only [List.length_append, List.length_map, List.length_take, List.length_range, List.length_replicate, List.length_set]; omega) | (have k1 := hfi j (by omega) (by omega); first | exact k1.1 | exact k1.2 | exact (Int.toNat_lt k1.1).2 k1.2 | omega) | (have k1 := hq (by omega); omega) | (have k0 := hq (by omega); have k1 := hqb ((next.getD j default).getD i default).toNat (by omega); simp only [List.length_cons, List.length_nil]; omega)) rfl rfl rfl rfl) rfl ?_
              first | refine k_op0 (d := 88) (b := 583) (j' := 27) rfl rfl rfl rfl (g_tt rfl rfl rfl g8) (T_indexAddr D rfl rfl rfl rfl rfl rfl rfl rfl (by first | assumption | omega | (simp only [List.length_append, List.length_map, List.length_take, List.length_range, List.length_replicate, List.length_set]; omega) | (have k1 := hfi j (by omega) (by omega); first | exact k1.1 | exact k1.2 | exact (Int.toNat_lt k1.1).2 k1.2 | omega) | (have k1 := hq (by omega); omega) | (have k0 := hq (by omega); have k1 := hqb ((next.getD j default).getD i default).toNat (by omega); simp only [List.length_cons, List.length_nil]; omega))) rfl ?_ | refine k_op0 (d := 88) (b := 583) (j' := 27) rfl rfl rfl rfl (g_tt rfl rfl rfl g8) (T_indexAddrZ D rfl rfl rfl rfl rfl rfl rfl rfl (by first | assumption | omega | (simp only [List.length_append, List.length_map, List.length_take, List.length_range, List.length_replicate, List.length_set]; omega) | (have k1 := hfi j (by omega) (by omega); first | exact k1.1 | exact k1.2 | exact (Int.toNat_lt k1.1).2 k1.2 | omega) | (have k1 := hq (by omega); omega) | (have k0 := hq (by omega); have k1 := hqb ((next.getD j default).getD i default).toNat (by omega); simp only [List.length_cons, List.length_nil]; omega)) (by first | assumption | omega | (simp only [List.length_append, List.length_map, List.length_take, List.length_range, List.length_replicate, List.length_set]; omega) | (have k1 := hfi j (by omega) (by omega); first | exact k1.1 | exact k1.2 | exact (Int.toNat_lt k1.1).2 k1.2 | omega) | (have k1 := hq (by omega); omega) | (have k0 := hq (by omega); have k1 := hqb ((next.getD j default).getD i default).toNat (by omega); simp only [List.length_cons, List.length_nil]; omega))) rfl ?_
              refine k_op0 (d := 89) (b := 599) (j' := 28) rfl rfl rfl rfl (g_tt rfl rfl rfl g8) (T_fae D (m := 1) rfl rfl rfl rfl rfl rfl) rfl ?_
              refine k_op0 (d := 90) (b := 615) (j' := 29) rfl rfl rfl rfl (g_tt rfl rfl rfl g8) (T_ldE D (lv := .v _) (nn := 0) (upd := []) rfl rfl rfl rfl rfl (by first | assumption | omega | (simp only [List.length_append, List.length_map, List.length_take, List.length_range, List.length_replicate, List.length_set]; omega) | (have k1 := hfi j (by omega) (by omega); first | exact k1.1 | exact k1.2 | exact (Int.toNat_lt k1.1).2 k1.2 | omega) | (have k1 := hq (by omega); omega) | (have k0 := hq (by omega); have k1 := hqb ((next.getD j default).getD i default).toNat (by omega); simp only [List.length_cons, List.length_nil]; omega)) rfl rfl rfl rfl) rfl ?_
              refine k_op0 (d := 91) (b := 631) (j' := 30) rfl rfl rfl rfl (g_tt rfl rfl rfl g8) (T_cmp rfl rfl rfl rfl) rfl ?_
              refine k_op0 (d := 92) (b := 647) (j' := 31) rfl rfl rfl rfl (.plain rfl) (T_pick_t rfl rfl rfl g8) rfl ?_
              refine k_done rfl ?_
              refine ⟨rfl, ?_⟩
              refine thenK_n ?_
              refine W_cond rfl (fun g9 => ?_) (fun g9 => ?_)
              · have h9 := g9; (try simp only [cmpB, decide_eq_true_eq, decide_eq_false_iff_not, beq_iff_eq, beq_eq_false_iff_ne, bne_iff_ne, ne_eq, bne_eq_false_iff_eq, Bool.not_eq_true', Bool.not_eq_false', Int.not_lt, Int.not_le] at h9)
                refine W_seqK (b' := 775) rfl rfl ?_
                refine k_op0 (d := 93) (b := 663) (j' := 1) rfl rfl rfl rfl (.plain rfl) (T_move rfl rfl) rfl ?_
                refine k_op0 (d := 94) (b := 679) (j' := 2) rfl rfl rfl rfl (.plain rfl) (T_move rfl rfl) rfl ?_
                refine k_op0 (d := 95) (b := 695) (j' := 3) rfl rfl rfl rfl (.plain rfl) (T_move rfl rfl) rfl ?_
                first | refine k_op0 (d := 96) (b := 711) (j' := 4) rfl rfl rfl rfl (.plain rfl) (T_indexAddr D rfl rfl rfl rfl rfl rfl rfl rfl (by first | assumption | omega | (simp only [List.length_append, List.length_map, List.length_take, List.length_range, List.length_replicate, List.length_set]; omega) | (have k1 := hfi j (by omega) (by omega); first | exact k1.1 | exact k1.2 | exact (Int.toNat_lt k1.1).2 k1.2 | omega) | (have k1 := hq (by omega); omega) | (have k0 := hq (by omega); have k1 := hqb ((next.getD j default).getD i default).toNat (by omega); simp only [List.length_cons, List.length_nil]; omega))) rfl ?_ | refine k_op0 (d := 96) (b := 711) (j' := 4) rfl rfl rfl rfl (.plain rfl) (T_indexAddrZ D rfl rfl rfl rfl rfl rfl rfl rfl (by first | assumption | omega | (simp only [List.length_append, List.length_map, List.length_take, List.length_range, List.length_replicate, List.length_set]; omega) | (have k1 := hfi j (by omega) (by omega); first | exact k1.1 | exact k1.2 | exact (Int.toNat_lt k1.1).2 k1.2 | omega) | (have k1 := hq (by omega); omega) | (have k0 := hq (by omega); have k1 := hqb ((next.getD j default).getD i default).toNat (by omega); simp only [List.length_cons, List.length_nil]; omega)) (by first | assumption | omega | (simp only [List.length_append, List.length_map, List.length_take, List.length_range, List.length_replicate, List.length_set]; omega) | (have k1 := hfi j (by omega) (by omega); first | exact k1.1 | exact k1.2 | exact (Int.toNat_lt k1.1).2 k1.2 | omega) | (have k1 := hq (by omega); omega) | (have k0 := hq (by omega); have k1 := hqb ((next.getD j default).getD i default).toNat (by omega); simp only [List.length_cons, List.length_nil]; omega))) rfl ?_
                refine k_op0 (d := 97) (b := 727) (j' := 5) rfl rfl rfl rfl (.plain rfl) (T_ldE D (lv := .v _) (nn := 0) (upd := []) rfl rfl rfl rfl rfl (by first | assumption | omega | (simp only [List.length_append, List.length_map, List.length_take, List.length_range, List.length_replicate, List.length_set]; omega) | (have k1 := hfi j (by omega) (by omega); first | exact k1.1 | exact k1.2 | exact (Int.toNat_lt k1.1).2 k1.2 | omega) | (have k1 := hq (by omega); omega) | (have k0 := hq (by omega); have k1 := hqb ((next.getD j default).getD i default).toNat (by omega); simp only [List.length_cons, List.length_nil]; omega)) rfl rfl rfl rfl) rfl ?_
                first | refine k_op0 (d := 98) (b := 743) (j' := 6) rfl rfl rfl rfl (.plain rfl) (T_indexAddr D rfl rfl rfl rfl rfl rfl rfl rfl (by first | assumption | omega | (simp only [List.length_append, List.length_map, List.length_take, List.length_range, List.length_replicate, List.length_set]; omega) | (have k1 := hfi j (by omega) (by omega); first | exact k1.1 | exact k1.2 | exact (Int.toNat_lt k1.1).2 k1.2 | omega) | (have k1 := hq (by omega); omega) | (have k0 := hq (by omega); have k1 := hqb ((next.getD j default).getD i default).toNat (by omega); simp only [List.length_cons, List.length_nil]; omega))) rfl ?_ | refine k_op0 (d := 98) (b := 743) (j' := 6) rfl rfl rfl rfl (.plain rfl) (T_indexAddrZ D rfl rfl rfl rfl rfl rfl rfl rfl (by first | assumption | omega | (simp only [List.length_append, List.length_map, List.length_take, List.length_range, List.length_replicate, List.length_set]; omega) | (have k1 := hfi j (by omega) (by omega); first | exact k1.1 | exact k1.2 | exact (Int.toNat_lt k1.1).2 k1.2 | omega) | (have k1 := hq (by omega); omega) | (have k0 := hq (by omega); have k1 := hqb ((next.getD j default).getD i default).toNat (by omega); simp only [List.length_cons, List.length_nil]; omega)) (by first | assumption | omega | (simp only [List.length_append, List.length_map, List.length_take, List.length_range, List.length_replicate, List.length_set]; omega) | (have k1 := hfi j (by omega) (by omega); first | exact k1.1 | exact k1.2 | exact (Int.toNat_lt k1.1).2 k1.2 | omega) | (have k1 := hq (by omega); omega) | (have k0 := hq (by omega); have k1 := hqb ((next.getD j default).getD i default).toNat (by omega); simp only [List.length_cons, List.length_nil]; omega))) rfl ?_
                refine k_st1 (b := 759) (j' := 7) rfl rfl rfl rfl (.plain rfl) (T_store_e D (z := _) rfl rfl rfl rfl (flat_v rfl) rfl rfl (by first | assumption | omega | (simp only [List.length_append, List.length_map, List.length_take, List.length_range, List.length_replicate, List.length_set]; omega) | (have k1 := hfi j (by omega) (by omega); first | exact k1.1 | exact k1.2 | exact (Int.toNat_lt k1.1).2 k1.2 | omega) | (have k1 := hq (by omega); omega) | (have k0 := hq (by omega); have k1 := hqb ((next.getD j default).getD i default).toNat (by omega); simp only [List.length_cons, List.length_nil]; omega)) (.v rfl (.nil)) rfl (Nat.le_of_ble_eq_true rfl) rfl) rfl ?_
                refine k_done rfl ?_
                refine blockK_n ?_
                refine thenK_n ?_
                refine W_seqK (b' := 807) rfl rfl ?_
                refine k_op0 (d := 99) (b := 775) (j' := 1) rfl rfl rfl rfl (.plain rfl) (T_add64 rfl rfl rfl (by first | assumption | omega | (simp only [List.length_append, List.length_map, List.length_take, List.length_range, List.length_replicate, List.length_set]; omega) | (have k1 := hfi j (by omega) (by omega); first | exact k1.1 | exact k1.2 | exact (Int.toNat_lt k1.1).2 k1.2 | omega) | (have k1 := hq (by omega); omega) | (have k0 := hq (by omega); have k1 := hqb ((next.getD j default).getD i default).toNat (by omega); simp only [List.length_cons, List.length_nil]; omega))) rfl ?_
                refine k_op0 (d := 54) (b := 791) (j' := 2) rfl rfl rfl rfl (.plain rfl) (T_move rfl rfl) rfl ?_
                refine k_done rfl ?_
                refine thenK_n ?_
                refine ⟨j + 1, by (try dsimp only); omega, by (try dsimp only); omega, ?_⟩
                exact ⟨[(4, 4), (5, 5), (6, 6)], .same rfl rfl (.same rfl rfl (.same rfl rfl (.same rfl rfl (.eq rfl (.eq rfl (.nil) (by first | rfl | (rw [List.set_set]; exact congrArg _ (row_step (by omega) (by unfold takenAt; first | exact (if_pos ⟨by omega, by assumption, by omega, by assumption, by assumption⟩).symm | rw [if_neg (by rintro ⟨a1, a2, a3, a4, a5⟩; first | omega | contradiction | exact absurd a5 (by assumption) | (rw [a2] at h6; cases h6))]))) | exact congrArg _ (row_step (by omega) (by unfold takenAt; first | exact (if_pos ⟨by omega, by assumption, by omega, by assumption, by assumption⟩).symm | rw [if_neg (by rintro ⟨a1, a2, a3, a4, a5⟩; first | omega | contradiction | exact absurd a5 (by assumption) | (rw [a2] at h6; cases h6))])))) (by first | rfl | (rw [List.set_set]; exact congrArg _ (row_step (by omega) (by unfold takenAt; first | exact (if_pos ⟨by omega, by assumption, by omega, by assumption, by assumption⟩).symm | rw [if_neg (by rintro ⟨a1, a2, a3, a4, a5⟩; first | omega | contradiction | exact absurd a5 (by assumption) | (rw [a2] at h6; cases h6))]))) | exact congrArg _ (row_step (by omega) (by unfold takenAt; first | exact (if_pos ⟨by omega, by assumption, by omega, by assumption, by assumption⟩).symm | rw [if_neg (by rintro ⟨a1, a2, a3, a4, a5⟩; first | omega | contradiction | exact absurd a5 (by assumption) | (rw [a2] at h6; cases h6))]))))))), .fzE rfl (.fzE rfl (.fzE rfl (.box (by first | rfl | (rw [List.set_set]; exact congrArg _ (row_step (by omega) (by unfold takenAt; first | exact (if_pos ⟨by omega, by assumption, by omega, by assumption, by assumption⟩).symm | rw [if_neg (by rintro ⟨a1, a2, a3, a4, a5⟩; first | omega | contradiction | exact absurd a5 (by assumption) | (rw [a2] at h6; cases h6))]))) | exact congrArg _ (row_step (by omega) (by unfold takenAt; first | exact (if_pos ⟨by omega, by assumption, by omega, by assumption, by assumption⟩).symm | rw [if_neg (by rintro ⟨a1, a2, a3, a4, a5⟩; first | omega | contradiction | exact absurd a5 (by assumption) | (rw [a2] at h6; cases h6))]))) (.rowE rfl (.fzE rfl (.nil) (by first | rfl | (rw [List.set_set]; exact congrArg _ (row_step (by omega) (by unfold takenAt; first | exact (if_pos ⟨by omega, by assumption, by omega, by assumption, by assumption⟩).symm | rw [if_neg (by rintro ⟨a1, a2, a3, a4, a5⟩; first | omega | contradiction | exact absurd a5 (by assumption) | (rw [a2] at h6; cases h6))]))) | exact congrArg _ (row_step (by omega) (by unfold takenAt; first | exact (if_pos ⟨by omega, by assumption, by omega, by assumption, by assumption⟩).symm | rw [if_neg (by rintro ⟨a1, a2, a3, a4, a5⟩; first | omega | contradiction | exact absurd a5 (by assumption) | (rw [a2] at h6; cases h6))])))) (by first | rfl | (rw [List.set_set]; exact congrArg _ (row_step (by omega) (by unfold takenAt; first | exact (if_pos ⟨by omega, by assumption, by omega, by assumption, by assumption⟩).symm | rw [if_neg (by rintro ⟨a1, a2, a3, a4, a5⟩; first | omega | contradiction | exact absurd a5 (by assumption) | (rw [a2] at h6; cases h6))]))) | exact congrArg _ (row_step (by omega) (by unfold takenAt; first | exact (if_pos ⟨by omega, by assumption, by omega, by assumption, by assumption⟩).symm | rw [if_neg (by rintro ⟨a1, a2, a3, a4, a5⟩; first | omega | contradiction | exact absurd a5 (by assumption) | (rw [a2] at h6; cases h6))]))))) (by first | rfl | (rw [List.set_set]; exact congrArg _ (row_step (by omega) (by unfold takenAt; first | exact (if_pos ⟨by omega, by assumption, by omega, by assumption, by assumption⟩).symm | rw [if_neg (by rintro ⟨a1, a2, a3, a4, a5⟩; first | omega | contradiction | exact absurd a5 (by assumption) | (rw [a2] at h6; cases h6))]))) | exact congrArg _ (row_step (by omega) (by unfold takenAt; first | exact (if_pos ⟨by omega, by assumption, by omega, by assumption, by assumption⟩).symm | rw [if_neg (by rintro ⟨a1, a2, a3, a4, a5⟩; first | omega | contradiction | exact absurd a5 (by assumption) | (rw [a2] at h6; cases h6))])))) (by first | rfl | (rw [List.set_set]; exact congrArg _ (row_step (by omega) (by unfold takenAt; first | exact (if_pos ⟨by omega, by assumption, by omega, by assumption, by assumption⟩).symm | rw [if_neg (by rintro ⟨a1, a2, a3, a4, a5⟩; first | omega | contradiction | exact absurd a5 (by assumption) | (rw [a2] at h6; cases h6))]))) | exact congrArg _ (row_step (by omega) (by unfold takenAt; first | exact (if_pos ⟨by omega, by assumption, by omega, by assumption, by assumption⟩).symm | rw [if_neg (by rintro ⟨a1, a2, a3, a4, a5⟩; first | omega | contradiction | exact absurd a5 (by assumption) | (rw [a2] at h6; cases h6))])))) (by first | rfl | (rw [List.set_set]; exact congrArg _ (row_step (by omega) (by unfold takenAt; first | exact (if_pos ⟨by omega, by assumption, by omega, by assumption, by assumption⟩).symm | rw [if_neg (by rintro ⟨a1, a2, a3, a4, a5⟩; first | omega | contradiction | exact absurd a5 (by assumption) | (rw [a2] at h6; cases h6))]))) | exact congrArg _ (row_step (by omega) (by unfold takenAt; first | exact (if_pos ⟨by omega, by assumption, by omega, by assumption, by assumption⟩).symm | rw [if_neg (by rintro ⟨a1, a2, a3, a4, a5⟩; first | omega | contradiction | exact absurd a5 (by assumption) | (rw [a2] at h6; cases h6))]))), rfl⟩
              · have h9 := g9; (try simp only [cmpB, decide_eq_true_eq, decide_eq_false_iff_not, beq_iff_eq, beq_eq_false_iff_ne, bne_iff_ne, ne_eq, bne_eq_false_iff_eq, Bool.not_eq_true', Bool.not_eq_false', Int.not_lt, Int.not_le] at h9)
                refine W_skip ?_
                refine blockK_n ?_
                refine thenK_n ?_
                refine W_seqK (b' := 695) rfl rfl ?_
                refine k_op0 (d := 99) (b := 663) (j' := 1) rfl rfl rfl rfl (.plain rfl) (T_add64 rfl rfl rfl (by first | assumption | omega | (simp only [List.length_append, List.length_map, List.length_take, List.length_range, List.length_replicate, List.length_set]; omega) | (have k1 := hfi j (by omega) (by omega); first | exact k1.1 | exact k1.2 | exact (Int.toNat_lt k1.1).2 k1.2 | omega) | (have k1 := hq (by omega); omega) | (have k0 := hq (by omega); have k1 := hqb ((next.getD j default).getD i default).toNat (by omega); simp only [List.length_cons, List.length_nil]; omega))) rfl ?_
                refine k_op0 (d := 54) (b := 679) (j' := 2) rfl rfl rfl rfl (.plain rfl) (T_move rfl rfl) rfl ?_
                refine k_done rfl ?_
                refine thenK_n ?_
                refine ⟨j + 1, by (try dsimp only); omega, by (try dsimp only); omega, ?_⟩
                exact ⟨[(4, 4), (5, 5), (6, 6)], .same rfl rfl (.same rfl rfl (.same rfl rfl (.same rfl rfl (.eq rfl (.eq rfl (.nil) (by first | rfl | (rw [List.set_set]; exact congrArg _ (row_step (by omega) (by unfold takenAt; first | exact (if_pos ⟨by omega, by assumption, by omega, by assumption, by assumption⟩).symm | rw [if_neg (by rintro ⟨a1, a2, a3, a4, a5⟩; first | omega | contradiction | exact absurd a5 (by assumption) | (rw [a2] at h6; cases h6))]))) | exact congrArg _ (row_step (by omega) (by unfold takenAt; first | exact (if_pos ⟨by omega, by assumption, by omega, by assumption, by assumption⟩).symm | rw [if_neg (by rintro ⟨a1, a2, a3, a4, a5⟩; first | omega | contradiction | exact absurd a5 (by assumption) | (rw [a2] at h6; cases h6))])))) (by first | rfl | (rw [List.set_set]; exact congrArg _ (row_step (by omega) (by unfold takenAt; first | exact (if_pos ⟨by omega, by assumption, by omega, by assumption, by assumption⟩).symm | rw [if_neg (by rintro ⟨a1, a2, a3, a4, a5⟩; first | omega | contradiction | exact absurd a5 (by assumption) | (rw [a2] at h6; cases h6))]))) | exact congrArg _ (row_step (by omega) (by unfold takenAt; first | exact (if_pos ⟨by omega, by assumption, by omega, by assumption, by assumption⟩).symm | rw [if_neg (by rintro ⟨a1, a2, a3, a4, a5⟩; first | omega | contradiction | exact absurd a5 (by assumption) | (rw [a2] at h6; cases h6))]))))))), .fzE rfl (.fzE rfl (.fzE rfl (.box (by first | rfl | (rw [List.set_set]; exact congrArg _ (row_step (by omega) (by unfold takenAt; first | exact (if_pos ⟨by omega, by assumption, by omega, by assumption, by assumption⟩).symm | rw [if_neg (by rintro ⟨a1, a2, a3, a4, a5⟩; first | omega | contradiction | exact absurd a5 (by assumption) | (rw [a2] at h6; cases h6))]))) | exact congrArg _ (row_step (by omega) (by unfold takenAt; first | exact (if_pos ⟨by omega, by assumption, by omega, by assumption, by assumption⟩).symm | rw [if_neg (by rintro ⟨a1, a2, a3, a4, a5⟩; first | omega | contradiction | exact absurd a5 (by assumption) | (rw [a2] at h6; cases h6))]))) (.rowE rfl (.fzE rfl (.nil) (by first | rfl | (rw [List.set_set]; exact congrArg _ (row_step (by omega) (by unfold takenAt; first | exact (if_pos ⟨by omega, by assumption, by omega, by assumption, by assumption⟩).symm | rw [if_neg (by rintro ⟨a1, a2, a3, a4, a5⟩; first | omega | contradiction | exact absurd a5 (by assumption) | (rw [a2] at h6; cases h6))]))) | exact congrArg _ (row_step (by omega) (by unfold takenAt; first | exact (if_pos ⟨by omega, by assumption, by omega, by assumption, by assumption⟩).symm | rw [if_neg (by rintro ⟨a1, a2, a3, a4, a5⟩; first | omega | contradiction | exact absurd a5 (by assumption) | (rw [a2] at h6; cases h6))])))) (by first | rfl | (rw [List.set_set]; exact congrArg _ (row_step (by omega) (by unfold takenAt; first | exact (if_pos ⟨by omega, by assumption, by omega, by assumption, by assumption⟩).symm | rw [if_neg (by rintro ⟨a1, a2, a3, a4, a5⟩; first | omega | contradiction | exact absurd a5 (by assumption) | (rw [a2] at h6; cases h6))]))) | exact congrArg _ (row_step (by omega) (by unfold takenAt; first | exact (if_pos ⟨by omega, by assumption, by omega, by assumption, by assumption⟩).symm | rw [if_neg (by rintro ⟨a1, a2, a3, a4, a5⟩; first | omega | contradiction | exact absurd a5 (by assumption) | (rw [a2] at h6; cases h6))]))))) (by first | rfl | (rw [List.set_set]; exact congrArg _ (row_step (by omega) (by unfold takenAt; first | exact (if_pos ⟨by omega, by assumption, by omega, by assumption, by assumption⟩).symm | rw [if_neg (by rintro ⟨a1, a2, a3, a4, a5⟩; first | omega | contradiction | exact absurd a5 (by assumption) | (rw [a2] at h6; cases h6))]))) | exact congrArg _ (row_step (by omega) (by unfold takenAt; first | exact (if_pos ⟨by omega, by assumption, by omega, by assumption, by assumption⟩).symm | rw [if_neg (by rintro ⟨a1, a2, a3, a4, a5⟩; first | omega | contradiction | exact absurd a5 (by assumption) | (rw [a2] at h6; cases h6))])))) (by first | rfl | (rw [List.set_set]; exact congrArg _ (row_step (by omega) (by unfold takenAt; first | exact (if_pos ⟨by omega, by assumption, by omega, by assumption, by assumption⟩).symm | rw [if_neg (by rintro ⟨a1, a2, a3, a4, a5⟩; first | omega | contradiction | exact absurd a5 (by assumption) | (rw [a2] at h6; cases h6))]))) | exact congrArg _ (row_step (by omega) (by unfold takenAt; first | exact (if_pos ⟨by omega, by assumption, by omega, by assumption, by assumption⟩).symm | rw [if_neg (by rintro ⟨a1, a2, a3, a4, a5⟩; first | omega | contradiction | exact absurd a5 (by assumption) | (rw [a2] at h6; cases h6))])))) (by first | rfl | (rw [List.set_set]; exact congrArg _ (row_step (by omega) (by unfold takenAt; first | exact (if_pos ⟨by omega, by assumption, by omega, by assumption, by assumption⟩).symm | rw [if_neg (by rintro ⟨a1, a2, a3, a4, a5⟩; first | omega | contradiction | exact absurd a5 (by assumption) | (rw [a2] at h6; cases h6))]))) | exact congrArg _ (row_step (by omega) (by unfold takenAt; first | exact (if_pos ⟨by omega, by assumption, by omega, by assumption, by assumption⟩).symm | rw [if_neg (by rintro ⟨a1, a2, a3, a4, a5⟩; first | omega | contradiction | exact absurd a5 (by assumption) | (rw [a2] at h6; cases h6))]))), rfl⟩
            · have h8 := g8; (try simp only [cmpB, decide_eq_true_eq, decide_eq_false_iff_not, beq_iff_eq, beq_eq_false_iff_ne, bne_iff_ne, ne_eq, bne_eq_false_iff_eq, Bool.not_eq_true', Bool.not_eq_false', Int.not_lt, Int.not_le] at h8)
              refine k_no (d := 83) (j' := 22) rfl rfl rfl (g_tf rfl rfl rfl g8) ?_
              refine k_no (d := 84) (j' := 23) rfl rfl rfl (g_tf rfl rfl rfl g8) ?_
              refine k_no (d := 85) (j' := 24) rfl rfl rfl (g_tf rfl rfl rfl g8) ?_
              refine k_no (d := 86) (j' := 25) rfl rfl rfl (g_tf rfl rfl rfl g8) ?_
              refine k_no (d := 87) (j' := 26) rfl rfl rfl (g_tf rfl rfl rfl g8) ?_
              refine k_no (d := 88) (j' := 27) rfl rfl rfl (g_tf rfl rfl rfl g8) ?_
              refine k_no (d := 89) (j' := 28) rfl rfl rfl (g_tf rfl rfl rfl g8) ?_
              refine k_no (d := 90) (j' := 29) rfl rfl rfl (g_tf rfl rfl rfl g8) ?_
              refine k_no (d := 91) (j' := 30) rfl rfl rfl (g_tf rfl rfl rfl g8) ?_
              refine k_op0 (d := 92) (b := 647) (j' := 31) rfl rfl rfl rfl (.plain rfl) (T_pick_f rfl rfl rfl g8) rfl ?_
              refine k_done rfl ?_
              refine ⟨rfl, ?_⟩
              refine thenK_n ?_
              refine W_cond rfl (fun g10 => ?_) (fun g10 => ?_)
              · exact absurd (g10.symm.trans rfl) (by decide)
              · skip
                refine W_skip ?_
                refine blockK_n ?_
                refine thenK_n ?_
                refine W_seqK (b' := 695) rfl rfl ?_
                refine k_op0 (d := 99) (b := 663) (j' := 1) rfl rfl rfl rfl (.plain rfl) (T_add64 rfl rfl rfl (by first | assumption | omega | (simp only [List.length_append, List.length_map, List.length_take, List.length_range, List.length_replicate, List.length_set]; omega) | (have k1 := hfi j (by omega) (by omega); first | exact k1.1 | exact k1.2 | exact (Int.toNat_lt k1.1).2 k1.2 | omega) | (have k1 := hq (by omega); omega) | (have k0 := hq (by omega); have k1 := hqb ((next.getD j default).getD i default).toNat (by omega); simp only [List.length_cons, List.length_nil]; omega))) rfl ?_
                refine k_op0 (d := 54) (b := 679) (j' := 2) rfl rfl rfl rfl (.plain rfl) (T_move rfl rfl) rfl ?_
                refine k_done rfl ?_
                refine thenK_n ?_
                refine ⟨j + 1, by (try dsimp only); omega, by (try dsimp only); omega, ?_⟩
                exact ⟨[(4, 4), (5, 5), (6, 6)], .same rfl rfl (.same rfl rfl (.same rfl rfl (.same rfl rfl (.eq rfl (.eq rfl (.nil) (by first | rfl | (rw [List.set_set]; exact congrArg _ (row_step (by omega) (by unfold takenAt; first | exact (if_pos ⟨by omega, by assumption, by omega, by assumption, by assumption⟩).symm | rw [if_neg (by rintro ⟨a1, a2, a3, a4, a5⟩; first | omega | contradiction | exact absurd a5 (by assumption) | (rw [a2] at h6; cases h6))]))) | exact congrArg _ (row_step (by omega) (by unfold takenAt; first | exact (if_pos ⟨by omega, by assumption, by omega, by assumption, by assumption⟩).symm | rw [if_neg (by rintro ⟨a1, a2, a3, a4, a5⟩; first | omega | contradiction | exact absurd a5 (by assumption) | (rw [a2] at h6; cases h6))])))) (by first | rfl | (rw [List.set_set]; exact congrArg _ (row_step (by omega) (by unfold takenAt; first | exact (if_pos ⟨by omega, by assumption, by omega, by assumption, by assumption⟩).symm | rw [if_neg (by rintro ⟨a1, a2, a3, a4, a5⟩; first | omega | contradiction | exact absurd a5 (by assumption) | (rw [a2] at h6; cases h6))]))) | exact congrArg _ (row_step (by omega) (by unfold takenAt; first | exact (if_pos ⟨by omega, by assumption, by omega, by assumption, by assumption⟩).symm | rw [if_neg (by rintro ⟨a1, a2, a3, a4, a5⟩; first | omega | contradiction | exact absurd a5 (by assumption) | (rw [a2] at h6; cases h6))]))))))), .fzE rfl (.fzE rfl (.fzE rfl (.box (by first | rfl | (rw [List.set_set]; exact congrArg _ (row_step (by omega) (by unfold takenAt; first | exact (if_pos ⟨by omega, by assumption, by omega, by assumption, by assumption⟩).symm | rw [if_neg (by rintro ⟨a1, a2, a3, a4, a5⟩; first | omega | contradiction | exact absurd a5 (by assumption) | (rw [a2] at h6; cases h6))]))) | exact congrArg _ (row_step (by omega) (by unfold takenAt; first | exact (if_pos ⟨by omega, by assumption, by omega, by assumption, by assumption⟩).symm | rw [if_neg (by rintro ⟨a1, a2, a3, a4, a5⟩; first | omega | contradiction | exact absurd a5 (by assumption) | (rw [a2] at h6; cases h6))]))) (.rowE rfl (.fzE rfl (.nil) (by first | rfl | (rw [List.set_set]; exact congrArg _ (row_step (by omega) (by unfold takenAt; first | exact (if_pos ⟨by omega, by assumption, by omega, by assumption, by assumption⟩).symm | rw [if_neg (by rintro ⟨a1, a2, a3, a4, a5⟩; first | omega | contradiction | exact absurd a5 (by assumption) | (rw [a2] at h6; cases h6))]))) | exact congrArg _ (row_step (by omega) (by unfold takenAt; first | exact (if_pos ⟨by omega, by assumption, by omega, by assumption, by assumption⟩).symm | rw [if_neg (by rintro ⟨a1, a2, a3, a4, a5⟩; first | omega | contradiction | exact absurd a5 (by assumption) | (rw [a2] at h6; cases h6))])))) (by first | rfl | (rw [List.set_set]; exact congrArg _ (row_step (by omega) (by unfold takenAt; first | exact (if_pos ⟨by omega, by assumption, by omega, by assumption, by assumption⟩).symm | rw [if_neg (by rintro ⟨a1, a2, a3, a4, a5⟩; first | omega | contradiction | exact absurd a5 (by assumption) | (rw [a2] at h6; cases h6))]))) | exact congrArg _ (row_step (by omega) (by unfold takenAt; first | exact (if_pos ⟨by omega, by assumption, by omega, by assumption, by assumption⟩).symm | rw [if_neg (by rintro ⟨a1, a2, a3, a4, a5⟩; first | omega | contradiction | exact absurd a5 (by assumption) | (rw [a2] at h6; cases h6))]))))) (by first | rfl | (rw [List.set_set]; exact congrArg _ (row_step (by omega) (by unfold takenAt; first | exact (if_pos ⟨by omega, by assumption, by omega, by assumption, by assumption⟩).symm | rw [if_neg (by rintro ⟨a1, a2, a3, a4, a5⟩; first | omega | contradiction | exact absurd a5 (by assumption) | (rw [a2] at h6; cases h6))]))) | exact congrArg _ (row_step (by omega) (by unfold takenAt; first | exact (if_pos ⟨by omega, by assumption, by omega, by assumption, by assumption⟩).symm | rw [if_neg (by rintro ⟨a1, a2, a3, a4, a5⟩; first | omega | contradiction | exact absurd a5 (by assumption) | (rw [a2] at h6; cases h6))])))) (by first | rfl | (rw [List.set_set]; exact congrArg _ (row_step (by omega) (by unfold takenAt; first | exact (if_pos ⟨by omega, by assumption, by omega, by assumption, by assumption⟩).symm | rw [if_neg (by rintro ⟨a1, a2, a3, a4, a5⟩; first | omega | contradiction | exact absurd a5 (by assumption) | (rw [a2] at h6; cases h6))]))) | exact congrArg _ (row_step (by omega) (by unfold takenAt; first | exact (if_pos ⟨by omega, by assumption, by omega, by assumption, by assumption⟩).symm | rw [if_neg (by rintro ⟨a1, a2, a3, a4, a5⟩; first | omega | contradiction | exact absurd a5 (by assumption) | (rw [a2] at h6; cases h6))])))) (by first | rfl | (rw [List.set_set]; exact congrArg _ (row_step (by omega) (by unfold takenAt; first | exact (if_pos ⟨by omega, by assumption, by omega, by assumption, by assumption⟩).symm | rw [if_neg (by rintro ⟨a1, a2, a3, a4, a5⟩; first | omega | contradiction | exact absurd a5 (by assumption) | (rw [a2] at h6; cases h6))]))) | exact congrArg _ (row_step (by omega) (by unfold takenAt; first | exact (if_pos ⟨by omega, by assumption, by omega, by assumption, by assumption⟩).symm | rw [if_neg (by rintro ⟨a1, a2, a3, a4, a5⟩; first | omega | contradiction | exact absurd a5 (by assumption) | (rw [a2] at h6; cases h6))]))), rfl⟩
          · have h7 := g7; (try simp only [cmpB, decide_eq_true_eq, decide_eq_false_iff_not, beq_iff_eq, beq_eq_false_iff_ne, bne_iff_ne, ne_eq, bne_eq_false_iff_eq, Bool.not_eq_true', Bool.not_eq_false', Int.not_lt, Int.not_le] at h7)
            refine k_no (d := 76) (j' := 15) rfl rfl rfl (g_tf rfl rfl rfl g7) ?_
            refine k_no (d := 77) (j' := 16) rfl rfl rfl (g_tf rfl rfl rfl g7) ?_
            refine k_no (d := 78) (j' := 17) rfl rfl rfl (g_tf rfl rfl rfl g7) ?_
            refine k_no (d := 79) (j' := 18) rfl rfl rfl (g_tf rfl rfl rfl g7) ?_
            refine k_no (d := 80) (j' := 19) rfl rfl rfl (g_tf rfl rfl rfl g7) ?_
            refine k_op0 (d := 81) (b := 471) (j' := 20) rfl rfl rfl rfl (.plain rfl) (T_pick_f rfl rfl rfl g7) rfl ?_
            refine k_op0 (d := 82) (b := 487) (j' := 21) rfl rfl rfl rfl (.plain rfl) (T_move rfl rfl) rfl ?_
            refine k_no (d := 83) (j' := 22) rfl rfl rfl (g_tf rfl rfl rfl rfl) ?_
            refine k_no (d := 84) (j' := 23) rfl rfl rfl (g_tf rfl rfl rfl rfl) ?_
            refine k_no (d := 85) (j' := 24) rfl rfl rfl (g_tf rfl rfl rfl rfl) ?_
            refine k_no (d := 86) (j' := 25) rfl rfl rfl (g_tf rfl rfl rfl rfl) ?_
            refine k_no (d := 87) (j' := 26) rfl rfl rfl (g_tf rfl rfl rfl rfl) ?_
            refine k_no (d := 88) (j' := 27) rfl rfl rfl (g_tf rfl rfl rfl rfl) ?_
            refine k_no (d := 89) (j' := 28) rfl rfl rfl (g_tf rfl rfl rfl rfl) ?_
            refine k_no (d := 90) (j' := 29) rfl rfl rfl (g_tf rfl rfl rfl rfl) ?_
            refine k_no (d := 91) (j' := 30) rfl rfl rfl (g_tf rfl rfl rfl rfl) ?_
            refine k_op0 (d := 92) (b := 647) (j' := 31) rfl rfl rfl rfl (.plain rfl) (T_pick_f rfl rfl rfl rfl) rfl ?_
            refine k_done rfl ?_
            refine ⟨rfl, ?_⟩
            refine thenK_n ?_
            refine W_cond rfl (fun g11 => ?_) (fun g11 => ?_)
            · exact absurd (g11.symm.trans rfl) (by decide)
            · skip
              refine W_skip ?_
              refine blockK_n ?_
              refine thenK_n ?_
              refine W_seqK (b' := 695) rfl rfl ?_
              refine k_op0 (d := 99) (b := 663) (j' := 1) rfl rfl rfl rfl (.plain rfl) (T_add64 rfl rfl rfl (by first | assumption | omega | (simp only [List.length_append, List.length_map, List.length_take, List.length_range, List.length_replicate, List.length_set]; omega) | (have k1 := hfi j (by omega) (by omega); first | exact k1.1 | exact k1.2 | exact (Int.toNat_lt k1.1).2 k1.2 | omega) | (have k1 := hq (by omega); omega) | (have k0 := hq (by omega); have k1 := hqb ((next.getD j default).getD i default).toNat (by omega); simp only [List.length_cons, List.length_nil]; omega))) rfl ?_
              refine k_op0 (d := 54) (b := 679) (j' := 2) rfl rfl rfl rfl (.plain rfl) (T_move rfl rfl) rfl ?_
              refine k_done rfl ?_
              refine thenK_n ?_
              refine ⟨j + 1, by (try dsimp only); omega, by (try dsimp only); omega, ?_⟩
              exact ⟨[(4, 4), (5, 5), (6, 6)], .same rfl rfl (.same rfl rfl (.same rfl rfl (.same rfl rfl (.eq rfl (.eq rfl (.nil) (by first | rfl | (rw [List.set_set]; exact congrArg _ (row_step (by omega) (by unfold takenAt; first | exact (if_pos ⟨by omega, by assumption, by omega, by assumption, by assumption⟩).symm | rw [if_neg (by rintro ⟨a1, a2, a3, a4, a5⟩; first | omega | contradiction | exact absurd a5 (by assumption) | (rw [a2] at h6; cases h6))]))) | exact congrArg _ (row_step (by omega) (by unfold takenAt; first | exact (if_pos ⟨by omega, by assumption, by omega, by assumption, by assumption⟩).symm | rw [if_neg (by rintro ⟨a1, a2, a3, a4, a5⟩; first | omega | contradiction | exact absurd a5 (by assumption) | (rw [a2] at h6; cases h6))])))) (by first | rfl | (rw [List.set_set]; exact congrArg _ (row_step (by omega) (by unfold takenAt; first | exact (if_pos ⟨by omega, by assumption, by omega, by assumption, by assumption⟩).symm | rw [if_neg (by rintro ⟨a1, a2, a3, a4, a5⟩; first | omega | contradiction | exact absurd a5 (by assumption) | (rw [a2] at h6; cases h6))]))) | exact congrArg _ (row_step (by omega) (by unfold takenAt; first | exact (if_pos ⟨by omega, by assumption, by omega, by assumption, by assumption⟩).symm | rw [if_neg (by rintro ⟨a1, a2, a3, a4, a5⟩; first | omega | contradiction | exact absurd a5 (by assumption) | (rw [a2] at h6; cases h6))]))))))), .fzE rfl (.fzE rfl (.fzE rfl (.box (by first | rfl | (rw [List.set_set]; exact congrArg _ (row_step (by omega) (by unfold takenAt; first | exact (if_pos ⟨by omega, by assumption, by omega, by assumption, by assumption⟩).symm | rw [if_neg (by rintro ⟨a1, a2, a3, a4, a5⟩; first | omega | contradiction | exact absurd a5 (by assumption) | (rw [a2] at h6; cases h6))]))) | exact congrArg _ (row_step (by omega) (by unfold takenAt; first | exact (if_pos ⟨by omega, by assumption, by omega, by assumption, by assumption⟩).symm | rw [if_neg (by rintro ⟨a1, a2, a3, a4, a5⟩; first | omega | contradiction | exact absurd a5 (by assumption) | (rw [a2] at h6; cases h6))]))) (.rowE rfl (.fzE rfl (.nil) (by first | rfl | (rw [List.set_set]; exact congrArg _ (row_step (by omega) (by unfold takenAt; first | exact (if_pos ⟨by omega, by assumption, by omega, by assumption, by assumption⟩).symm | rw [if_neg (by rintro ⟨a1, a2, a3, a4, a5⟩; first | omega | contradiction | exact absurd a5 (by assumption) | (rw [a2] at h6; cases h6))]))) | exact congrArg _ (row_step (by omega) (by unfold takenAt; first | exact (if_pos ⟨by omega, by assumption, by omega, by assumption, by assumption⟩).symm | rw [if_neg (by rintro ⟨a1, a2, a3, a4, a5⟩; first | omega | contradiction | exact absurd a5 (by assumption) | (rw [a2] at h6; cases h6))])))) (by first | rfl | (rw [List.set_set]; exact congrArg _ (row_step (by omega) (by unfold takenAt; first | exact (if_pos ⟨by omega, by assumption, by omega, by assumption, by assumption⟩).symm | rw [if_neg (by rintro ⟨a1, a2, a3, a4, a5⟩; first | omega | contradiction | exact absurd a5 (by assumption) | (rw [a2] at h6; cases h6))]))) | exact congrArg _ (row_step (by omega) (by unfold takenAt; first | exact (if_pos ⟨by omega, by assumption, by omega, by assumption, by assumption⟩).symm | rw [if_neg (by rintro ⟨a1, a2, a3, a4, a5⟩; first | omega | contradiction | exact absurd a5 (by assumption) | (rw [a2] at h6; cases h6))]))))) (by first | rfl | (rw [List.set_set]; exact congrArg _ (row_step (by omega) (by unfold takenAt; first | exact (if_pos ⟨by omega, by assumption, by omega, by assumption, by assumption⟩).symm | rw [if_neg (by rintro ⟨a1, a2, a3, a4, a5⟩; first | omega | contradiction | exact absurd a5 (by assumption) | (rw [a2] at h6; cases h6))]))) | exact congrArg _ (row_step (by omega) (by unfold takenAt; first | exact (if_pos ⟨by omega, by assumption, by omega, by assumption, by assumption⟩).symm | rw [if_neg (by rintro ⟨a1, a2, a3, a4, a5⟩; first | omega | contradiction | exact absurd a5 (by assumption) | (rw [a2] at h6; cases h6))])))) (by first | rfl | (rw [List.set_set]; exact congrArg _ (row_step (by omega) (by unfold takenAt; first | exact (if_pos ⟨by omega, by assumption, by omega, by assumption, by assumption⟩).symm | rw [if_neg (by rintro ⟨a1, a2, a3, a4, a5⟩; first | omega | contradiction | exact absurd a5 (by assumption) | (rw [a2] at h6; cases h6))]))) | exact congrArg _ (row_step (by omega) (by unfold takenAt; first | exact (if_pos ⟨by omega, by assumption, by omega, by assumption, by assumption⟩).symm | rw [if_neg (by rintro ⟨a1, a2, a3, a4, a5⟩; first | omega | contradiction | exact absurd a5 (by assumption) | (rw [a2] at h6; cases h6))])))) (by first | rfl | (rw [List.set_set]; exact congrArg _ (row_step (by omega) (by unfold takenAt; first | exact (if_pos ⟨by omega, by assumption, by omega, by assumption, by assumption⟩).symm | rw [if_neg (by rintro ⟨a1, a2, a3, a4, a5⟩; first | omega | contradiction | exact absurd a5 (by assumption) | (rw [a2] at h6; cases h6))]))) | exact congrArg _ (row_step (by omega) (by unfold takenAt; first | exact (if_pos ⟨by omega, by assumption, by omega, by assumption, by assumption⟩).symm | rw [if_neg (by rintro ⟨a1, a2, a3, a4, a5⟩; first | omega | contradiction | exact absurd a5 (by assumption) | (rw [a2] at h6; cases h6))]))), rfl⟩
        · have h6 := g6; (try simp only [cmpB, decide_eq_true_eq, decide_eq_false_iff_not, beq_iff_eq, beq_eq_false_iff_ne, bne_iff_ne, ne_eq, bne_eq_false_iff_eq, Bool.not_eq_true', Bool.not_eq_false', Int.not_lt, Int.not_le] at h6)
          refine k_no (d := 71) (j' := 10) rfl rfl rfl (g_tf rfl rfl rfl g6) ?_
          refine k_no (d := 72) (j' := 11) rfl rfl rfl (g_tf rfl rfl rfl g6) ?_
          refine k_no (d := 73) (j' := 12) rfl rfl rfl (g_tf rfl rfl rfl g6) ?_
          refine k_op0 (d := 74) (b := 359) (j' := 13) rfl rfl rfl rfl (.plain rfl) (T_pick_f rfl rfl rfl g6) rfl ?_
          refine k_op0 (d := 75) (b := 375) (j' := 14) rfl rfl rfl rfl (.plain rfl) (T_move rfl rfl) rfl ?_
          refine k_no (d := 76) (j' := 15) rfl rfl rfl (g_tf rfl rfl rfl rfl) ?_
          refine k_no (d := 77) (j' := 16) rfl rfl rfl (g_tf rfl rfl rfl rfl) ?_
          refine k_no (d := 78) (j' := 17) rfl rfl rfl (g_tf rfl rfl rfl rfl) ?_
          refine k_no (d := 79) (j' := 18) rfl rfl rfl (g_tf rfl rfl rfl rfl) ?_
          refine k_no (d := 80) (j' := 19) rfl rfl rfl (g_tf rfl rfl rfl rfl) ?_
          refine k_op0 (d := 81) (b := 471) (j' := 20) rfl rfl rfl rfl (.plain rfl) (T_pick_f rfl rfl rfl rfl) rfl ?_
          refine k_op0 (d := 82) (b := 487) (j' := 21) rfl rfl rfl rfl (.plain rfl) (T_move rfl rfl) rfl ?_
          refine k_no (d := 83) (j' := 22) rfl rfl rfl (g_tf rfl rfl rfl rfl) ?_
          refine k_no (d := 84) (j' := 23) rfl rfl rfl (g_tf rfl rfl rfl rfl) ?_
          refine k_no (d := 85) (j' := 24) rfl rfl rfl (g_tf rfl rfl rfl rfl) ?_
          refine k_no (d := 86) (j' := 25) rfl rfl rfl (g_tf rfl rfl rfl rfl) ?_
          refine k_no (d := 87) (j' := 26) rfl rfl rfl (g_tf rfl rfl rfl rfl) ?_
          refine k_no (d := 88) (j' := 27) rfl rfl rfl (g_tf rfl rfl rfl rfl) ?_
          refine k_no (d := 89) (j' := 28) rfl rfl rfl (g_tf rfl rfl rfl rfl) ?_
          refine k_no (d := 90) (j' := 29) rfl rfl rfl (g_tf rfl rfl rfl rfl) ?_
          refine k_no (d := 91) (j' := 30) rfl rfl rfl (g_tf rfl rfl rfl rfl) ?_
          refine k_op0 (d := 92) (b := 647) (j' := 31) rfl rfl rfl rfl (.plain rfl) (T_pick_f rfl rfl rfl rfl) rfl ?_
          refine k_done rfl ?_
          refine ⟨rfl, ?_⟩
          refine thenK_n ?_
          refine W_cond rfl (fun g12 => ?_) (fun g12 => ?_)
          · exact absurd (g12.symm.trans rfl) (by decide)
          · skip
            refine W_skip ?_
            refine blockK_n ?_
            refine thenK_n ?_
            refine W_seqK (b' := 695) rfl rfl ?_
            refine k_op0 (d := 99) (b := 663) (j' := 1) rfl rfl rfl rfl (.plain rfl) (T_add64 rfl rfl rfl (by first | assumption | omega | (simp only [List.length_append, List.length_map, List.length_take, List.length_range, List.length_replicate, List.length_set]; omega) | (have k1 := hfi j (by omega) (by omega); first | exact k1.1 | exact k1.2 | exact (Int.toNat_lt k1.1).2 k1.2 | omega) | (have k1 := hq (by omega); omega) | (have k0 := hq (by omega); have k1 := hqb ((next.getD j default).getD i default).toNat (by omega); simp only [List.length_cons, List.length_nil]; omega))) rfl ?_
            refine k_op0 (d := 54) (b := 679) (j' := 2) rfl rfl rfl rfl (.plain rfl) (T_move rfl rfl) rfl ?_
            refine k_done rfl ?_
            refine thenK_n ?_
            refine ⟨j + 1, by (try dsimp only); omega, by (try dsimp only); omega, ?_⟩
            exact ⟨[(4, 4), (5, 5), (6, 6)], .same rfl rfl (.same rfl rfl (.same rfl rfl (.same rfl rfl (.eq rfl (.eq rfl (.nil) (by first | rfl | (rw [List.set_set]; exact congrArg _ (row_step (by omega) (by unfold takenAt; first | exact (if_pos ⟨by omega, by assumption, by omega, by assumption, by assumption⟩).symm | rw [if_neg (by rintro ⟨a1, a2, a3, a4, a5⟩; first | omega | contradiction | exact absurd a5 (by assumption) | (rw [a2] at h6; cases h6))]))) | exact congrArg _ (row_step (by omega) (by unfold takenAt; first | exact (if_pos ⟨by omega, by assumption, by omega, by assumption, by assumption⟩).symm | rw [if_neg (by rintro ⟨a1, a2, a3, a4, a5⟩; first | omega | contradiction | exact absurd a5 (by assumption) | (rw [a2] at h6; cases h6))])))) (by first | rfl | (rw [List.set_set]; exact congrArg _ (row_step (by omega) (by unfold takenAt; first | exact (if_pos ⟨by omega, by assumption, by omega, by assumption, by assumption⟩).symm | rw [if_neg (by rintro ⟨a1, a2, a3, a4, a5⟩; first | omega | contradiction | exact absurd a5 (by assumption) | (rw [a2] at h6; cases h6))]))) | exact congrArg _ (row_step (by omega) (by unfold takenAt; first | exact (if_pos ⟨by omega, by assumption, by omega, by assumption, by assumption⟩).symm | rw [if_neg (by rintro ⟨a1, a2, a3, a4, a5⟩; first | omega | contradiction | exact absurd a5 (by assumption) | (rw [a2] at h6; cases h6))]))))))), .fzE rfl (.fzE rfl (.fzE rfl (.box (by first | rfl | (rw [List.set_set]; exact congrArg _ (row_step (by omega) (by unfold takenAt; first | exact (if_pos ⟨by omega, by assumption, by omega, by assumption, by assumption⟩).symm | rw [if_neg (by rintro ⟨a1, a2, a3, a4, a5⟩; first | omega | contradiction | exact absurd a5 (by assumption) | (rw [a2] at h6; cases h6))]))) | exact congrArg _ (row_step (by omega) (by unfold takenAt; first | exact (if_pos ⟨by omega, by assumption, by omega, by assumption, by assumption⟩).symm | rw [if_neg (by rintro ⟨a1, a2, a3, a4, a5⟩; first | omega | contradiction | exact absurd a5 (by assumption) | (rw [a2] at h6; cases h6))]))) (.rowE rfl (.fzE rfl (.nil) (by first | rfl | (rw [List.set_set]; exact congrArg _ (row_step (by omega) (by unfold takenAt; first | exact (if_pos ⟨by omega, by assumption, by omega, by assumption, by assumption⟩).symm | rw [if_neg (by rintro ⟨a1, a2, a3, a4, a5⟩; first | omega | contradiction | exact absurd a5 (by assumption) | (rw [a2] at h6; cases h6))]))) | exact congrArg _ (row_step (by omega) (by unfold takenAt; first | exact (if_pos ⟨by omega, by assumption, by omega, by assumption, by assumption⟩).symm | rw [if_neg (by rintro ⟨a1, a2, a3, a4, a5⟩; first | omega | contradiction | exact absurd a5 (by assumption) | (rw [a2] at h6; cases h6))])))) (by first | rfl | (rw [List.set_set]; exact congrArg _ (row_step (by omega) (by unfold takenAt; first | exact (if_pos ⟨by omega, by assumption, by omega, by assumption, by assumption⟩).symm | rw [if_neg (by rintro ⟨a1, a2, a3, a4, a5⟩; first | omega | contradiction | exact absurd a5 (by assumption) | (rw [a2] at h6; cases h6))]))) | exact congrArg _ (row_step (by omega) (by unfold takenAt; first | exact (if_pos ⟨by omega, by assumption, by omega, by assumption, by assumption⟩).symm | rw [if_neg (by rintro ⟨a1, a2, a3, a4, a5⟩; first | omega | contradiction | exact absurd a5 (by assumption) | (rw [a2] at h6; cases h6))]))))) (by first | rfl | (rw [List.set_set]; exact congrArg _ (row_step (by omega) (by unfold takenAt; first | exact (if_pos ⟨by omega, by assumption, by omega, by assumption, by assumption⟩).symm | rw [if_neg (by rintro ⟨a1, a2, a3, a4, a5⟩; first | omega | contradiction | exact absurd a5 (by assumption) | (rw [a2] at h6; cases h6))]))) | exact congrArg _ (row_step (by omega) (by unfold takenAt; first | exact (if_pos ⟨by omega, by assumption, by omega, by assumption, by assumption⟩).symm | rw [if_neg (by rintro ⟨a1, a2, a3, a4, a5⟩; first | omega | contradiction | exact absurd a5 (by assumption) | (rw [a2] at h6; cases h6))])))) (by first | rfl | (rw [List.set_set]; exact congrArg _ (row_step (by omega) (by unfold takenAt; first | exact (if_pos ⟨by omega, by assumption, by omega, by assumption, by assumption⟩).symm | rw [if_neg (by rintro ⟨a1, a2, a3, a4, a5⟩; first | omega | contradiction | exact absurd a5 (by assumption) | (rw [a2] at h6; cases h6))]))) | exact congrArg _ (row_step (by omega) (by unfold takenAt; first | exact (if_pos ⟨by omega, by assumption, by omega, by assumption, by assumption⟩).symm | rw [if_neg (by rintro ⟨a1, a2, a3, a4, a5⟩; first | omega | contradiction | exact absurd a5 (by assumption) | (rw [a2] at h6; cases h6))])))) (by first | rfl | (rw [List.set_set]; exact congrArg _ (row_step (by omega) (by unfold takenAt; first | exact (if_pos ⟨by omega, by assumption, by omega, by assumption, by assumption⟩).symm | rw [if_neg (by rintro ⟨a1, a2, a3, a4, a5⟩; first | omega | contradiction | exact absurd a5 (by assumption) | (rw [a2] at h6; cases h6))]))) | exact congrArg _ (row_step (by omega) (by unfold takenAt; first | exact (if_pos ⟨by omega, by assumption, by omega, by assumption, by assumption⟩).symm | rw [if_neg (by rintro ⟨a1, a2, a3, a4, a5⟩; first | omega | contradiction | exact absurd a5 (by assumption) | (rw [a2] at h6; cases h6))]))), rfl⟩
      · have h5 := g5; (try simp only [cmpB, decide_eq_true_eq, decide_eq_false_iff_not, beq_iff_eq, beq_eq_false_iff_ne, bne_iff_ne, ne_eq, bne_eq_false_iff_eq, Bool.not_eq_true', Bool.not_eq_false', Int.not_lt, Int.not_le] at h5)
        refine k_no (d := 65) (j' := 4) rfl rfl rfl (g_tf rfl rfl rfl g5) ?_
        refine k_no (d := 66) (j' := 5) rfl rfl rfl (g_tf rfl rfl rfl g5) ?_
        refine k_no (d := 67) (j' := 6) rfl rfl rfl (g_tf rfl rfl rfl g5) ?_
        refine k_no (d := 68) (j' := 7) rfl rfl rfl (g_tf rfl rfl rfl g5) ?_
        refine k_op0 (d := 69) (b := 279) (j' := 8) rfl rfl rfl rfl (.plain rfl) (T_pick_f rfl rfl rfl g5) rfl ?_
        refine k_op0 (d := 70) (b := 295) (j' := 9) rfl rfl rfl rfl (.plain rfl) (T_move rfl rfl) rfl ?_
        refine k_no (d := 71) (j' := 10) rfl rfl rfl (g_tf rfl rfl rfl rfl) ?_
        refine k_no (d := 72) (j' := 11) rfl rfl rfl (g_tf rfl rfl rfl rfl) ?_
        refine k_no (d := 73) (j' := 12) rfl rfl rfl (g_tf rfl rfl rfl rfl) ?_
        refine k_op0 (d := 74) (b := 359) (j' := 13) rfl rfl rfl rfl (.plain rfl) (T_pick_f rfl rfl rfl rfl) rfl ?_
        refine k_op0 (d := 75) (b := 375) (j' := 14) rfl rfl rfl rfl (.plain rfl) (T_move rfl rfl) rfl ?_
        refine k_no (d := 76) (j' := 15) rfl rfl rfl (g_tf rfl rfl rfl rfl) ?_
        refine k_no (d := 77) (j' := 16) rfl rfl rfl (g_tf rfl rfl rfl rfl) ?_
        refine k_no (d := 78) (j' := 17) rfl rfl rfl (g_tf rfl rfl rfl rfl) ?_
        refine k_no (d := 79) (j' := 18) rfl rfl rfl (g_tf rfl rfl rfl rfl) ?_
        refine k_no (d := 80) (j' := 19) rfl rfl rfl (g_tf rfl rfl rfl rfl) ?_
        refine k_op0 (d := 81) (b := 471) (j' := 20) rfl rfl rfl rfl (.plain rfl) (T_pick_f rfl rfl rfl rfl) rfl ?_
        refine k_op0 (d := 82) (b := 487) (j' := 21) rfl rfl rfl rfl (.plain rfl) (T_move rfl rfl) rfl ?_
        refine k_no (d := 83) (j' := 22) rfl rfl rfl (g_tf rfl rfl rfl rfl) ?_
        refine k_no (d := 84) (j' := 23) rfl rfl rfl (g_tf rfl rfl rfl rfl) ?_
        refine k_no (d := 85) (j' := 24) rfl rfl rfl (g_tf rfl rfl rfl rfl) ?_
        refine k_no (d := 86) (j' := 25) rfl rfl rfl (g_tf rfl rfl rfl rfl) ?_
        refine k_no (d := 87) (j' := 26) rfl rfl rfl (g_tf rfl rfl rfl rfl) ?_
        refine k_no (d := 88) (j' := 27) rfl rfl rfl (g_tf rfl rfl rfl rfl) ?_
        refine k_no (d := 89) (j' := 28) rfl rfl rfl (g_tf rfl rfl rfl rfl) ?_
        refine k_no (d := 90) (j' := 29) rfl rfl rfl (g_tf rfl rfl rfl rfl) ?_
        refine k_no (d := 91) (j' := 30) rfl rfl rfl (g_tf rfl rfl rfl rfl) ?_
        refine k_op0 (d := 92) (b := 647) (j' := 31) rfl rfl rfl rfl (.plain rfl) (T_pick_f rfl rfl rfl rfl) rfl ?_
        refine k_done rfl ?_
        refine ⟨rfl, ?_⟩
        refine thenK_n ?_
        refine W_cond rfl (fun g13 => ?_) (fun g13 => ?_)
        · exact absurd (g13.symm.trans rfl) (by decide)
        · skip
          refine W_skip ?_
          refine blockK_n ?_
          refine thenK_n ?_
          refine W_seqK (b' := 695) rfl rfl ?_
          refine k_op0 (d := 99) (b := 663) (j' := 1) rfl rfl rfl rfl (.plain rfl) (T_add64 rfl rfl rfl (by first | assumption | omega | (simp only [List.length_append, List.length_map, List.length_take, List.length_range, List.length_replicate, List.length_set]; omega) | (have k1 := hfi j (by omega) (by omega); first | exact k1.1 | exact k1.2 | exact (Int.toNat_lt k1.1).2 k1.2 | omega) | (have k1 := hq (by omega); omega) | (have k0 := hq (by omega); have k1 := hqb ((next.getD j default).getD i default).toNat (by omega); simp only [List.length_cons, List.length_nil]; omega))) rfl ?_
          refine k_op0 (d := 54) (b := 679) (j' := 2) rfl rfl rfl rfl (.plain rfl) (T_move rfl rfl) rfl ?_
          refine k_done rfl ?_
          refine thenK_n ?_
          refine ⟨j + 1, by (try dsimp only); omega, by (try dsimp only); omega, ?_⟩
          exact ⟨[(4, 4), (5, 5), (6, 6)], .same rfl rfl (.same rfl rfl (.same rfl rfl (.same rfl rfl (.eq rfl (.eq rfl (.nil) (by first | rfl | (rw [List.set_set]; exact congrArg _ (row_step (by omega) (by unfold takenAt; first | exact (if_pos ⟨by omega, by assumption, by omega, by assumption, by assumption⟩).symm | rw [if_neg (by rintro ⟨a1, a2, a3, a4, a5⟩; first | omega | contradiction | exact absurd a5 (by assumption) | (rw [a2] at h6; cases h6))]))) | exact congrArg _ (row_step (by omega) (by unfold takenAt; first | exact (if_pos ⟨by omega, by assumption, by omega, by assumption, by assumption⟩).symm | rw [if_neg (by rintro ⟨a1, a2, a3, a4, a5⟩; first | omega | contradiction | exact absurd a5 (by assumption) | (rw [a2] at h6; cases h6))])))) (by first | rfl | (rw [List.set_set]; exact congrArg _ (row_step (by omega) (by unfold takenAt; first | exact (if_pos ⟨by omega, by assumption, by omega, by assumption, by assumption⟩).symm | rw [if_neg (by rintro ⟨a1, a2, a3, a4, a5⟩; first | omega | contradiction | exact absurd a5 (by assumption) | (rw [a2] at h6; cases h6))]))) | exact congrArg _ (row_step (by omega) (by unfold takenAt; first | exact (if_pos ⟨by omega, by assumption, by omega, by assumption, by assumption⟩).symm | rw [if_neg (by rintro ⟨a1, a2, a3, a4, a5⟩; first | omega | contradiction | exact absurd a5 (by assumption) | (rw [a2] at h6; cases h6))]))))))), .fzE rfl (.fzE rfl (.fzE rfl (.box (by first | rfl | (rw [List.set_set]; exact congrArg _ (row_step (by omega) (by unfold takenAt; first | exact (if_pos ⟨by omega, by assumption, by omega, by assumption, by assumption⟩).symm | rw [if_neg (by rintro ⟨a1, a2, a3, a4, a5⟩; first | omega | contradiction | exact absurd a5 (by assumption) | (rw [a2] at h6; cases h6))]))) | exact congrArg _ (row_step (by omega) (by unfold takenAt; first | exact (if_pos ⟨by omega, by assumption, by omega, by assumption, by assumption⟩).symm | rw [if_neg (by rintro ⟨a1, a2, a3, a4, a5⟩; first | omega | contradiction | exact absurd a5 (by assumption) | (rw [a2] at h6; cases h6))]))) (.rowE rfl (.fzE rfl (.nil) (by first | rfl | (rw [List.set_set]; exact congrArg _ (row_step (by omega) (by unfold takenAt; first | exact (if_pos ⟨by omega, by assumption, by omega, by assumption, by assumption⟩).symm | rw [if_neg (by rintro ⟨a1, a2, a3, a4, a5⟩; first | omega | contradiction | exact absurd a5 (by assumption) | (rw [a2] at h6; cases h6))]))) | exact congrArg _ (row_step (by omega) (by unfold takenAt; first | exact (if_pos ⟨by omega, by assumption, by omega, by assumption, by assumption⟩).symm | rw [if_neg (by rintro ⟨a1, a2, a3, a4, a5⟩; first | omega | contradiction | exact absurd a5 (by assumption) | (rw [a2] at h6; cases h6))])))) (by first | rfl | (rw [List.set_set]; exact congrArg _ (row_step (by omega) (by unfold takenAt; first | exact (if_pos ⟨by omega, by assumption, by omega, by assumption, by assumption⟩).symm | rw [if_neg (by rintro ⟨a1, a2, a3, a4, a5⟩; first | omega | contradiction | exact absurd a5 (by assumption) | (rw [a2] at h6; cases h6))]))) | exact congrArg _ (row_step (by omega) (by unfold takenAt; first | exact (if_pos ⟨by omega, by assumption, by omega, by assumption, by assumption⟩).symm | rw [if_neg (by rintro ⟨a1, a2, a3, a4, a5⟩; first | omega | contradiction | exact absurd a5 (by assumption) | (rw [a2] at h6; cases h6))]))))) (by first | rfl | (rw [List.set_set]; exact congrArg _ (row_step (by omega) (by unfold takenAt; first | exact (if_pos ⟨by omega, by assumption, by omega, by assumption, by assumption⟩).symm | rw [if_neg (by rintro ⟨a1, a2, a3, a4, a5⟩; first | omega | contradiction | exact absurd a5 (by assumption) | (rw [a2] at h6; cases h6))]))) | exact congrArg _ (row_step (by omega) (by unfold takenAt; first | exact (if_pos ⟨by omega, by assumption, by omega, by assumption, by assumption⟩).symm | rw [if_neg (by rintro ⟨a1, a2, a3, a4, a5⟩; first | omega | contradiction | exact absurd a5 (by assumption) | (rw [a2] at h6; cases h6))])))) (by first | rfl | (rw [List.set_set]; exact congrArg _ (row_step (by omega) (by unfold takenAt; first | exact (if_pos ⟨by omega, by assumption, by omega, by assumption, by assumption⟩).symm | rw [if_neg (by rintro ⟨a1, a2, a3, a4, a5⟩; first | omega | contradiction | exact absurd a5 (by assumption) | (rw [a2] at h6; cases h6))]))) | exact congrArg _ (row_step (by omega) (by unfold takenAt; first | exact (if_pos ⟨by omega, by assumption, by omega, by assumption, by assumption⟩).symm | rw [if_neg (by rintro ⟨a1, a2, a3, a4, a5⟩; first | omega | contradiction | exact absurd a5 (by assumption) | (rw [a2] at h6; cases h6))])))) (by first | rfl | (rw [List.set_set]; exact congrArg _ (row_step (by omega) (by unfold takenAt; first | exact (if_pos ⟨by omega, by assumption, by omega, by assumption, by assumption⟩).symm | rw [if_neg (by rintro ⟨a1, a2, a3, a4, a5⟩; first | omega | contradiction | exact absurd a5 (by assumption) | (rw [a2] at h6; cases h6))]))) | exact congrArg _ (row_step (by omega) (by unfold takenAt; first | exact (if_pos ⟨by omega, by assumption, by omega, by assumption, by assumption⟩).symm | rw [if_neg (by rintro ⟨a1, a2, a3, a4, a5⟩; first | omega | contradiction | exact absurd a5 (by assumption) | (rw [a2] at h6; cases h6))]))), rfl⟩
    · have h4 := g4; (try simp only [cmpB, decide_eq_true_eq, decide_eq_false_iff_not, beq_iff_eq, beq_eq_false_iff_ne, bne_iff_ne, ne_eq, bne_eq_false_iff_eq, Bool.not_eq_true', Bool.not_eq_false', Int.not_lt, Int.not_le] at h4)
      refine W_exit ?_
      refine thenK_e ?_
      refine thenK_e ?_
      refine blockK_hit ?_
      refine thenK_n ?_
      refine W_seq ?_
      refine W_seqK (b' := 55) rfl rfl ?_
      refine k_op0 (d := 100) (b := 23) (j' := 1) rfl rfl rfl rfl (.plain rfl) (T_move rfl rfl) rfl ?_
      refine k_op0 (d := 6) (b := 39) (j' := 2) rfl rfl rfl rfl (.plain rfl) (T_assign rfl rfl) rfl ?_
      refine k_done rfl ?_
      refine thenK_n ?_
      refine W_ret ?_
      -- end 0
      exact .mk [(4, 5)] (.inr rfl) (.tmp rfl (.nil)) rfl (.rowE rfl (.nil) (by first | rfl | (have e : j = f.blocks.length := (by omega); rw [e, List.take_of_length_le (by simp)]; simp))) rfl
end Lg
end Go.Proofs.Ytpfhmodjjljpjaa

namespace Go.Proofs.Ytpfhmodjjljpjaa
open Go.RowKit
namespace Lg

/-! ### Depth first: what is reached -/
/-- x is reached from b. -/
inductive RF (next : List (List Int)) (bar : Int) (b : Int) : Nat → Prop
  | refl (h0 : 0 ≤ b) (h1 : b < (next.length : Int)) (h2 : b ≠ bar) : RF next bar b b.toNat
  | step {x : Nat} {y : Int} (h : RF next bar b x) (hy : y ∈ next.getD x default) (h0 : 0 ≤ y) (h1 : y < (next.length : Int)) (h2 : y ≠ bar) : RF next bar b y.toNat

theorem RF.lt {next : List (List Int)} {bar b : Int} {x : Nat} (h : RF next bar b x) : x < next.length := by
  cases h <;> omega
theorem RF.head {next : List (List Int)} {bar b y : Int} {x : Nat} (h0 : 0 ≤ b) (h1 : b < (next.length : Int)) (h2 : b ≠ bar) (hy : y ∈ next.getD b.toNat default) (h : RF next bar y x) : RF next bar b x := by
  induction h with
  | refl g0 g1 g2 => exact .step (.refl h0 h1 h2) hy g0 g1 g2
  | step _ hy g0 g1 g2 ih => exact .step ih hy g0 g1 g2

theorem getD_set_true {s : List Bool} {i x : Nat} (h : i < s.length) : (s.set i true).getD x default = if x = i then true else s.getD x default := by
  rw [List.getD_eq_getElem?_getD, List.getElem?_set]
  by_cases hx : i = x
  · subst hx; simp [h]
  · simp [hx, Ne.symm hx, List.getD_eq_getElem?_getD]
theorem count_mono : ∀ {s s' : List Bool}, s'.length = s.length → (∀ x, s.getD x default = true → s'.getD x default = true) → s'.count false ≤ s.count false
  | [], [], _, _ => Nat.le_refl _
  | a :: s, b :: s', hl, h => by
    have h0 := h 0
    have ih := count_mono (s := s) (s' := s') (by simpa using hl) (fun x hx => by have := h (x + 1); simp only [List.getD_cons_succ] at this; exact this hx)
    simp only [List.getD_cons_zero] at h0
    cases a <;> cases b <;> simp_all <;> omega
theorem count_set_lt {s : List Bool} {i : Nat} (h : i < s.length) (hf : s.getD i default = false) : (s.set i true).count false + 1 = s.count false := by
  have hg : s[i] = false := by
    rw [List.getD_eq_getElem?_getD, List.getElem?_eq_getElem h] at hf
    exact hf
  have hpos : 0 < s.count false := List.count_pos_iff.2 (hg ▸ List.getElem_mem h)
  rw [List.count_set h]
  simp [hg]
  omega

structure VOK (next : List (List Int)) (bar b : Int) (s o s' o' : List Bool) : Prop where
  ls : s'.length = next.length
  lo : o'.length = next.length
  mono : ∀ x, s.getD x default = true → s'.getD x default = true
  outs : ∀ x, o'.getD x default = true ↔ o.getD x default = true ∨ (s'.getD x default = true ∧ s.getD x default = false)
  fr : ∀ x, s'.getD x default = true → s.getD x default = true ∨ RF next bar b x
  clos : ∀ x, s'.getD x default = true → s.getD x default = false → ∀ y ∈ next.getD x default, 0 ≤ y → y < (next.length : Int) → y ≠ bar → s'.getD y.toNat default = true
  self : 0 ≤ b → b < (next.length : Int) → b ≠ bar → s'.getD b.toNat default = true

structure FOK (next : List (List Int)) (bar : Int) (l : List Int) (s o s' o' : List Bool) : Prop where
  ls : s'.length = next.length
  lo : o'.length = next.length
  mono : ∀ x, s.getD x default = true → s'.getD x default = true
  outs : ∀ x, o'.getD x default = true ↔ o.getD x default = true ∨ (s'.getD x default = true ∧ s.getD x default = false)
  fr : ∀ x, s'.getD x default = true → s.getD x default = true ∨ ∃ y ∈ l, RF next bar y x
  clos : ∀ x, s'.getD x default = true → s.getD x default = false → ∀ y ∈ next.getD x default, 0 ≤ y → y < (next.length : Int) → y ≠ bar → s'.getD y.toNat default = true
  all : ∀ y ∈ l, 0 ≤ y → y < (next.length : Int) → y ≠ bar → s'.getD y.toNat default = true

theorem bool_cases (b : Bool) : b = true ∨ b = false := by cases b <;> simp

theorem visit_ok (next : List (List Int)) (bar : Int) : ∀ (m : Nat) (b : Int) (s o : List Bool), s.length = next.length → o.length = next.length → s.count false + 1 ≤ m → ∃ s' o', visit next bar m b (s, o) = some (s', o') ∧ VOK next bar b s o s' o'
  | 0, _, _, _, _, _, h => by omega
  | m + 1, b, s, o, hs, ho, hm => by
    rw [visit]
    by_cases hc : b < 0 ∨ b ≥ (next.length : Int) ∨ (s, o).1.getD b.toNat default = true ∨ b = bar
    · rw [if_pos hc]
      refine ⟨s, o, rfl, hs, ho, fun _ h => h, fun x => ⟨fun h => .inl h, fun h => ?_⟩, fun x h => .inl h, fun x h1 h2 => ?_, fun h0 h1 h2 => ?_⟩
      · rcases h with h | ⟨h1, h2⟩
        · exact h
        · rw [h1] at h2; cases h2
      · rw [h1] at h2; cases h2
      · rcases hc with h | h | h | h
        · omega
        · omega
        · exact h
        · exact absurd h h2
    · rw [if_neg hc]
      simp only [not_or] at hc
      obtain ⟨c0, c1, c2, c3⟩ := hc
      have hbl : b.toNat < s.length := by omega
      have hsf : s.getD b.toNat default = false := (bool_cases _).resolve_left c2
      have hcnt := count_set_lt hbl hsf
      have hfold : ∀ (l : List Int) (s1 o1 : List Bool), s1.length = next.length → o1.length = next.length → s1.count false + 1 ≤ m → ∃ s' o', l.foldlM (fun st n => visit next bar m n st) (s1, o1) = some (s', o') ∧ FOK next bar l s1 o1 s' o' := by
        intro l
        induction l with
        | nil =>
          intro s1 o1 h1 h2 _
          refine ⟨s1, o1, rfl, h1, h2, fun _ h => h, fun x => ⟨fun h => .inl h, fun h => ?_⟩, fun x h => .inl h, fun x h1 h2 => ?_, fun y hy => by cases hy⟩
          · rcases h with h | ⟨h1, h2⟩
            · exact h
            · rw [h1] at h2; cases h2
          · rw [h1] at h2; cases h2
        | cons y l ih =>
          intro s1 o1 h1 h2 h3
          obtain ⟨s2, o2, e1, k1⟩ := visit_ok next bar m y s1 o1 h1 h2 h3
          have hle := count_mono (s := s1) (s' := s2) (by rw [k1.ls, h1]) k1.mono
          obtain ⟨s3, o3, e2, k2⟩ := ih s2 o2 k1.ls k1.lo (by omega)
          refine ⟨s3, o3, by rw [List.foldlM_cons, e1]; exact e2, k2.ls, k2.lo, fun x h => k2.mono x (k1.mono x h), fun x => ?_, fun x h => ?_, fun x g1 g2 => ?_, fun z hz => ?_⟩
          · rw [k2.outs, k1.outs]
            constructor
            · rintro ((h | ⟨h, h'⟩) | ⟨h, h'⟩)
              · exact .inl h
              · exact .inr ⟨k2.mono x h, h'⟩
              · refine .inr ⟨h, ?_⟩
                rcases bool_cases (s1.getD x default) with h4 | h4
                · rw [k1.mono x h4] at h'; cases h'
                · exact h4
            · rintro (h | ⟨h, h'⟩)
              · exact .inl (.inl h)
              · rcases bool_cases (s2.getD x default) with h4 | h4
                · exact .inl (.inr ⟨h4, h'⟩)
                · exact .inr ⟨h, h4⟩
          · rcases k2.fr x h with h | ⟨z, hz, h⟩
            · rcases k1.fr x h with h | h
              · exact .inl h
              · exact .inr ⟨y, by simp, h⟩
            · exact .inr ⟨z, List.mem_cons_of_mem _ hz, h⟩
          · rcases bool_cases (s2.getD x default) with h4 | h4
            · exact fun y hy a1 a2 a3 => k2.mono _ (k1.clos x h4 g2 y hy a1 a2 a3)
            · exact k2.clos x g1 h4
          · rcases List.mem_cons.1 hz with rfl | hz
            · exact fun a1 a2 a3 => k2.mono _ (k1.self a1 a2 a3)
            · exact k2.all z hz
      obtain ⟨s2, o2, e1, k⟩ := hfold (next.getD b.toNat default) (s.set b.toNat true) o (by simpa using hs) ho (by omega)
      have hb2 : s2.getD b.toNat default = true := k.mono _ (by rw [getD_set_true hbl, if_pos rfl])
      have hset : ∀ x, (s.set b.toNat true).getD x default = false ↔ s.getD x default = false ∧ x ≠ b.toNat := fun x => by
        rw [getD_set_true hbl]
        split
        · rename_i h; simp [h]
        · rename_i h; simp [h]
      have hset2 : ∀ x, (s.set b.toNat true).getD x default = true ↔ s.getD x default = true ∨ x = b.toNat := fun x => by
        rw [getD_set_true hbl]
        split
        · rename_i h; simp [h]
        · rename_i h; simp [h]
      refine ⟨s2, o2.set b.toNat true, by simp only at e1 ⊢; rw [e1]; rfl, k.ls, by simpa using k.lo, fun x h => k.mono x ((hset2 x).2 (.inl h)), fun x => ?_, fun x h => ?_, fun x h1 h2 y hy a1 a2 a3 => ?_, fun _ _ _ => hb2⟩
      · rw [getD_set_true (by rw [k.lo]; omega)]
        by_cases hx : x = b.toNat
        · rw [if_pos hx, hx]
          exact ⟨fun _ => .inr ⟨hb2, hsf⟩, fun _ => rfl⟩
        · rw [if_neg hx, k.outs]
          constructor
          · rintro (h | ⟨h, h'⟩)
            · exact .inl h
            · exact .inr ⟨h, ((hset x).1 h').1⟩
          · rintro (h | ⟨h, h'⟩)
            · exact .inl h
            · exact .inr ⟨h, (hset x).2 ⟨h', hx⟩⟩
      · rcases k.fr x h with h | ⟨y, hy, h⟩
        · rcases (hset2 x).1 h with h | h
          · exact .inl h
          · rw [h]; exact .inr (.refl (by omega) (by omega) c3)
        · exact .inr (RF.head (by omega) (by omega) c3 hy h)
      · by_cases hx : x = b.toNat
        · rw [hx] at hy
          exact k.all y hy a1 a2 a3
        · exact k.clos x h1 ((hset x).2 ⟨h2, hx⟩) y hy a1 a2 a3

/-- What is reached from the first one. -/
theorem visit_all (next : List (List Int)) : ∃ s2 o2, visit next (-1) (next.length + 1) 0 (List.replicate next.length false, List.replicate next.length false) = some (s2, o2) ∧ o2.length = next.length ∧ ∀ x, o2.getD x default = true ↔ RF next (-1) 0 x := by
  have hf : ∀ x, (List.replicate next.length false).getD x default = false := fun x => by
    rw [List.getD_eq_getElem?_getD, List.getElem?_replicate]
    split <;> rfl
  obtain ⟨s2, o2, h1, h2⟩ := visit_ok next (-1) (next.length + 1) 0 (List.replicate next.length false) (List.replicate next.length false) (by simp) (by simp) (by simp)
  refine ⟨s2, o2, h1, h2.lo, fun x => ?_⟩
  rw [h2.outs]
  have hs : s2.getD x default = true ↔ RF next (-1) 0 x := by
    constructor
    · intro h
      rcases h2.fr x h with h | h
      · rw [hf] at h; cases h
      · exact h
    · intro h
      induction h with
      | refl a0 a1 a2 => exact h2.self a0 a1 a2
      | step _ hy a0 a1 a2 ih => exact h2.clos _ ih (hf _) _ hy a0 a1 a2
  constructor
  · rintro (h | ⟨h, _⟩)
    · rw [hf] at h; cases h
    · exact hs.1 h
  · exact fun h => .inr ⟨hs.2 h, hf x⟩
end Lg
end Go.Proofs.Ytpfhmodjjljpjaa

namespace Go.Proofs.Ytpfhmodjjljpjaa
open Go.RowKit
namespace Lg

/-! ### What it is that paths hold -/
def linkAB (f : GFn) (a b : Int) : Prop := (blk f a).fin = 1 ∧ (blk f a).to = b
def chn (f : GFn) : List Int → Prop
  | [] => True
  | [_] => True
  | a :: b :: l => linkAB f a b ∧ chn f (b :: l)
def headOf (p : List Int) : Int := p.getD 0 default

theorem chn_iff (f : GFn) : ∀ p : List Int, chn f p ↔ ∀ i, i + 1 < p.length → linkAB f (p.getD i default) (p.getD (i + 1) default)
  | [] => ⟨fun _ i h => by simp at h, fun _ => trivial⟩
  | [_] => ⟨fun _ i h => by simp at h, fun _ => trivial⟩
  | a :: b :: l => by
    rw [chn, chn_iff f (b :: l)]
    constructor
    · rintro ⟨h1, h2⟩ i hi
      cases i with
      | zero => exact h1
      | succ i => exact h2 i (by simpa using hi)
    · intro h
      exact ⟨h 0 (by simp), fun i hi => h (i + 1) (by simpa using hi)⟩
theorem chainB_iff (f : GFn) (p : List Int) : chainB f p = true ↔ chn f p := by
  rw [chn_iff, chainB, List.all_eq_true]
  simp only [List.mem_range, link, Bool.and_eq_true, beq_iff_eq, linkAB]
  exact ⟨fun h i hi => h i (by omega), fun h i hi => h i (by omega)⟩
theorem lastOf_one (k : Int) : lastOf [k] = k := rfl
theorem lastOf_cons (a b : Int) (l : List Int) : lastOf (a :: b :: l) = lastOf (b :: l) := by
  have : (((a :: b :: l).length : Nat) : Int) - 1 = (((b :: l).length : Nat) : Int) - 1 + 1 := by simp
  unfold lastOf
  rw [this, show ((((b :: l).length : Nat) : Int) - 1 + 1).toNat = ((((b :: l).length : Nat) : Int) - 1).toNat + 1 by simp]
  rfl
theorem lastOf_append : ∀ (p q : List Int), q ≠ [] → lastOf (p ++ q) = lastOf q
  | [], q, _ => rfl
  | [a], q, h => by
    cases q with
    | nil => exact absurd rfl h
    | cons b q => exact lastOf_cons a b q
  | a :: b :: p, q, h => by
    show lastOf (a :: b :: (p ++ q)) = _
    rw [lastOf_cons]
    exact lastOf_append (b :: p) q h
theorem headOf_append (p q : List Int) (h : p ≠ []) : headOf (p ++ q) = headOf p := by
  cases p with
  | nil => exact absurd rfl h
  | cons a p => rfl
theorem chn_append (f : GFn) : ∀ (p q : List Int), p ≠ [] → q ≠ [] → (chn f (p ++ q) ↔ chn f p ∧ linkAB f (lastOf p) (headOf q) ∧ chn f q)
  | [], q, h, _ => absurd rfl h
  | [a], q, _, h => by
    cases q with
    | nil => exact absurd rfl h
    | cons b q => exact ⟨fun h => ⟨trivial, h.1, h.2⟩, fun h => ⟨h.2.1, h.2.2⟩⟩
  | a :: b :: p, q, _, h => by
    show linkAB f a b ∧ chn f (b :: p ++ q) ↔ _
    rw [chn_append f (b :: p) q (by simp) h, lastOf_cons]
    exact ⟨fun h => ⟨⟨h.1, h.2.1⟩, h.2.2⟩, fun h => ⟨h.1.1, h.1.2, h.2⟩⟩
theorem lastOf_mem {p : List Int} (h : p ≠ []) : lastOf p ∈ p := by
  have : 0 < p.length := List.length_pos_iff.2 h
  exact getD_mem (by omega)
theorem headOf_mem {p : List Int} (h : p ≠ []) : headOf p ∈ p := getD_mem (List.length_pos_iff.2 h)

/-- A new block's end is its path's end. -/
def endOk (f : GFn) (b : GBlock) (p : List Int) (ps : List (List Int)) : Prop :=
  b.fin = (blk f (lastOf p)).fin ∧ b.v = (blk f (lastOf p)).v ∧
  (if (blk f (lastOf p)).fin = 1 then leads ps b.to (blk f (lastOf p)).to = true ∧ b.els = (blk f (lastOf p)).els
   else if (blk f (lastOf p)).fin = 2 then leads ps b.to (blk f (lastOf p)).to = true ∧ leads ps b.els (blk f (lastOf p)).els = true
   else b.to = (blk f (lastOf p)).to ∧ b.els = (blk f (lastOf p)).els)
theorem made_iff (f : GFn) (b : GBlock) (p : List Int) (ps : List (List Int)) : made f b p ps = true ↔ chn f p ∧ b.ins = instrs f p ∧ endOk f b p ps := by
  rw [← chainB_iff]
  unfold made endOk
  split
  · simp only [Bool.and_eq_true, beq_iff_eq, decide_eq_true_eq, and_assoc]
  · split <;> simp only [Bool.and_eq_true, beq_iff_eq, decide_eq_true_eq, and_assoc]
theorem leads_iff (ps : List (List Int)) (n old : Int) : leads ps n old = true ↔ 0 ≤ n ∧ n < ps.length ∧ headOf (ps.getD n.toNat default) = old := by
  simp only [leads, Bool.and_eq_true, beq_iff_eq, decide_eq_true_eq, headOf, and_assoc]
def pathIn (f : GFn) (p : List Int) : Prop := p ≠ [] ∧ ∀ k ∈ p, 0 ≤ k ∧ k < (f.blocks.length : Int)
theorem okPath_iff (f : GFn) (p : List Int) : okPath f p = true ↔ pathIn f p := by
  simp only [okPath, pathIn, outside, Bool.and_eq_true, Bool.not_eq_true', List.any_eq_false, Bool.or_eq_true, decide_eq_true_eq, not_or, decide_eq_false_iff_not, List.length_eq_zero_iff]
  exact ⟨fun h => ⟨h.1, fun k hk => by have := h.2 k hk; omega⟩, fun h => ⟨h.1, fun k hk => by have := h.2 k hk; omega⟩⟩
structure Holds (old new : GFn) (ps : List (List Int)) : Prop where
  len : ps.length = new.blocks.length
  pos : ps.length ≠ 0
  regs : old.regs = new.regs
  inn : ∀ p ∈ ps, pathIn old p
  first : headOf (ps.getD 0 default) = 0
  each : ∀ i, i < ps.length → chn old (ps.getD i default) ∧ (new.blocks.getD i default).ins = instrs old (ps.getD i default) ∧ endOk old (new.blocks.getD i default) (ps.getD i default) ps
theorem tcheck_iff (old new : GFn) (ps : List (List Int)) : tcheck old new ps = true ↔ Holds old new ps := by
  unfold tcheck
  constructor
  · intro h
    split at h
    · cases h
    · rename_i h1
      split at h
      · cases h
      · rename_i h2
        split at h
        · cases h
        · rename_i h3
          rw [List.all_eq_true] at h
          refine ⟨by omega, by omega, by omega, fun p hp => ?_, ?_, fun i hi => (made_iff _ _ _ _).1 (h i (by simpa using hi))⟩
          · simp only [Bool.not_eq_false, List.all_eq_true] at h2
            exact (okPath_iff _ _).1 (h2 p hp)
          · unfold headOf; omega
  · intro h
    have h1 := h.len
    have h2 := h.pos
    have h3 := h.regs
    have h4 := h.first
    unfold headOf at h4
    rw [if_neg (by omega), if_neg (by simp only [Bool.not_eq_false, List.all_eq_true]; exact fun p hp => (okPath_iff _ _).2 (h.inn p hp)), if_neg (by omega), List.all_eq_true]
    exact fun i hi => (made_iff _ _ _ _).2 (h.each i (by simpa using hi))

/-! ### Paths put together -/
def joinP (P : List (List Int)) (q : List Int) : List Int := (q.map fun k => P.getD k.toNat default).flatten
theorem blk_getD (f : GFn) (k : Int) : blk f k = f.blocks.getD k.toNat default := rfl
theorem instrs_append (f : GFn) (p q : List Int) : instrs f (p ++ q) = instrs f p ++ instrs f q := by simp [instrs]
theorem join_ok {A B : GFn} {P : List (List Int)} (h : Holds A B P) : ∀ (q : List Int), q ≠ [] → (∀ k ∈ q, 0 ≤ k ∧ k < (P.length : Int)) → chn B q →
    joinP P q ≠ [] ∧ (∀ x ∈ joinP P q, 0 ≤ x ∧ x < (A.blocks.length : Int)) ∧ chn A (joinP P q) ∧ headOf (joinP P q) = headOf (P.getD (headOf q).toNat default) ∧ lastOf (joinP P q) = lastOf (P.getD (lastOf q).toNat default) ∧ instrs A (joinP P q) = instrs B q
  | [], h, _, _ => absurd rfl h
  | [k], _, hk, _ => by
    have hk0 := hk k (by simp)
    have hlt : k.toNat < P.length := by omega
    have e : joinP P [k] = P.getD k.toNat default := by simp [joinP]
    have hp := h.inn _ (getD_mem hlt)
    have he := h.each _ hlt
    rw [e]
    refine ⟨hp.1, hp.2, he.1, rfl, rfl, ?_⟩
    rw [← he.2.1]
    simp [instrs]
  | k :: k2 :: l, _, hk, hc => by
    have hk0 := hk k (by simp)
    have hlt : k.toNat < P.length := by omega
    have e : joinP P (k :: k2 :: l) = P.getD k.toNat default ++ joinP P (k2 :: l) := by simp [joinP]
    have hp := h.inn _ (getD_mem hlt)
    have he := h.each _ hlt
    obtain ⟨g1, g2, g3, g4, g5, g6⟩ := join_ok h (k2 :: l) (by simp) (fun x hx => hk x (List.mem_cons_of_mem _ hx)) hc.2
    have hl : linkAB A (lastOf (P.getD k.toNat default)) (headOf (joinP P (k2 :: l))) := by
      have h1 := he.2.2
      unfold endOk at h1
      have h2 := hc.1
      unfold linkAB at h2
      rw [blk_getD] at h2
      have h3 : (blk A (lastOf (P.getD k.toNat default))).fin = 1 := by rw [← h1.1]; exact h2.1
      rw [if_pos h3, h2.2] at h1
      refine ⟨h3, ?_⟩
      rw [g4]
      have := (leads_iff _ _ _).1 h1.2.2.1
      rw [← this.2.2]
      rfl
    rw [e]
    refine ⟨fun e => hp.1 (List.append_eq_nil_iff.1 e).1, fun x hx => ?_, (chn_append A _ _ hp.1 g1).2 ⟨he.1, hl, g3⟩, ?_, ?_, ?_⟩
    · rcases List.mem_append.1 hx with hx | hx
      · exact hp.2 x hx
      · exact g2 x hx
    · rw [headOf_append _ _ hp.1]; rfl
    · rw [lastOf_append _ _ g1, g5, lastOf_cons]
    · rw [instrs_append, g6, ← he.2.1]
      simp [instrs]
theorem getD_map {α β : Type} [Inhabited α] [Inhabited β] (g : α → β) (l : List α) {i : Nat} (h : i < l.length) : (l.map g).getD i default = g (l.getD i default) := by
  simp [List.getD_eq_getElem?_getD, h]
theorem joined_holds {A B C : GFn} {P Q : List (List Int)} (h : Holds A B P) (k : Holds B C Q) : Holds A C (Q.map (joinP P)) := by
  have hPB := h.len
  have hin : ∀ q ∈ Q, ∀ x ∈ q, 0 ≤ x ∧ x < (P.length : Int) := fun q hq x hx => by
    have := (k.inn q hq).2 x hx
    omega
  have hj : ∀ i, i < Q.length → _ := fun i hi => join_ok h (Q.getD i default) (k.inn _ (getD_mem hi)).1 (hin _ (getD_mem hi)) (k.each i hi).1
  have hlead : ∀ n x, leads Q n x = true → 0 ≤ x → x < (P.length : Int) → ∀ y, leads P x y = true → leads (Q.map (joinP P)) n y = true := fun n x h1 hx0 hx1 y h2 => by
    rw [leads_iff] at h1 h2 ⊢
    obtain ⟨a1, a2, a3⟩ := h1
    refine ⟨a1, by simpa using a2, ?_⟩
    have hn : n.toNat < Q.length := by omega
    rw [getD_map _ _ hn, (hj _ hn).2.2.2.1, a3]
    exact h2.2.2
  refine ⟨by simpa using k.len, by simpa using k.pos, h.regs.trans k.regs, fun p hp => ?_, ?_, fun i hi => ?_⟩
  · obtain ⟨q, hq, rfl⟩ := List.mem_map.1 hp
    obtain ⟨i, hi, he⟩ := List.mem_iff_getElem.1 hq
    have e : q = Q.getD i default := by rw [List.getD_eq_getElem?_getD, List.getElem?_eq_getElem hi, ← he]; rfl
    rw [e]
    exact ⟨(hj i hi).1, (hj i hi).2.1⟩
  · have h0 : 0 < Q.length := by have := k.pos; omega
    rw [getD_map _ _ h0, (hj 0 h0).2.2.2.1, k.first]
    exact h.first
  · have hi' : i < Q.length := by simpa using hi
    obtain ⟨g1, g2, g3, g4, g5, g6⟩ := hj i hi'
    obtain ⟨e1, e2, e3⟩ := k.each i hi'
    rw [getD_map _ _ hi']
    refine ⟨g3, e2.trans g6.symm, ?_⟩
    have hq := k.inn _ (getD_mem hi')
    have hlq := hin _ (getD_mem hi') _ (lastOf_mem hq.1)
    have hltq : (lastOf (Q.getD i default)).toNat < P.length := by omega
    obtain ⟨m1, m2, m3⟩ := h.each _ hltq
    unfold endOk at e3 m3 ⊢
    rw [blk_getD B] at e3
    rw [g5]
    obtain ⟨a1, a2, a3⟩ := e3
    obtain ⟨b1, b2, b3⟩ := m3
    refine ⟨a1.trans b1, a2.trans b2, ?_⟩
    have hB : ∀ x, leads Q x (B.blocks.getD (lastOf (Q.getD i default)).toNat default).to = true → True := fun _ _ => trivial
    rw [b1] at a3
    split
    · rename_i hf
      rw [if_pos hf] at a3 b3
      have hb := (leads_iff _ _ _).1 b3.1
      exact ⟨hlead _ _ a3.1 hb.1 hb.2.1 _ b3.1, a3.2.trans b3.2⟩
    · rename_i hf
      rw [if_neg hf] at a3 b3
      split
      · rename_i hf2
        rw [if_pos hf2] at a3 b3
        have hb := (leads_iff _ _ _).1 b3.1
        have hb2 := (leads_iff _ _ _).1 b3.2
        exact ⟨hlead _ _ a3.1 hb.1 hb.2.1 _ b3.1, hlead _ _ a3.2 hb2.1 hb2.2.1 _ b3.2⟩
      · rename_i hf2
        rw [if_neg hf2] at a3 b3
        exact ⟨a3.1.trans b3.1, a3.2.trans b3.2⟩
end Lg
end Go.Proofs.Ytpfhmodjjljpjaa

namespace Go.Proofs.Ytpfhmodjjljpjaa
open Go.RowKit
namespace Lg

/-! ### The paths of a function -/
def nextL (f : GFn) : List (List Int) := f.blocks.map follows
def reachL (f : GFn) : List Bool := ((visit (nextL f) (-1) ((nextL f).length + 1) 0 (List.replicate (nextL f).length false, List.replicate (nextL f).length false)).getD ([], [])).2
def fromL (f : GFn) : List (List Int) := fromAll (nextL f) (reachL f) f.blocks.length (nextL f).length
def byL (f : GFn) : List Int := (List.range f.blocks.length).map (takenAt f (reachL f) (fromL f))
def pathAt (f : GFn) (i : Nat) : List Int := (follow (byL f) (f.blocks.length + 1) [(i : Int)]).getD [(i : Int)]
def isHead (f : GFn) (i : Nat) : Bool := (reachL f).getD i default && decide ((byL f).getD i default < 0)
def pathsTo (f : GFn) (j : Nat) : List (List Int) := ((List.range j).filter (isHead f)).map (pathAt f)
def pathsL (f : GFn) : List (List Int) := pathsTo f f.blocks.length
/-- The ends of all blocks lead to blocks. -/
def InN (f : GFn) : Prop := ∀ l ∈ nextL f, ∀ x ∈ l, 0 ≤ x ∧ x < (f.blocks.length : Int)

theorem nextL_length (f : GFn) : (nextL f).length = f.blocks.length := by simp [nextL]
theorem nextL_getD (f : GFn) (i : Nat) : (nextL f).getD i default = follows (f.blocks.getD i default) := by
  unfold nextL
  rw [List.getD_eq_getElem?_getD, List.getElem?_map, List.getD_eq_getElem?_getD]
  cases f.blocks[i]? with
  | none => rfl
  | some b => rfl
theorem reachL_some (f : GFn) : ∃ s2, visit (nextL f) (-1) ((nextL f).length + 1) 0 (List.replicate (nextL f).length false, List.replicate (nextL f).length false) = some (s2, reachL f) := by
  obtain ⟨s2, o2, h1, _⟩ := visit_all (nextL f)
  exact ⟨s2, by unfold reachL; rw [h1]; rfl⟩
theorem reachL_length (f : GFn) : (reachL f).length = f.blocks.length := by
  obtain ⟨s2, o2, h1, h2, h3⟩ := visit_all (nextL f)
  unfold reachL; rw [h1, ← nextL_length]; exact h2
theorem reachL_iff (f : GFn) (x : Nat) : (reachL f).getD x default = true ↔ RF (nextL f) (-1) 0 x := by
  obtain ⟨s2, o2, h1, h2, h3⟩ := visit_all (nextL f)
  unfold reachL; rw [h1]; exact h3 x
theorem byL_length (f : GFn) : (byL f).length = f.blocks.length := by simp [byL]
theorem byL_getD (f : GFn) {i : Nat} (h : i < f.blocks.length) : (byL f).getD i default = takenAt f (reachL f) (fromL f) i := by
  unfold byL
  rw [getD_map _ _ (by simpa using h), range_getD h]

/-! What leads to each -/
theorem addTo_getD (fr : List (List Int)) (n i : Int) (k : Nat) : (addTo fr n i).getD k default = if k = n.toNat ∧ k < fr.length then fr.getD k default ++ [i] else fr.getD k default := by
  unfold addTo
  rw [List.getD_eq_getElem?_getD, List.getElem?_set]
  by_cases hk : n.toNat = k
  · subst hk
    by_cases hl : n.toNat < fr.length
    · simp [hl]
    · simp [hl]
  · rw [if_neg hk, if_neg (fun h => hk h.1.symm), List.getD_eq_getElem?_getD]
theorem fromFold_getD (reached : List Bool) (i k : Nat) : ∀ (l : List Int) (fr : List (List Int)), k < fr.length → (∀ x ∈ l, 0 ≤ x) →
    (l.foldl (fromStep reached i) fr).getD k default = fr.getD k default ++ (if reached.getD i default = true then List.replicate (l.count (k : Int)) (i : Int) else [])
  | [], fr, _, _ => by simp
  | x :: l, fr, hk, hx => by
    rw [List.foldl_cons, fromFold_getD reached i k l _ (by rw [fromStep_length]; exact hk) (fun y hy => hx y (List.mem_cons_of_mem _ hy))]
    unfold fromStep
    have hx0 := hx x (by simp)
    split
    · rw [addTo_getD]
      by_cases hxk : k = x.toNat
      · have e : x = (k : Int) := by omega
        rw [if_pos ⟨hxk, hk⟩, e, List.count_cons_self, List.append_assoc]
        rfl
      · have e : x ≠ (k : Int) := by omega
        rw [if_neg (fun h => hxk h.1), List.count_cons_of_ne e]
    · rfl
theorem fromAll_getD (next : List (List Int)) (reached : List Bool) (nb k : Nat) (hk : k < nb) (hn : ∀ l ∈ next, ∀ x ∈ l, 0 ≤ x) : ∀ (m : Nat), m ≤ next.length →
    (fromAll next reached nb m).getD k default = (List.range m).flatMap (fun i => if reached.getD i default = true then List.replicate ((next.getD i default).count (k : Int)) (i : Int) else [])
  | 0, _ => by
    show (List.replicate nb ([] : List Int)).getD k default = []
    rw [List.getD_eq_getElem?_getD, List.getElem?_replicate]
    split <;> rfl
  | m + 1, hm => by
    rw [fromAll_succ, fromRow, fromFold_getD reached m k _ _ (by rw [fromAll_length]; exact hk) (hn _ (getD_mem (by omega))), fromAll_getD next reached nb k hk hn m (by omega), List.range_succ, List.flatMap_append]
    simp

theorem fromL_getD {f : GFn} (hi : InN f) {k : Nat} (hk : k < f.blocks.length) :
    (fromL f).getD k default = (List.range f.blocks.length).flatMap (fun i => if (reachL f).getD i default = true then List.replicate (((nextL f).getD i default).count (k : Int)) (i : Int) else []) := by
  unfold fromL
  rw [fromAll_getD _ _ _ _ hk (fun l hl x hx => (hi l hl x hx).1) _ (Nat.le_refl _), nextL_length]
theorem mem_fromL {f : GFn} (hi : InN f) {k : Nat} (hk : k < f.blocks.length) {x : Int} : x ∈ (fromL f).getD k default ↔ ∃ i : Nat, i < f.blocks.length ∧ x = (i : Int) ∧ (reachL f).getD i default = true ∧ (k : Int) ∈ (nextL f).getD i default := by
  rw [fromL_getD hi hk, List.mem_flatMap]
  constructor
  · rintro ⟨i, h1, h2⟩
    split at h2
    · rename_i h3
      obtain ⟨h4, h5⟩ := List.mem_replicate.1 h2
      exact ⟨i, by simpa using h1, h5, h3, List.count_pos_iff.1 (by omega)⟩
    · cases h2
  · rintro ⟨i, h1, h2, h3, h4⟩
    refine ⟨i, by simpa using h1, ?_⟩
    rw [if_pos h3]
    exact List.mem_replicate.2 ⟨by have := List.count_pos_iff.2 h4; omega, h2⟩

/-- One block is taken in by another. -/
structure Takes (f : GFn) (j k : Nat) : Prop where
  k0 : 0 < k
  jn : j < f.blocks.length
  kn : k < f.blocks.length
  rj : (reachL f).getD j default = true
  rk : (reachL f).getD k default = true
  one : (fromL f).getD k default = [(j : Int)]
  ne : j ≠ k
  fin : (f.blocks.getD j default).fin = 1
  to : (f.blocks.getD j default).to = (k : Int)
theorem takes_iff {f : GFn} (hi : InN f) {k : Nat} (hk : k < f.blocks.length) (x : Int) (hx : 0 ≤ x) : (byL f).getD k default = x ↔ Takes f x.toNat k := by
  rw [byL_getD f hk]
  constructor
  · intro h
    unfold takenAt at h
    split at h
    · rename_i hc
      obtain ⟨c1, c2, c3, c4, c5⟩ := hc
      obtain ⟨y, hy⟩ := List.length_eq_one_iff.1 c3
      rw [hy] at h c4 c5
      have hyx : y = x := by simpa using h
      subst hyx
      have hm : y ∈ (fromL f).getD k default := by rw [hy]; simp
      obtain ⟨i, h1, h2, h3, h4⟩ := (mem_fromL hi hk).1 hm
      subst h2
      have e : ((i : Int)).toNat = i := by omega
      have c5' : (f.blocks.getD i default).fin = 1 := c5
      rw [nextL_getD, follows, if_pos c5', List.mem_singleton] at h4
      refine ⟨c1, by omega, hk, by rw [e]; exact h3, c2, by rw [e]; exact hy, ?_, by rw [e]; exact c5', by rw [e]; exact h4.symm⟩
      rw [e]
      have : ¬ ((i : Int) = (k : Int)) := by simpa using c4
      omega
    · omega
  · intro h
    unfold takenAt
    have e : ((x.toNat : Nat) : Int) = x := by omega
    have h1 := h.one
    rw [e] at h1
    have hne : ¬ x = (k : Int) := by have := h.ne; omega
    rw [h1]
    exact if_pos ⟨h.k0, h.rk, rfl, hne, h.fin⟩
theorem byL_neg {f : GFn} {k : Nat} (hk : k < f.blocks.length) (h : (byL f).getD k default < 0) (hi : InN f) (j : Nat) : ¬ Takes f j k := fun ht => by
  have h2 := (takes_iff hi hk (j : Int) (by omega)).2 (by simpa using ht)
  omega
theorem takes_of {f : GFn} (hi : InN f) {k : Nat} (hk : k < f.blocks.length) (h : ¬ (byL f).getD k default < 0) : Takes f ((byL f).getD k default).toNat k := (takes_iff hi hk _ (by omega)).1 rfl
theorem Takes.uniq {f : GFn} {j k k' : Nat} (h : Takes f j k) (h' : Takes f j k') : k = k' := by
  have := h.to; have := h'.to; omega
theorem Takes.uniq' {f : GFn} {j j' k : Nat} (h : Takes f j k) (h' : Takes f j' k) : j = j' := by
  have h1 := h.one
  rw [h'.one] at h1
  simp at h1
  omega

/-! Paths -/
theorem nodup_length : ∀ (n : Nat) (l : List Nat), l.Nodup → (∀ x ∈ l, x < n) → l.length ≤ n
  | 0, l, _, h => by
    cases l with
    | nil => exact Nat.le_refl _
    | cons x l => exact absurd (h x (by simp)) (by omega)
  | n + 1, l, hd, h => by
    have h1 := nodup_length n (l.erase n) (hd.erase n) (fun x hx => by
      have := h x (List.mem_of_mem_erase hx)
      have hne : x ≠ n := fun e => by subst e; exact (List.Nodup.not_mem_erase hd) hx
      omega)
    by_cases hm : n ∈ l
    · have := List.length_erase_of_mem hm; omega
    · rw [List.erase_of_not_mem hm] at h1; omega

/-- A path, grown from its head: each takes in the next one. -/
structure Grown (f : GFn) (p : List Nat) : Prop where
  ne : p ≠ []
  lt : ∀ x ∈ p, x < f.blocks.length
  rch : ∀ x ∈ p, (reachL f).getD x default = true
  nd : p.Nodup
  link : ∀ i, i + 1 < p.length → Takes f (p.getD i default) (p.getD (i + 1) default)
  hd : (byL f).getD (p.getD 0 default) default < 0
def ints (p : List Nat) : List Int := List.map (fun x : Nat => (x : Int)) p
theorem ints_length (p : List Nat) : (ints p).length = p.length := by simp [ints]
theorem ints_getD (p : List Nat) (i : Nat) : (ints p).getD i default = ((p.getD i default : Nat) : Int) := by
  unfold ints
  rw [List.getD_eq_getElem?_getD, List.getElem?_map, List.getD_eq_getElem?_getD]
  cases p[i]? <;> rfl
def lastN (p : List Nat) : Nat := p.getD (p.length - 1) default
theorem lastOf_ints {p : List Nat} (h : p ≠ []) : lastOf (ints p) = ((lastN p : Nat) : Int) := by
  have : 0 < p.length := List.length_pos_iff.2 h
  unfold lastOf lastN
  rw [ints_length, ints_getD, show ((p.length : Int) - 1).toNat = p.length - 1 by omega]
theorem getD_append_left {α : Type} [Inhabited α] {p q : List α} {i : Nat} (h : i < p.length) : (p ++ q).getD i default = p.getD i default := by
  rw [List.getD_eq_getElem?_getD, List.getElem?_append_left h, List.getD_eq_getElem?_getD]
theorem getD_append_one {α : Type} [Inhabited α] {p : List α} {x : α} : (p ++ [x]).getD p.length default = x := by
  rw [List.getD_eq_getElem?_getD, List.getElem?_append_right (Nat.le_refl _)]; simp
theorem nodup_getD {p : List Nat} (h : p.Nodup) {i j : Nat} (hi : i < p.length) (hj : j < p.length) (e : p.getD i default = p.getD j default) : i = j := by
  rw [List.getD_eq_getElem?_getD, List.getD_eq_getElem?_getD, List.getElem?_eq_getElem hi, List.getElem?_eq_getElem hj] at e
  exact (List.getElem_inj h).1 e
theorem mem_getD {α : Type} [Inhabited α] {p : List α} {x : α} (h : x ∈ p) : ∃ i, i < p.length ∧ p.getD i default = x := by
  obtain ⟨i, hi, e⟩ := List.mem_iff_getElem.1 h
  exact ⟨i, hi, by rw [List.getD_eq_getElem?_getD, List.getElem?_eq_getElem hi, e]; rfl⟩
theorem Grown.snoc {f : GFn} {p : List Nat} (h : Grown f p) {k : Nat} (hi : InN f) (ht : Takes f (lastN p) k) : Grown f (p ++ [k]) := by
  have hl : 0 < p.length := List.length_pos_iff.2 h.ne
  refine ⟨by simp, fun x hx => ?_, fun x hx => ?_, ?_, fun i hi' => ?_, ?_⟩
  · rcases List.mem_append.1 hx with hx | hx
    · exact h.lt x hx
    · simp at hx; subst hx; exact ht.kn
  · rcases List.mem_append.1 hx with hx | hx
    · exact h.rch x hx
    · simp at hx; subst hx; exact ht.rk
  · rw [List.nodup_append]
    refine ⟨h.nd, by simp, fun x hx y hy e => ?_⟩
    simp at hy
    subst hy
    subst e
    obtain ⟨i, hi', e⟩ := mem_getD hx
    cases i with
    | zero =>
      have h1 := h.hd
      rw [e] at h1
      exact byL_neg ht.kn h1 hi _ ht
    | succ i =>
      have h1 := h.link i hi'
      rw [e] at h1
      have h2 := h1.uniq' ht
      have h3 := nodup_getD h.nd (i := i) (j := p.length - 1) (by omega) (by omega) h2
      omega
  · simp at hi'
    by_cases he : i + 1 < p.length
    · rw [getD_append_left (by omega), getD_append_left he]; exact h.link i he
    · have e : i + 1 = p.length := by omega
      rw [getD_append_left (by omega), e, getD_append_one]
      have : lastN p = p.getD i default := by unfold lastN; rw [← e]; rfl
      rw [← this]; exact ht
  · rw [getD_append_left hl]; exact h.hd

theorem fst_takes {f : GFn} (hi : InN f) (j : Nat) : (fstIdx (fun y => y == (j : Int)) (byL f) ≥ 0 → Takes f j (fstIdx (fun y => y == (j : Int)) (byL f)).toNat) ∧ (¬ fstIdx (fun y => y == (j : Int)) (byL f) ≥ 0 → ∀ k, ¬ Takes f j k) := by
  unfold fstIdx
  cases hf : (byL f).findIdx? (fun y => y == (j : Int)) with
  | none =>
    refine ⟨fun h => absurd h (by simp), fun _ k ht => ?_⟩
    rw [List.findIdx?_eq_none_iff] at hf
    have h1 := (takes_iff hi ht.kn (j : Int) (by omega)).2 (by simpa using ht)
    have := hf _ (getD_mem (i := k) (by rw [byL_length]; exact ht.kn))
    rw [h1] at this
    simp at this
  | some k =>
    refine ⟨fun _ => ?_, fun h => absurd (show (k : Int) ≥ 0 by omega) h⟩
    obtain ⟨h1, h2, _⟩ := List.findIdx?_eq_some_iff_getElem.1 hf
    rw [byL_length] at h1
    have h3 : (byL f).getD k default = (j : Int) := by
      rw [List.getD_eq_getElem?_getD, List.getElem?_eq_getElem (by rw [byL_length]; exact h1)]
      simpa using h2
    have := (takes_iff hi h1 (j : Int) (by omega)).1 h3
    simpa using this

theorem follow_grown {f : GFn} (hi : InN f) : ∀ (m : Nat) (p : List Nat), Grown f p → f.blocks.length < m + p.length → ∃ q, follow (byL f) m (ints p) = some (ints (p ++ q)) ∧ Grown f (p ++ q) ∧ ∀ k, ¬ Takes f (lastN (p ++ q)) k
  | 0, p, h, hm => by
    have := nodup_length _ p h.nd h.lt
    omega
  | m + 1, p, h, hm => by
    rw [follow, lastOf_ints h.ne]
    split
    · rename_i hk
      have ht := (fst_takes hi (lastN p)).1 hk
      obtain ⟨q, h1, h2, h3⟩ := follow_grown hi m _ (h.snoc hi ht) (by simp; omega)
      refine ⟨(fstIdx (fun y => y == ((lastN p : Nat) : Int)) (byL f)).toNat :: q, ?_, by simpa using h2, by simpa using h3⟩
      rw [show ints p ++ [fstIdx (fun y => y == ((lastN p : Nat) : Int)) (byL f)] = ints (p ++ [(fstIdx (fun y => y == ((lastN p : Nat) : Int)) (byL f)).toNat]) by simp [ints]; omega, h1]
      simp
    · rename_i hk
      exact ⟨[], by simp, by simpa using h, by simpa using (fst_takes hi (lastN p)).2 hk⟩

theorem grown_one {f : GFn} {i : Nat} (hi : i < f.blocks.length) (h : isHead f i = true) : Grown f [i] := by
  simp only [isHead, Bool.and_eq_true, decide_eq_true_eq] at h
  exact ⟨by simp, fun x hx => by simp at hx; omega, fun x hx => by simp at hx; subst hx; exact h.1, by simp, fun i hi => by simp at hi, h.2⟩
/-- A head's path. -/
structure PathOf (f : GFn) (i : Nat) (p : List Nat) : Prop where
  e : pathAt f i = ints p
  g : Grown f p
  h : p.getD 0 default = i
  last : ∀ k, ¬ Takes f (lastN p) k
theorem path_of {f : GFn} (hi : InN f) {i : Nat} (hl : i < f.blocks.length) (h : isHead f i = true) : follow (byL f) (f.blocks.length + 1) [(i : Int)] = some (pathAt f i) ∧ ∃ p, PathOf f i p := by
  obtain ⟨q, h1, h2, h3⟩ := follow_grown hi (f.blocks.length + 1) [i] (grown_one hl h) (by simp; omega)
  have e : pathAt f i = ints ([i] ++ q) := by
    unfold pathAt
    rw [show [(i : Int)] = ints [i] from rfl, h1]
    rfl
  exact ⟨by rw [e]; exact h1, [i] ++ q, e, h2, rfl, h3⟩
theorem follows_le (f : GFn) : ∀ l ∈ nextL f, l.length ≤ 2 := fun l hl => by
  obtain ⟨b, _, rfl⟩ := List.mem_map.1 hl
  unfold follows
  split
  · simp
  · split <;> simp
theorem isHead_of {f : GFn} {i : Nat} (h1 : (reachL f).getD i default = true) (h2 : (byL f).getD i default < 0) : isHead f i = true := by
  unfold isHead; rw [h1, decide_eq_true h2]; rfl
theorem pathsTo_le (f : GFn) (j : Nat) : (pathsTo f j).length ≤ j := by
  unfold pathsTo
  rw [List.length_map]
  exact Nat.le_trans (List.length_filter_le _ _) (by simp)
theorem pathsTo_t {f : GFn} {j : Nat} (h : isHead f j = true) : pathsTo f (j + 1) = pathsTo f j ++ [pathAt f j] := by
  simp [pathsTo, List.range_succ, List.filter_append, h]
theorem pathsTo_f {f : GFn} {j : Nat} (h : isHead f j = false) : pathsTo f (j + 1) = pathsTo f j := by
  simp [pathsTo, List.range_succ, List.filter_append, h]
end Lg
end Go.Proofs.Ytpfhmodjjljpjaa

namespace Go.Proofs.Ytpfhmodjjljpjaa
open Go.RowKit
namespace Lg
set_option maxRecDepth 100000
set_option linter.unusedVariables false
set_option linter.unusedSimpArgs false



theorem body66 : (Try.prog.funcs[66]?).map (fun fn => (fn.name == "runtime.NumGoroutine" || fn.body.isNone)) = some false := by kernel_rfl
theorem paths_spec (f : GFn) (hb : f.blocks.length ≤ 900000) (hi : InN f) : Spec Try.prog 66 [.agg [.v (.int .i64 f.regs), .r 1]] 2 [(1, .fz 5 (f.blocks.map eBlock))] (.r 2) 3 [(2, .row 52 1 ((pathsL f).map eIs))] := by
  have hfl : ∀ l ∈ nextL f, l.length ≤ 2 := follows_le f
  obtain ⟨s2, hv⟩ := reachL_some f
  have hnl := nextL_length f
  have hrl := reachL_length f
  have hbl := byL_length f
  refine spec_of D (fn := Try.f66) rfl rfl (Nat.le_of_ble_eq_true rfl) ?_
  refine W_seq ?_
  refine W_seqK (b' := 34) rfl rfl ?_
  refine k_op1 (d := 1) (b := 2) (j' := 1) rfl rfl rfl rfl (.plain rfl) (T_box rfl rfl flat_agg) rfl ?_
  refine k_op1 (d := 2) (b := 18) (j' := 2) rfl rfl rfl rfl (.plain rfl) (T_nils [(52, 1)] (T_assign rfl rfl) rfl (.inr ⟨rfl, rfl⟩) (.cons (.nil rfl) .nil) (lv' := .r 18) (upd' := [(18, .row 52 1 (List.map eIs ([] : List (List Int))))]) (nn' := 1) rfl rfl) rfl ?_
  refine k_done rfl ?_
  refine thenK_n ?_
  refine W_seq ?_
  refine W_seqK (b' := 82) rfl rfl ?_
  refine k_op0 (d := 9) (b := 34) (j' := 1) rfl rfl rfl rfl (.plain rfl) (T_load_bA D (l := [_, _]) rfl rfl rfl rfl rfl rfl rfl) rfl ?_
  refine k_op1 (d := 10) (b := 50) (j' := 2) rfl rfl rfl rfl (.plain rfl) (T_callR (lvs := [_]) (L := [(1, 1)]) (keep := false) (next_spec _ (by omega)) body90 rfl rfl rfl rfl (.fz rfl (.nil)) rfl (.inl rfl) rfl) rfl ?_
  refine k_op0 (d := 3) (b := 66) (j' := 3) rfl rfl rfl rfl (.plain rfl) (T_assign rfl rfl) rfl ?_
  refine k_done rfl ?_
  refine thenK_n ?_
  refine W_seq ?_
  refine W_seqK (b' := 130) rfl rfl ?_
  refine k_op0 (d := 11) (b := 82) (j' := 1) rfl rfl rfl rfl (.plain rfl) (T_move rfl rfl) rfl ?_
  refine k_op1 (d := 12) (b := 98) (j' := 2) rfl rfl rfl rfl (.plain rfl) (T_callR (lvs := [_]) (L := [(1, 50)]) (keep := true) (reach_spec (nextL f) (by omega) (fun l h => by have := hfl l h; omega) _ _ _ hv) body111 rfl rfl rfl rfl (.lend rfl (.nil)) rfl (.inr (flat_eB _)) rfl) rfl ?_
  refine k_op0 (d := 4) (b := 114) (j' := 3) rfl rfl rfl rfl (.plain rfl) (T_assign rfl rfl) rfl ?_
  refine k_done rfl ?_
  refine thenK_n ?_
  refine W_seq ?_
  refine W_seqK (b' := 226) rfl rfl ?_
  refine k_op0 (d := 13) (b := 130) (j' := 1) rfl rfl rfl rfl (.plain rfl) (T_load_bA D (l := [_, _]) rfl rfl rfl rfl rfl rfl rfl) rfl ?_
  refine k_op0 (d := 14) (b := 146) (j' := 2) rfl rfl rfl rfl (.plain rfl) (T_move rfl rfl) rfl ?_
  refine k_op0 (d := 15) (b := 162) (j' := 3) rfl rfl rfl rfl (.plain rfl) (T_move rfl rfl) rfl ?_
  refine k_op1 (d := 16) (b := 178) (j' := 4) rfl rfl rfl rfl (.plain rfl) (T_callR (lvs := [_, _, _]) (L := [(1, 1), (2, 50), (3, 98)]) (keep := true) (taken_spec f (nextL f) (reachL f) (by omega) (nextL_length f) (reachL_length f) 2 (by omega) hfl (fun l h i k => hi l h _ (getD_mem k))) body112 rfl rfl rfl rfl (.fz rfl (.lend rfl (.lend rfl (.nil)))) rfl (.inr (flat_eI _)) rfl) rfl ?_
  refine k_opn (d := 5) (b := 194) (j' := 5) rfl rfl rfl rfl (.plain rfl) (T_nilbox [(3, 1)] (T_alloc D rfl rfl rfl) rfl (.cons (.nil rfl) <| .nil) (upd' := [(194, .box 52 [.r 195]), (195, .row 3 1 (List.map eI ([] : List (Int))))]) (nn' := 2) rfl rfl) rfl ?_
  refine k_st1 (b := 210) (j' := 6) rfl rfl rfl rfl (.plain rfl) (T_stB D (cs' := [_]) rfl rfl rfl rfl (flat_sl rfl) rfl rfl (Nat.le_of_ble_eq_true rfl) rfl) rfl ?_
  refine k_done rfl ?_
  refine thenK_n ?_
  refine W_seq ?_
  refine W_seqK (b' := 242) rfl rfl ?_
  refine k_op1 (d := 6) (b := 226) (j' := 1) rfl rfl rfl rfl (.plain rfl) (T_alloc D rfl rfl rfl) rfl ?_
  refine k_done rfl ?_
  refine thenK_n ?_
  refine W_seq ?_
  refine W_seqK (b' := 274) rfl rfl ?_
  refine k_op0 (d := 17) (b := 242) (j' := 1) rfl rfl rfl rfl (.plain rfl) (T_makeFunc (l := [_, _]) rfl rfl) rfl ?_
  refine k_st1 (b := 258) (j' := 2) rfl rfl rfl rfl (.plain rfl) (T_stB D (cs' := [_]) rfl rfl rfl rfl flat_fn rfl rfl (Nat.le_of_ble_eq_true rfl) rfl) rfl ?_
  refine k_done rfl ?_
  refine thenK_n ?_
  refine W_seq ?_
  refine W_seqK (b' := 290) rfl rfl ?_
  refine k_op1 (d := 7) (b := 274) (j' := 1) rfl rfl rfl rfl (.plain rfl) (T_nils [(52, 1)] (T_assign rfl rfl) rfl (.inr ⟨rfl, rfl⟩) (.cons (.nil rfl) .nil) (lv' := .r 274) (upd' := [(274, .row 52 1 (List.map eIs ([] : List (List Int))))]) (nn' := 1) rfl rfl) rfl ?_
  refine k_done rfl ?_
  refine thenK_n ?_
  refine W_seq ?_
  refine W_seq ?_
  refine W_seqK (b' := 354) rfl rfl ?_
  refine k_op0 (d := 18) (b := 290) (j' := 1) rfl rfl rfl rfl (.plain rfl) (T_fa D (m := 1) rfl rfl rfl rfl rfl rfl) rfl ?_
  refine k_op0 (d := 19) (b := 306) (j' := 2) rfl rfl rfl rfl (.plain rfl) (T_load_b D rfl rfl rfl rfl rfl rfl) rfl ?_
  refine k_op0 (d := 20) (b := 322) (j' := 3) rfl rfl rfl rfl (.plain rfl) (T_len D rfl rfl rfl rfl rfl rfl) rfl ?_
  refine k_op0 (d := 21) (b := 338) (j' := 4) rfl rfl rfl rfl (.plain rfl) (T_move rfl rfl) rfl ?_
  refine k_done rfl ?_
  refine thenK_n ?_
  refine W_block ?_
  refine W_loop (ι := Nat) 7 (fun j => ⟨[(4, .r 2), (5, .p 3 0), (6, .p 5 0), (7, .r 6), (20, .v (.int .i64 (f.blocks.length : Int))), (21, .v (.int .i64 (j : Int)))], [(1, .fz 5 (f.blocks.map eBlock)), (2, .fz 1 ((reachL f).map eB)), (3, .box 52 [.r 4]), (4, .fz 1 ((byL f).map eI)), (5, .box 144 [.fn 113 [.p 3 0, .p 5 0]]), (6, .row 52 1 ((pathsTo f j).map eIs))]⟩) (fun j => j ≤ f.blocks.length) (fun j => f.blocks.length - j) (0) (by exact Nat.zero_le _) ?_ (fun j hJ => ?_)
  · exact ⟨[(2, 98), (3, 194), (4, 178), (5, 226), (6, 274)], .same rfl rfl (.same rfl rfl (.same rfl rfl (.same rfl rfl (.eq rfl (.eq rfl (.nil) (by first | rfl | simp)) (by first | rfl | simp))))), .fzE rfl (.lendE rfl (.box (by first | rfl | simp) (.lendE rfl (.box (by first | rfl | simp) (.rowE rfl (.nil) (by first | rfl | simp))) (by first | rfl | simp))) (by first | rfl | simp)) (by first | rfl | simp), rfl⟩
  have hpl := pathsTo_le f j
  refine W_seq ?_
  refine W_seqK (b' := 23) rfl rfl ?_
  refine k_op0 (d := 22) (b := 7) (j' := 1) rfl rfl rfl rfl (.plain rfl) (T_cmp rfl rfl rfl rfl) rfl ?_
  refine k_done rfl ?_
  refine thenK_n ?_
  refine W_seq ?_
  refine W_cond rfl (fun g1 => ?_) (fun g1 => ?_)
  · have h1 := g1; (try simp only [cmpB, decide_eq_true_eq, decide_eq_false_iff_not, beq_iff_eq, beq_eq_false_iff_ne, bne_iff_ne, ne_eq, bne_eq_false_iff_eq, Bool.not_eq_true', Bool.not_eq_false', Int.not_lt, Int.not_le] at h1)
    refine W_skip ?_
    refine thenK_n ?_
    refine W_seq ?_
    refine W_block ?_
    refine W_seq ?_
    refine W_seqK (b' := 55) rfl rfl ?_
    refine k_op0 (d := 23) (b := 23) (j' := 1) rfl rfl rfl rfl (.plain rfl) (T_move rfl rfl) rfl ?_
    refine k_op0 (d := 8) (b := 39) (j' := 2) rfl rfl rfl rfl (.plain rfl) (T_assign rfl rfl) rfl ?_
    refine k_done rfl ?_
    refine thenK_n ?_
    refine W_seq ?_
    refine W_seqK (b' := 231) rfl rfl ?_
    refine k_op0 (d := 24) (b := 55) (j' := 1) rfl rfl rfl rfl (.plain rfl) (T_move rfl rfl) rfl ?_
    refine k_op0 (d := 25) (b := 71) (j' := 2) rfl rfl rfl rfl (.plain rfl) (T_move rfl rfl) rfl ?_
    first | refine k_op0 (d := 26) (b := 87) (j' := 3) rfl rfl rfl rfl (.plain rfl) (T_indexAddr D rfl rfl rfl rfl rfl rfl rfl rfl (by first | assumption | omega | (simp; omega))) rfl ?_ | refine k_op0 (d := 26) (b := 87) (j' := 3) rfl rfl rfl rfl (.plain rfl) (T_indexAddrZ D rfl rfl rfl rfl rfl rfl rfl rfl (by first | assumption | omega | (simp; omega)) (by first | assumption | omega | (simp; omega))) rfl ?_
    refine k_op0 (d := 27) (b := 103) (j' := 4) rfl rfl rfl rfl (.plain rfl) (T_ldE D (lv := .v _) (nn := 0) (upd := []) rfl rfl rfl rfl rfl (by first | assumption | omega | (simp; omega)) rfl rfl rfl rfl) rfl ?_
    refine k_op0 (d := 28) (b := 119) (j' := 5) rfl rfl rfl rfl (.plain rfl) (T_move rfl rfl) rfl ?_
    refine k_split (d := 28) rfl (fun g2 => ?_) (fun g2 => ?_)
    · have h2 := g2; (try simp only [cmpB, decide_eq_true_eq, decide_eq_false_iff_not, beq_iff_eq, beq_eq_false_iff_ne, bne_iff_ne, ne_eq, bne_eq_false_iff_eq, Bool.not_eq_true', Bool.not_eq_false', Int.not_lt, Int.not_le] at h2)
      refine k_op0 (d := 29) (b := 135) (j' := 6) rfl rfl rfl rfl (g_tt rfl rfl rfl g2) (T_load_b D rfl rfl rfl rfl rfl rfl) rfl ?_
      refine k_op0 (d := 30) (b := 151) (j' := 7) rfl rfl rfl rfl (g_tt rfl rfl rfl g2) (T_move rfl rfl) rfl ?_
      first | refine k_op0 (d := 31) (b := 167) (j' := 8) rfl rfl rfl rfl (g_tt rfl rfl rfl g2) (T_indexAddr D rfl rfl rfl rfl rfl rfl rfl rfl (by first | assumption | omega | (simp; omega))) rfl ?_ | refine k_op0 (d := 31) (b := 167) (j' := 8) rfl rfl rfl rfl (g_tt rfl rfl rfl g2) (T_indexAddrZ D rfl rfl rfl rfl rfl rfl rfl rfl (by first | assumption | omega | (simp; omega)) (by first | assumption | omega | (simp; omega))) rfl ?_
      refine k_op0 (d := 32) (b := 183) (j' := 9) rfl rfl rfl rfl (g_tt rfl rfl rfl g2) (T_ldE D (lv := .v _) (nn := 0) (upd := []) rfl rfl rfl rfl rfl (by first | assumption | omega | (simp; omega)) rfl rfl rfl rfl) rfl ?_
      refine k_op0 (d := 33) (b := 199) (j' := 10) rfl rfl rfl rfl (g_tt rfl rfl rfl g2) (T_cmp rfl rfl rfl rfl) rfl ?_
      refine k_op0 (d := 34) (b := 215) (j' := 11) rfl rfl rfl rfl (.plain rfl) (T_pick_t rfl rfl rfl g2) rfl ?_
      refine k_done rfl ?_
      refine thenK_n ?_
      refine W_cond rfl (fun g3 => ?_) (fun g3 => ?_)
      · have h3 := g3; (try simp only [cmpB, decide_eq_true_eq, decide_eq_false_iff_not, beq_iff_eq, beq_eq_false_iff_ne, bne_iff_ne, ne_eq, bne_eq_false_iff_eq, Bool.not_eq_true', Bool.not_eq_false', Int.not_lt, Int.not_le] at h3)
        refine W_seqK (b' := 359) rfl rfl ?_
        refine k_op0 (d := 35) (b := 231) (j' := 1) rfl rfl rfl rfl (.plain rfl) (T_move rfl rfl) rfl ?_
        refine k_op0 (d := 36) (b := 247) (j' := 2) rfl rfl rfl rfl (.plain rfl) (T_load_b D rfl rfl rfl rfl rfl rfl) rfl ?_
        refine k_op0 (d := 37) (b := 263) (j' := 3) rfl rfl rfl rfl (.plain rfl) (T_move rfl rfl) rfl ?_
        refine k_op1 (d := 38) (b := 279) (j' := 4) rfl rfl rfl rfl (.plain rfl) (T_bs D (ys := [_]) (enc := eI) (l := [_]) rfl rfl rfl rfl rfl rfl (.cons rfl (flat_v rfl) (.nil)) rfl rfl rfl rfl (.v rfl (.nil)) rfl rfl) rfl ?_
        refine k_opn (d := 39) (b := 295) (j' := 5) rfl rfl rfl rfl (.plain rfl) (T_call (lvs := [_]) (L := [(1, 279), (2, 3), (3, 5), (4, 4)]) (lv := .r 295) (upd := [(279, .no), (3, .box 52 [.r 4]), (5, .box 144 [.fn 113 [.p 3 0, .p 5 0]]), (295, .row 3 1 _)]) (nn := 1) false (follow_spec (byL f) (by omega) _ _ _ (by simp) (path_of hi (by omega) (isHead_of (by assumption) (by assumption))).1 (by simp; omega)) body113 rfl rfl rfl rfl (.row rfl (.box rfl (.box rfl (.fz rfl (.nil))))) rfl (.inl rfl) rfl rfl rfl) rfl ?_
        refine k_opn (d := 40) (b := 311) (j' := 6) rfl rfl rfl rfl (.plain rfl) (T_bs D (ys := [_]) (enc := eIs) (l := [_]) rfl rfl rfl rfl rfl rfl (.cons rfl (flat_sl rfl) (.nil)) rfl rfl rfl rfl (.row rfl (.nil) rfl) rfl rfl) rfl ?_
        refine k_opn (d := 41) (b := 327) (j' := 7) rfl rfl rfl rfl (.plain rfl) (T_append D rfl rfl rfl rfl rfl rfl rfl rfl rfl rfl rfl rfl (by (try simp only [ty52]); first | assumption | omega | (simp; omega)) (by (try simp only [ty52]); first | assumption | omega | (simp; omega))) rfl ?_
        refine k_op0 (d := 7) (b := 343) (j' := 8) rfl rfl rfl rfl (.plain rfl) (T_assign rfl rfl) rfl ?_
        refine k_done rfl ?_
        refine blockK_n ?_
        refine thenK_n ?_
        refine W_seqK (b' := 391) rfl rfl ?_
        refine k_op0 (d := 42) (b := 359) (j' := 1) rfl rfl rfl rfl (.plain rfl) (T_add64 rfl rfl rfl (by first | assumption | omega | (simp; omega))) rfl ?_
        refine k_op0 (d := 21) (b := 375) (j' := 2) rfl rfl rfl rfl (.plain rfl) (T_move rfl rfl) rfl ?_
        refine k_done rfl ?_
        refine thenK_n ?_
        refine ⟨j + 1, by (try dsimp only); omega, by (try dsimp only); omega, ?_⟩
        exact ⟨[(2, 2), (3, 3), (4, 4), (5, 5), (6, 327)], .same rfl rfl (.same rfl rfl (.same rfl rfl (.same rfl rfl (.eq rfl (.eq rfl (.nil) (by first | rfl | (rw [pathsTo_t (isHead_of (by assumption) (by assumption))]; done) | (rw [pathsTo_f (by unfold isHead; simp_all [-List.getD_eq_getElem?_getD, -Int.default_eq_zero])]))) (by first | rfl | (rw [pathsTo_t (isHead_of (by assumption) (by assumption))]; done) | (rw [pathsTo_f (by unfold isHead; simp_all [-List.getD_eq_getElem?_getD, -Int.default_eq_zero])])))))), .fzE rfl (.fzE rfl (.box (by first | rfl | (rw [pathsTo_t (isHead_of (by assumption) (by assumption))]; done) | (rw [pathsTo_f (by unfold isHead; simp_all [-List.getD_eq_getElem?_getD, -Int.default_eq_zero])])) (.fzE rfl (.box (by first | rfl | (rw [pathsTo_t (isHead_of (by assumption) (by assumption))]; done) | (rw [pathsTo_f (by unfold isHead; simp_all [-List.getD_eq_getElem?_getD, -Int.default_eq_zero])])) (.rowE rfl (.nil) (by first | rfl | (rw [pathsTo_t (isHead_of (by assumption) (by assumption))]; done) | (rw [pathsTo_f (by unfold isHead; simp_all [-List.getD_eq_getElem?_getD, -Int.default_eq_zero])])))) (by first | rfl | (rw [pathsTo_t (isHead_of (by assumption) (by assumption))]; done) | (rw [pathsTo_f (by unfold isHead; simp_all [-List.getD_eq_getElem?_getD, -Int.default_eq_zero])])))) (by first | rfl | (rw [pathsTo_t (isHead_of (by assumption) (by assumption))]; done) | (rw [pathsTo_f (by unfold isHead; simp_all [-List.getD_eq_getElem?_getD, -Int.default_eq_zero])]))) (by first | rfl | (rw [pathsTo_t (isHead_of (by assumption) (by assumption))]; done) | (rw [pathsTo_f (by unfold isHead; simp_all [-List.getD_eq_getElem?_getD, -Int.default_eq_zero])])), rfl⟩
      · have h3 := g3; (try simp only [cmpB, decide_eq_true_eq, decide_eq_false_iff_not, beq_iff_eq, beq_eq_false_iff_ne, bne_iff_ne, ne_eq, bne_eq_false_iff_eq, Bool.not_eq_true', Bool.not_eq_false', Int.not_lt, Int.not_le] at h3)
        refine W_skip ?_
        refine blockK_n ?_
        refine thenK_n ?_
        refine W_seqK (b' := 263) rfl rfl ?_
        refine k_op0 (d := 42) (b := 231) (j' := 1) rfl rfl rfl rfl (.plain rfl) (T_add64 rfl rfl rfl (by first | assumption | omega | (simp; omega))) rfl ?_
        refine k_op0 (d := 21) (b := 247) (j' := 2) rfl rfl rfl rfl (.plain rfl) (T_move rfl rfl) rfl ?_
        refine k_done rfl ?_
        refine thenK_n ?_
        refine ⟨j + 1, by (try dsimp only); omega, by (try dsimp only); omega, ?_⟩
        exact ⟨[(2, 2), (3, 3), (4, 4), (5, 5), (6, 6)], .same rfl rfl (.same rfl rfl (.same rfl rfl (.same rfl rfl (.eq rfl (.eq rfl (.nil) (by first | rfl | (rw [pathsTo_t (isHead_of (by assumption) (by assumption))]; done) | (rw [pathsTo_f (by unfold isHead; simp_all [-List.getD_eq_getElem?_getD, -Int.default_eq_zero])]))) (by first | rfl | (rw [pathsTo_t (isHead_of (by assumption) (by assumption))]; done) | (rw [pathsTo_f (by unfold isHead; simp_all [-List.getD_eq_getElem?_getD, -Int.default_eq_zero])])))))), .fzE rfl (.fzE rfl (.box (by first | rfl | (rw [pathsTo_t (isHead_of (by assumption) (by assumption))]; done) | (rw [pathsTo_f (by unfold isHead; simp_all [-List.getD_eq_getElem?_getD, -Int.default_eq_zero])])) (.fzE rfl (.box (by first | rfl | (rw [pathsTo_t (isHead_of (by assumption) (by assumption))]; done) | (rw [pathsTo_f (by unfold isHead; simp_all [-List.getD_eq_getElem?_getD, -Int.default_eq_zero])])) (.rowE rfl (.nil) (by first | rfl | (rw [pathsTo_t (isHead_of (by assumption) (by assumption))]; done) | (rw [pathsTo_f (by unfold isHead; simp_all [-List.getD_eq_getElem?_getD, -Int.default_eq_zero])])))) (by first | rfl | (rw [pathsTo_t (isHead_of (by assumption) (by assumption))]; done) | (rw [pathsTo_f (by unfold isHead; simp_all [-List.getD_eq_getElem?_getD, -Int.default_eq_zero])])))) (by first | rfl | (rw [pathsTo_t (isHead_of (by assumption) (by assumption))]; done) | (rw [pathsTo_f (by unfold isHead; simp_all [-List.getD_eq_getElem?_getD, -Int.default_eq_zero])]))) (by first | rfl | (rw [pathsTo_t (isHead_of (by assumption) (by assumption))]; done) | (rw [pathsTo_f (by unfold isHead; simp_all [-List.getD_eq_getElem?_getD, -Int.default_eq_zero])])), rfl⟩
    · have h2 := g2; (try simp only [cmpB, decide_eq_true_eq, decide_eq_false_iff_not, beq_iff_eq, beq_eq_false_iff_ne, bne_iff_ne, ne_eq, bne_eq_false_iff_eq, Bool.not_eq_true', Bool.not_eq_false', Int.not_lt, Int.not_le] at h2)
      refine k_no (d := 29) (j' := 6) rfl rfl rfl (g_tf rfl rfl rfl g2) ?_
      refine k_no (d := 30) (j' := 7) rfl rfl rfl (g_tf rfl rfl rfl g2) ?_
      refine k_no (d := 31) (j' := 8) rfl rfl rfl (g_tf rfl rfl rfl g2) ?_
      refine k_no (d := 32) (j' := 9) rfl rfl rfl (g_tf rfl rfl rfl g2) ?_
      refine k_no (d := 33) (j' := 10) rfl rfl rfl (g_tf rfl rfl rfl g2) ?_
      refine k_op0 (d := 34) (b := 215) (j' := 11) rfl rfl rfl rfl (.plain rfl) (T_pick_f rfl rfl rfl g2) rfl ?_
      refine k_done rfl ?_
      refine thenK_n ?_
      refine W_cond rfl (fun g4 => ?_) (fun g4 => ?_)
      · exact absurd (g4.symm.trans rfl) (by decide)
      · skip
        refine W_skip ?_
        refine blockK_n ?_
        refine thenK_n ?_
        refine W_seqK (b' := 263) rfl rfl ?_
        refine k_op0 (d := 42) (b := 231) (j' := 1) rfl rfl rfl rfl (.plain rfl) (T_add64 rfl rfl rfl (by first | assumption | omega | (simp; omega))) rfl ?_
        refine k_op0 (d := 21) (b := 247) (j' := 2) rfl rfl rfl rfl (.plain rfl) (T_move rfl rfl) rfl ?_
        refine k_done rfl ?_
        refine thenK_n ?_
        refine ⟨j + 1, by (try dsimp only); omega, by (try dsimp only); omega, ?_⟩
        exact ⟨[(2, 2), (3, 3), (4, 4), (5, 5), (6, 6)], .same rfl rfl (.same rfl rfl (.same rfl rfl (.same rfl rfl (.eq rfl (.eq rfl (.nil) (by first | rfl | (rw [pathsTo_t (isHead_of (by assumption) (by assumption))]; done) | (rw [pathsTo_f (by unfold isHead; simp_all [-List.getD_eq_getElem?_getD, -Int.default_eq_zero])]))) (by first | rfl | (rw [pathsTo_t (isHead_of (by assumption) (by assumption))]; done) | (rw [pathsTo_f (by unfold isHead; simp_all [-List.getD_eq_getElem?_getD, -Int.default_eq_zero])])))))), .fzE rfl (.fzE rfl (.box (by first | rfl | (rw [pathsTo_t (isHead_of (by assumption) (by assumption))]; done) | (rw [pathsTo_f (by unfold isHead; simp_all [-List.getD_eq_getElem?_getD, -Int.default_eq_zero])])) (.fzE rfl (.box (by first | rfl | (rw [pathsTo_t (isHead_of (by assumption) (by assumption))]; done) | (rw [pathsTo_f (by unfold isHead; simp_all [-List.getD_eq_getElem?_getD, -Int.default_eq_zero])])) (.rowE rfl (.nil) (by first | rfl | (rw [pathsTo_t (isHead_of (by assumption) (by assumption))]; done) | (rw [pathsTo_f (by unfold isHead; simp_all [-List.getD_eq_getElem?_getD, -Int.default_eq_zero])])))) (by first | rfl | (rw [pathsTo_t (isHead_of (by assumption) (by assumption))]; done) | (rw [pathsTo_f (by unfold isHead; simp_all [-List.getD_eq_getElem?_getD, -Int.default_eq_zero])])))) (by first | rfl | (rw [pathsTo_t (isHead_of (by assumption) (by assumption))]; done) | (rw [pathsTo_f (by unfold isHead; simp_all [-List.getD_eq_getElem?_getD, -Int.default_eq_zero])]))) (by first | rfl | (rw [pathsTo_t (isHead_of (by assumption) (by assumption))]; done) | (rw [pathsTo_f (by unfold isHead; simp_all [-List.getD_eq_getElem?_getD, -Int.default_eq_zero])])), rfl⟩
  · have h1 := g1; (try simp only [cmpB, decide_eq_true_eq, decide_eq_false_iff_not, beq_iff_eq, beq_eq_false_iff_ne, bne_iff_ne, ne_eq, bne_eq_false_iff_eq, Bool.not_eq_true', Bool.not_eq_false', Int.not_lt, Int.not_le] at h1)
    refine W_exit ?_
    refine thenK_e ?_
    refine thenK_e ?_
    refine blockK_hit ?_
    refine thenK_n ?_
    refine W_seq ?_
    refine W_seqK (b' := 55) rfl rfl ?_
    refine k_op0 (d := 43) (b := 23) (j' := 1) rfl rfl rfl rfl (.plain rfl) (T_move rfl rfl) rfl ?_
    refine k_op0 (d := 2) (b := 39) (j' := 2) rfl rfl rfl rfl (.plain rfl) (T_assign rfl rfl) rfl ?_
    refine k_done rfl ?_
    refine thenK_n ?_
    refine W_ret ?_
    -- end 0
    exact .mk [(2, 6)] (.inr rfl) (.tmp rfl (.nil)) rfl (.rowE rfl (.nil) (by first | rfl | (have e : j = f.blocks.length := (by omega); rw [e]; rfl))) rfl
end Lg
end Go.Proofs.Ytpfhmodjjljpjaa

namespace Go.Proofs.Ytpfhmodjjljpjaa
open Go.RowKit
namespace Lg

/-! ### A function, tidied -/
def begins (ps : List (List Int)) (old : Int) : Int := fstIdx (fun p : List Int => p.getD 0 default == old) ps
def newBlock (f : GFn) (ps : List (List Int)) (p : List Int) : GBlock :=
  ⟨instrs f p, (blk f (lastOf p)).fin, (blk f (lastOf p)).v, if (blk f (lastOf p)).fin = 3 then 0 else begins ps (blk f (lastOf p)).to, if (blk f (lastOf p)).fin = 2 then begins ps (blk f (lastOf p)).els else 0⟩
def tidyG (f : GFn) : GFn := ⟨f.regs, (pathsL f).map (newBlock f (pathsL f))⟩

theorem mem_pathsL {f : GFn} (hi : InN f) {p : List Int} (h : p ∈ pathsL f) : ∃ i q, i < f.blocks.length ∧ isHead f i = true ∧ PathOf f i q ∧ p = ints q := by
  unfold pathsL pathsTo at h
  obtain ⟨i, h1, h2⟩ := List.mem_map.1 h
  obtain ⟨h3, h4⟩ := List.mem_filter.1 h1
  obtain ⟨q, hq⟩ := (path_of hi (by simpa using h3) h4).2
  exact ⟨i, q, by simpa using h3, h4, hq, by rw [← h2, hq.e]⟩
theorem path_in {f : GFn} (hi : InN f) {p : List Int} (h : p ∈ pathsL f) : 1 ≤ p.length ∧ p.length ≤ f.blocks.length ∧ ∀ x ∈ p, 0 ≤ x ∧ x < (f.blocks.length : Int) := by
  obtain ⟨i, q, h1, h2, h3, rfl⟩ := mem_pathsL hi h
  refine ⟨by rw [ints_length]; exact List.length_pos_iff.2 h3.g.ne, by rw [ints_length]; exact nodup_length _ _ h3.g.nd h3.g.lt, fun x hx => ?_⟩
  obtain ⟨y, hy, rfl⟩ := List.mem_map.1 hx
  have := h3.g.lt y hy
  omega
theorem instrs_le {f : GFn} {c : Nat} (hc : ∀ b ∈ f.blocks, b.ins.length ≤ c) : ∀ (p : List Int), (instrs f p).length ≤ p.length * c
  | [] => by simp [instrs]
  | k :: p => by
    have h1 := instrs_le hc p
    have h2 : (f.blocks.getD k.toNat default).ins.length ≤ c := by
      by_cases h : k.toNat < f.blocks.length
      · exact hc _ (getD_mem h)
      · rw [List.getD_eq_getElem?_getD, List.getElem?_eq_none (by omega)]
        exact Nat.zero_le _
    have h3 : (instrs f (k :: p)).length = (f.blocks.getD k.toNat default).ins.length + (instrs f p).length := by simp [instrs]
    rw [h3, List.length_cons, Nat.succ_mul]
    omega
theorem instrs_small {f : GFn} (hb : f.blocks.length ≤ 900000) (hc : ∀ b ∈ f.blocks, b.ins.length ≤ 1000) {p : List Int} (hp : p.length ≤ f.blocks.length) (j : Nat) : (instrs f (p.take j)).length ≤ 1000000000 := by
  have h1 := instrs_le hc (p.take j)
  have h2 : (p.take j).length ≤ 900000 := by rw [List.length_take]; omega
  have h3 := Nat.mul_le_mul_right 1000 h2
  omega
theorem last_in {f : GFn} {p : List Int} (h1 : 1 ≤ p.length) (h : ∀ x ∈ p, 0 ≤ x ∧ x < (f.blocks.length : Int)) : 0 ≤ lastOf p ∧ lastOf p < (f.blocks.length : Int) := h _ (lastOf_mem (List.length_pos_iff.1 h1))
theorem tidy_step {N : List Int → GBlock} {P : List (List Int)} {j : Nat} {b : GBlock} (h : j < P.length) (hb : b = N (P.getD j default)) : (((P.take j).map N) ++ [b]).map eBlock = ((P.take (j + 1)).map N).map eBlock := by
  rw [take_succ_getD h, hb]
  simp
theorem newBlock_eq {f : GFn} {ps : List (List Int)} {p : List Int} {a : List GTac} {b c d e : Int} (ha : a = instrs f p) (hb : b = (blk f (lastOf p)).fin) (hc : c = (blk f (lastOf p)).v) (hd : d = if (blk f (lastOf p)).fin = 3 then 0 else begins ps (blk f (lastOf p)).to) (he : e = if (blk f (lastOf p)).fin = 2 then begins ps (blk f (lastOf p)).els else 0) : (⟨a, b, c, d, e⟩ : GBlock) = newBlock f ps p := by
  subst ha hb hc hd he
  rfl
end Lg
end Go.Proofs.Ytpfhmodjjljpjaa
