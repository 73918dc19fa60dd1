import Derived.Test.YtpfhmodjjljpjaaF5
namespace Go.Proofs.Ytpfhmodjjljpjaa
open Go.RowKit
namespace Lg
set_option maxRecDepth 100000
set_option linter.unusedVariables false
set_option linter.unusedSimpArgs false



theorem body33 : (Try.prog.funcs[33]?).map (fun fn => (fn.name == "runtime.NumGoroutine" || fn.body.isNone)) = some false := by kernel_rfl
theorem rcheck_spec (f g : GFn) (ps : List (List Int)) (hl : ps.length ≤ 1000000000) (hpl : ∀ p ∈ ps, p.length ≤ 1000000000) (hgi : ∀ b ∈ g.blocks, b.ins.length ≤ 1000000) (hI : ∀ p ∈ ps, ∀ j, (instrs f (p.take j)).length ≤ 1000000000) : Spec Try.prog 33 [.agg [.v (.int .i64 f.regs), .r 1], .agg [.v (.int .i64 g.regs), .r 2], .r 3] 4 [(1, .fz 5 (f.blocks.map eBlock)), (2, .fz 5 (g.blocks.map eBlock)), (3, .fz 1 (ps.map eIs))] (.v (.bool (tcheck f g ps))) 4 [] := by
  refine spec_of D (fn := Try.f33) rfl rfl (Nat.le_of_ble_eq_true rfl) ?_
  refine W_seq ?_
  refine W_seqK (b' := 52) rfl rfl ?_
  refine k_op1 (d := 3) (b := 4) (j' := 1) rfl rfl rfl rfl (.plain rfl) (T_box rfl rfl flat_agg) rfl ?_
  refine k_op1 (d := 4) (b := 20) (j' := 2) rfl rfl rfl rfl (.plain rfl) (T_box rfl rfl flat_agg) rfl ?_
  refine k_op0 (d := 6) (b := 36) (j' := 3) rfl rfl rfl rfl (.plain rfl) (T_assign rfl rfl) rfl ?_
  refine k_done rfl ?_
  refine thenK_n ?_
  refine W_seq ?_
  refine W_seq ?_
  refine W_seqK (b' := 340) rfl rfl ?_
  refine k_op0 (d := 10) (b := 52) (j' := 1) rfl rfl rfl rfl (.plain rfl) (T_move rfl rfl) rfl ?_
  refine k_op0 (d := 11) (b := 68) (j' := 2) rfl rfl rfl rfl (.plain rfl) (T_len D rfl rfl rfl rfl rfl rfl) rfl ?_
  refine k_op0 (d := 12) (b := 84) (j' := 3) rfl rfl rfl rfl (.plain rfl) (T_fa D (m := 1) rfl rfl rfl rfl rfl rfl) rfl ?_
  refine k_op0 (d := 13) (b := 100) (j' := 4) rfl rfl rfl rfl (.plain rfl) (T_load_b D rfl rfl rfl rfl rfl rfl) rfl ?_
  refine k_op0 (d := 14) (b := 116) (j' := 5) rfl rfl rfl rfl (.plain rfl) (T_len D rfl rfl rfl rfl rfl rfl) rfl ?_
  refine k_op0 (d := 15) (b := 132) (j' := 6) rfl rfl rfl rfl (.plain rfl) (T_cmp rfl rfl rfl rfl) rfl ?_
  refine k_op0 (d := 16) (b := 148) (j' := 7) rfl rfl rfl rfl (.plain rfl) (T_move rfl rfl) rfl ?_
  refine k_split (d := 16) rfl (fun g1 => ?_) (fun g1 => ?_)
  · have h1 := g1; (try simp only [cmpB, decide_eq_true_eq, decide_eq_false_iff_not, beq_iff_eq, beq_eq_false_iff_ne, bne_iff_ne, ne_eq, bne_eq_false_iff_eq, Bool.not_eq_true', Bool.not_eq_false', Int.not_lt, Int.not_le] at h1)
    refine k_no (d := 17) (j' := 8) rfl rfl rfl (g_ft rfl rfl rfl g1) ?_
    refine k_no (d := 18) (j' := 9) rfl rfl rfl (g_ft rfl rfl rfl g1) ?_
    refine k_no (d := 19) (j' := 10) rfl rfl rfl (g_ft rfl rfl rfl g1) ?_
    refine k_op0 (d := 20) (b := 212) (j' := 11) rfl rfl rfl rfl (.plain rfl) (T_pick_t rfl rfl rfl g1) rfl ?_
    refine k_op0 (d := 21) (b := 228) (j' := 12) rfl rfl rfl rfl (.plain rfl) (T_move rfl rfl) rfl ?_
    refine k_no (d := 22) (j' := 13) rfl rfl rfl (g_ft rfl rfl rfl rfl) ?_
    refine k_no (d := 23) (j' := 14) rfl rfl rfl (g_ft rfl rfl rfl rfl) ?_
    refine k_no (d := 24) (j' := 15) rfl rfl rfl (g_ft rfl rfl rfl rfl) ?_
    refine k_no (d := 25) (j' := 16) rfl rfl rfl (g_ft rfl rfl rfl rfl) ?_
    refine k_no (d := 26) (j' := 17) rfl rfl rfl (g_ft rfl rfl rfl rfl) ?_
    refine k_op0 (d := 27) (b := 324) (j' := 18) rfl rfl rfl rfl (.plain rfl) (T_pick_t rfl rfl rfl rfl) rfl ?_
    refine k_done rfl ?_
    refine thenK_n ?_
    refine W_cond rfl (fun g2 => ?_) (fun g2 => ?_)
    · skip
      refine W_seq ?_
      refine W_seqK (b' := 356) rfl rfl ?_
      refine k_op0 (d := 6) (b := 340) (j' := 1) rfl rfl rfl rfl (.plain rfl) (T_assign rfl rfl) rfl ?_
      refine k_done rfl ?_
      refine thenK_n ?_
      refine W_ret ?_
      refine thenK_r ?_
      -- end 0
      exact .mk [] (.inr rfl) (.tmp rfl (.nil)) (by simp only [resLV, LV.ren, LV.v.injEq, Value.bool.injEq]; rw [tcheck, if_pos (by omega)]) (.nil) rfl
    · exact absurd (g2.symm.trans rfl) (by decide)
  · have h1 := g1; (try simp only [cmpB, decide_eq_true_eq, decide_eq_false_iff_not, beq_iff_eq, beq_eq_false_iff_ne, bne_iff_ne, ne_eq, bne_eq_false_iff_eq, Bool.not_eq_true', Bool.not_eq_false', Int.not_lt, Int.not_le] at h1)
    refine k_op0 (d := 17) (b := 164) (j' := 8) rfl rfl rfl rfl (g_ff rfl rfl rfl g1) (T_move rfl rfl) rfl ?_
    refine k_op0 (d := 18) (b := 180) (j' := 9) rfl rfl rfl rfl (g_ff rfl rfl rfl g1) (T_len D rfl rfl rfl rfl rfl rfl) rfl ?_
    refine k_op0 (d := 19) (b := 196) (j' := 10) rfl rfl rfl rfl (g_ff rfl rfl rfl g1) (T_cmp rfl rfl rfl rfl) rfl ?_
    refine k_op0 (d := 20) (b := 212) (j' := 11) rfl rfl rfl rfl (.plain rfl) (T_pick_f rfl rfl rfl g1) rfl ?_
    refine k_op0 (d := 21) (b := 228) (j' := 12) rfl rfl rfl rfl (.plain rfl) (T_move rfl rfl) rfl ?_
    refine k_split (d := 21) rfl (fun g3 => ?_) (fun g3 => ?_)
    · have h3 := g3; (try simp only [cmpB, decide_eq_true_eq, decide_eq_false_iff_not, beq_iff_eq, beq_eq_false_iff_ne, bne_iff_ne, ne_eq, bne_eq_false_iff_eq, Bool.not_eq_true', Bool.not_eq_false', Int.not_lt, Int.not_le] at h3)
      refine k_no (d := 22) (j' := 13) rfl rfl rfl (g_ft rfl rfl rfl g3) ?_
      refine k_no (d := 23) (j' := 14) rfl rfl rfl (g_ft rfl rfl rfl g3) ?_
      refine k_no (d := 24) (j' := 15) rfl rfl rfl (g_ft rfl rfl rfl g3) ?_
      refine k_no (d := 25) (j' := 16) rfl rfl rfl (g_ft rfl rfl rfl g3) ?_
      refine k_no (d := 26) (j' := 17) rfl rfl rfl (g_ft rfl rfl rfl g3) ?_
      refine k_op0 (d := 27) (b := 324) (j' := 18) rfl rfl rfl rfl (.plain rfl) (T_pick_t rfl rfl rfl g3) rfl ?_
      refine k_done rfl ?_
      refine thenK_n ?_
      refine W_cond rfl (fun g4 => ?_) (fun g4 => ?_)
      · skip
        refine W_seq ?_
        refine W_seqK (b' := 356) rfl rfl ?_
        refine k_op0 (d := 6) (b := 340) (j' := 1) rfl rfl rfl rfl (.plain rfl) (T_assign rfl rfl) rfl ?_
        refine k_done rfl ?_
        refine thenK_n ?_
        refine W_ret ?_
        refine thenK_r ?_
        -- end 1
        exact .mk [] (.inr rfl) (.tmp rfl (.nil)) (by simp only [resLV, LV.ren, LV.v.injEq, Value.bool.injEq]; rw [tcheck, if_pos (by omega)]) (.nil) rfl
      · exact absurd (g4.symm.trans rfl) (by decide)
    · have h3 := g3; (try simp only [cmpB, decide_eq_true_eq, decide_eq_false_iff_not, beq_iff_eq, beq_eq_false_iff_ne, bne_iff_ne, ne_eq, bne_eq_false_iff_eq, Bool.not_eq_true', Bool.not_eq_false', Int.not_lt, Int.not_le] at h3)
      refine k_op0 (d := 22) (b := 244) (j' := 13) rfl rfl rfl rfl (g_ff rfl rfl rfl g3) (T_fa D (m := 0) rfl rfl rfl rfl rfl rfl) rfl ?_
      refine k_op0 (d := 23) (b := 260) (j' := 14) rfl rfl rfl rfl (g_ff rfl rfl rfl g3) (T_load_b D rfl rfl rfl rfl rfl rfl) rfl ?_
      refine k_op0 (d := 24) (b := 276) (j' := 15) rfl rfl rfl rfl (g_ff rfl rfl rfl g3) (T_fa D (m := 0) rfl rfl rfl rfl rfl rfl) rfl ?_
      refine k_op0 (d := 25) (b := 292) (j' := 16) rfl rfl rfl rfl (g_ff rfl rfl rfl g3) (T_load_b D rfl rfl rfl rfl rfl rfl) rfl ?_
      refine k_op0 (d := 26) (b := 308) (j' := 17) rfl rfl rfl rfl (g_ff rfl rfl rfl g3) (T_cmp rfl rfl rfl rfl) rfl ?_
      refine k_op0 (d := 27) (b := 324) (j' := 18) rfl rfl rfl rfl (.plain rfl) (T_pick_f rfl rfl rfl g3) rfl ?_
      refine k_done rfl ?_
      refine thenK_n ?_
      refine W_cond rfl (fun g5 => ?_) (fun g5 => ?_)
      · have h5 := g5; (try simp only [cmpB, decide_eq_true_eq, decide_eq_false_iff_not, beq_iff_eq, beq_eq_false_iff_ne, bne_iff_ne, ne_eq, bne_eq_false_iff_eq, Bool.not_eq_true', Bool.not_eq_false', Int.not_lt, Int.not_le] at h5)
        refine W_seq ?_
        refine W_seqK (b' := 356) rfl rfl ?_
        refine k_op0 (d := 6) (b := 340) (j' := 1) rfl rfl rfl rfl (.plain rfl) (T_assign rfl rfl) rfl ?_
        refine k_done rfl ?_
        refine thenK_n ?_
        refine W_ret ?_
        refine thenK_r ?_
        -- end 2
        exact .mk [] (.inr rfl) (.tmp rfl (.nil)) (by simp only [resLV, LV.ren, LV.v.injEq, Value.bool.injEq]; rw [tcheck, if_pos (by omega)]) (.nil) rfl
      · have h5 := g5; (try simp only [cmpB, decide_eq_true_eq, decide_eq_false_iff_not, beq_iff_eq, beq_eq_false_iff_ne, bne_iff_ne, ne_eq, bne_eq_false_iff_eq, Bool.not_eq_true', Bool.not_eq_false', Int.not_lt, Int.not_le] at h5)
        refine W_skip ?_
        refine thenK_n ?_
        refine W_seq ?_
        refine W_seq ?_
        refine W_seqK (b' := 356) rfl rfl ?_
        refine k_op0 (d := 7) (b := 340) (j' := 1) rfl rfl rfl rfl (.plain rfl) (T_assign rfl rfl) rfl ?_
        refine k_done rfl ?_
        refine thenK_n ?_
        refine W_block ?_
        refine W_loop (ι := Nat) 6 (fun j => ⟨[(2, .r 3), (3, .p 4 0), (4, .p 5 0), (7, .v (.int .i64 (j : Int)))], [(1, .fz 5 (f.blocks.map eBlock)), (2, .fz 5 (g.blocks.map eBlock)), (3, .fz 1 (ps.map eIs)), (4, .box 29 [.v (.int .i64 f.regs), .r 1]), (5, .box 29 [.v (.int .i64 g.regs), .r 2])]⟩) (fun j => j ≤ ps.length ∧ ∀ i, i < j → okPath f (ps.getD i default) = true) (fun j => ps.length - j) (0) (by exact ⟨Nat.zero_le _, fun i h => absurd h (Nat.not_lt_zero _)⟩) ?_ (fun j hJ => ?_)
        · exact ⟨[(4, 4), (5, 20)], .same rfl rfl (.same rfl rfl (.same rfl rfl (.eq rfl (.nil) (by first | rfl | simp)))), .fzE rfl (.fzE rfl (.fzE rfl (.box (by first | rfl | simp) (.box (by first | rfl | simp) (.nil))) (by first | rfl | simp)) (by first | rfl | simp)) (by first | rfl | simp), rfl⟩
        have hpj := fun h => hpl (ps.getD j default) (getD_mem h)
        refine W_seq ?_
        refine W_seq ?_
        refine W_seqK (b' := 70) rfl rfl ?_
        refine k_op0 (d := 28) (b := 6) (j' := 1) rfl rfl rfl rfl (.plain rfl) (T_move rfl rfl) rfl ?_
        refine k_op0 (d := 29) (b := 22) (j' := 2) rfl rfl rfl rfl (.plain rfl) (T_move rfl rfl) rfl ?_
        refine k_op0 (d := 30) (b := 38) (j' := 3) rfl rfl rfl rfl (.plain rfl) (T_len D rfl rfl rfl rfl rfl rfl) rfl ?_
        refine k_op0 (d := 31) (b := 54) (j' := 4) rfl rfl rfl rfl (.plain rfl) (T_cmp rfl rfl rfl rfl) rfl ?_
        refine k_done rfl ?_
        refine thenK_n ?_
        refine W_cond rfl (fun g6 => ?_) (fun g6 => ?_)
        · have h6 := g6; (try simp only [cmpB, decide_eq_true_eq, decide_eq_false_iff_not, beq_iff_eq, beq_eq_false_iff_ne, bne_iff_ne, ne_eq, bne_eq_false_iff_eq, Bool.not_eq_true', Bool.not_eq_false', Int.not_lt, Int.not_le] at h6)
          refine W_skip ?_
          refine thenK_n ?_
          refine W_seq ?_
          refine W_block ?_
          refine W_seq ?_
          refine W_seq ?_
          refine W_seqK (b' := 166) rfl rfl ?_
          refine k_op0 (d := 34) (b := 70) (j' := 1) rfl rfl rfl rfl (.plain rfl) (T_move rfl rfl) rfl ?_
          refine k_op0 (d := 35) (b := 86) (j' := 2) rfl rfl rfl rfl (.plain rfl) (T_move rfl rfl) rfl ?_
          first | refine k_op0 (d := 36) (b := 102) (j' := 3) rfl rfl rfl rfl (.plain rfl) (T_indexAddr D rfl rfl rfl rfl rfl rfl rfl rfl (by first | assumption | omega | exact okPath_len (hJ.2 0 (by omega)) | (simp; omega))) rfl ?_ | refine k_op0 (d := 36) (b := 102) (j' := 3) rfl rfl rfl rfl (.plain rfl) (T_indexAddrZ D rfl rfl rfl rfl rfl rfl rfl rfl (by first | assumption | omega | exact okPath_len (hJ.2 0 (by omega)) | (simp; omega)) (by first | assumption | omega | exact okPath_len (hJ.2 0 (by omega)) | (simp; omega))) rfl ?_
          refine k_op1 (d := 37) (b := 118) (j' := 4) rfl rfl rfl rfl (.plain rfl) (T_ldE D (lv := .r 118) (nn := 1) (upd := [(118, .fz 1 _)]) rfl rfl rfl rfl rfl (by first | assumption | omega | exact okPath_len (hJ.2 0 (by omega)) | (simp; omega)) rfl rfl rfl rfl) rfl ?_
          refine k_op0 (d := 38) (b := 134) (j' := 5) rfl rfl rfl rfl (.plain rfl) (T_len D rfl rfl rfl rfl rfl rfl) rfl ?_
          refine k_op0 (d := 39) (b := 150) (j' := 6) rfl rfl rfl rfl (.plain rfl) (T_cmp rfl rfl rfl rfl) rfl ?_
          refine k_done rfl ?_
          refine thenK_n ?_
          refine W_cond rfl (fun g7 => ?_) (fun g7 => ?_)
          · have h7 := g7; (try simp only [cmpB, decide_eq_true_eq, decide_eq_false_iff_not, beq_iff_eq, beq_eq_false_iff_ne, bne_iff_ne, ne_eq, bne_eq_false_iff_eq, Bool.not_eq_true', Bool.not_eq_false', Int.not_lt, Int.not_le] at h7)
            refine W_seq ?_
            refine W_seqK (b' := 182) rfl rfl ?_
            refine k_op0 (d := 6) (b := 166) (j' := 1) rfl rfl rfl rfl (.plain rfl) (T_assign rfl rfl) rfl ?_
            refine k_done rfl ?_
            refine thenK_n ?_
            refine W_ret ?_
            refine thenK_r ?_
            refine blockK_r ?_
            refine thenK_r ?_
            refine thenK_r ?_
            refine blockK_r ?_
            refine thenK_r ?_
            -- end 3
            exact .mk [] (.inr rfl) (.tmp rfl (.nil)) (by simp only [resLV, LV.ren, LV.v.injEq, Value.bool.injEq]; rw [tcheck, if_neg (by omega), if_pos (all_false_at (i := j) (by omega) (by simp only [okPath, decide_eq_true (p := (ps.getD j default).length = 0) (by omega)]; rfl))]) (.nil) rfl
          · have h7 := g7; (try simp only [cmpB, decide_eq_true_eq, decide_eq_false_iff_not, beq_iff_eq, beq_eq_false_iff_ne, bne_iff_ne, ne_eq, bne_eq_false_iff_eq, Bool.not_eq_true', Bool.not_eq_false', Int.not_lt, Int.not_le] at h7)
            refine W_skip ?_
            refine thenK_n ?_
            refine W_seq ?_
            refine W_seqK (b' := 182) rfl rfl ?_
            refine k_op0 (d := 8) (b := 166) (j' := 1) rfl rfl rfl rfl (.plain rfl) (T_assign rfl rfl) rfl ?_
            refine k_done rfl ?_
            refine thenK_n ?_
            refine W_block ?_
            have hpj := hpl (ps.getD j default) (getD_mem (by omega))
            refine W_loop (ι := Nat) 6 (fun i => ⟨[(2, .r 3), (3, .p 4 0), (4, .p 5 0), (7, .v (.int .i64 (j : Int))), (8, .v (.int .i64 (i : Int)))], [(1, .fz 5 (f.blocks.map eBlock)), (2, .fz 5 (g.blocks.map eBlock)), (3, .fz 1 (ps.map eIs)), (4, .box 29 [.v (.int .i64 f.regs), .r 1]), (5, .box 29 [.v (.int .i64 g.regs), .r 2])]⟩) (fun i => i ≤ (ps.getD j default).length ∧ ∀ m, m < i → outside f ((ps.getD j default).getD m default) = false) (fun i => (ps.getD j default).length - i) (0) (by exact ⟨Nat.zero_le _, fun m h => absurd h (Nat.not_lt_zero _)⟩) ?_ (fun i hI => ?_)
            · exact ⟨[(4, 4), (5, 5)], .same rfl rfl (.same rfl rfl (.same rfl rfl (.eq rfl (.eq rfl (.nil) (by first | rfl | simp)) (by first | rfl | simp)))), .fzE rfl (.fzE rfl (.fzE rfl (.box (by first | rfl | simp) (.box (by first | rfl | simp) (.nil))) (by first | rfl | simp)) (by first | rfl | simp)) (by first | rfl | simp), rfl⟩
            refine W_seq ?_
            refine W_seq ?_
            refine W_seqK (b' := 118) rfl rfl ?_
            refine k_op0 (d := 40) (b := 6) (j' := 1) rfl rfl rfl rfl (.plain rfl) (T_move rfl rfl) rfl ?_
            refine k_op0 (d := 41) (b := 22) (j' := 2) rfl rfl rfl rfl (.plain rfl) (T_move rfl rfl) rfl ?_
            refine k_op0 (d := 42) (b := 38) (j' := 3) rfl rfl rfl rfl (.plain rfl) (T_move rfl rfl) rfl ?_
            first | refine k_op0 (d := 43) (b := 54) (j' := 4) rfl rfl rfl rfl (.plain rfl) (T_indexAddr D rfl rfl rfl rfl rfl rfl rfl rfl (by first | assumption | omega | exact okPath_len (hJ.2 0 (by omega)) | (simp; omega))) rfl ?_ | refine k_op0 (d := 43) (b := 54) (j' := 4) rfl rfl rfl rfl (.plain rfl) (T_indexAddrZ D rfl rfl rfl rfl rfl rfl rfl rfl (by first | assumption | omega | exact okPath_len (hJ.2 0 (by omega)) | (simp; omega)) (by first | assumption | omega | exact okPath_len (hJ.2 0 (by omega)) | (simp; omega))) rfl ?_
            refine k_op1 (d := 44) (b := 70) (j' := 5) rfl rfl rfl rfl (.plain rfl) (T_ldE D (lv := .r 70) (nn := 1) (upd := [(70, .fz 1 _)]) rfl rfl rfl rfl rfl (by first | assumption | omega | exact okPath_len (hJ.2 0 (by omega)) | (simp; omega)) rfl rfl rfl rfl) rfl ?_
            refine k_op0 (d := 45) (b := 86) (j' := 6) rfl rfl rfl rfl (.plain rfl) (T_len D rfl rfl rfl rfl rfl rfl) rfl ?_
            refine k_op0 (d := 46) (b := 102) (j' := 7) rfl rfl rfl rfl (.plain rfl) (T_cmp rfl rfl rfl rfl) rfl ?_
            refine k_done rfl ?_
            refine thenK_n ?_
            refine W_cond rfl (fun g8 => ?_) (fun g8 => ?_)
            · have h8 := g8; (try simp only [cmpB, decide_eq_true_eq, decide_eq_false_iff_not, beq_iff_eq, beq_eq_false_iff_ne, bne_iff_ne, ne_eq, bne_eq_false_iff_eq, Bool.not_eq_true', Bool.not_eq_false', Int.not_lt, Int.not_le] at h8)
              refine W_skip ?_
              refine thenK_n ?_
              refine W_seq ?_
              refine W_block ?_
              refine W_seq ?_
              refine W_anyK (b' := 454) rfl rfl rfl ?_
              refine k_op0 (d := 49) (b := 118) (j' := 1) rfl rfl rfl rfl (.plain rfl) (T_move rfl rfl) rfl ?_
              refine k_op0 (d := 50) (b := 134) (j' := 2) rfl rfl rfl rfl (.plain rfl) (T_move rfl rfl) rfl ?_
              first | refine k_op0 (d := 51) (b := 150) (j' := 3) rfl rfl rfl rfl (.plain rfl) (T_indexAddr D rfl rfl rfl rfl rfl rfl rfl rfl (by first | assumption | omega | exact okPath_len (hJ.2 0 (by omega)) | (simp; omega))) rfl ?_ | refine k_op0 (d := 51) (b := 150) (j' := 3) rfl rfl rfl rfl (.plain rfl) (T_indexAddrZ D rfl rfl rfl rfl rfl rfl rfl rfl (by first | assumption | omega | exact okPath_len (hJ.2 0 (by omega)) | (simp; omega)) (by first | assumption | omega | exact okPath_len (hJ.2 0 (by omega)) | (simp; omega))) rfl ?_
              refine k_op1 (d := 52) (b := 166) (j' := 4) rfl rfl rfl rfl (.plain rfl) (T_ldE D (lv := .r 166) (nn := 1) (upd := [(166, .fz 1 _)]) rfl rfl rfl rfl rfl (by first | assumption | omega | exact okPath_len (hJ.2 0 (by omega)) | (simp; omega)) rfl rfl rfl rfl) rfl ?_
              refine k_op0 (d := 53) (b := 182) (j' := 5) rfl rfl rfl rfl (.plain rfl) (T_move rfl rfl) rfl ?_
              first | refine k_op0 (d := 54) (b := 198) (j' := 6) rfl rfl rfl rfl (.plain rfl) (T_indexAddr D rfl rfl rfl rfl rfl rfl rfl rfl (by first | assumption | omega | exact okPath_len (hJ.2 0 (by omega)) | (simp; omega))) rfl ?_ | refine k_op0 (d := 54) (b := 198) (j' := 6) rfl rfl rfl rfl (.plain rfl) (T_indexAddrZ D rfl rfl rfl rfl rfl rfl rfl rfl (by first | assumption | omega | exact okPath_len (hJ.2 0 (by omega)) | (simp; omega)) (by first | assumption | omega | exact okPath_len (hJ.2 0 (by omega)) | (simp; omega))) rfl ?_
              refine k_op0 (d := 55) (b := 214) (j' := 7) rfl rfl rfl rfl (.plain rfl) (T_ldE D (lv := .v _) (nn := 0) (upd := []) rfl rfl rfl rfl rfl (by first | assumption | omega | exact okPath_len (hJ.2 0 (by omega)) | (simp; omega)) rfl rfl rfl rfl) rfl ?_
              refine k_op0 (d := 56) (b := 230) (j' := 8) rfl rfl rfl rfl (.plain rfl) (T_cmp rfl rfl rfl rfl) rfl ?_
              refine k_op0 (d := 57) (b := 246) (j' := 9) rfl rfl rfl rfl (.plain rfl) (T_move rfl rfl) rfl ?_
              refine k_split (d := 57) rfl (fun g9 => ?_) (fun g9 => ?_)
              · have h9 := g9; (try simp only [cmpB, decide_eq_true_eq, decide_eq_false_iff_not, beq_iff_eq, beq_eq_false_iff_ne, bne_iff_ne, ne_eq, bne_eq_false_iff_eq, Bool.not_eq_true', Bool.not_eq_false', Int.not_lt, Int.not_le] at h9)
                refine k_no (d := 58) (j' := 10) rfl rfl rfl (g_ft rfl rfl rfl g9) ?_
                refine k_no (d := 59) (j' := 11) rfl rfl rfl (g_ft rfl rfl rfl g9) ?_
                refine k_no (d := 60) (j' := 12) rfl rfl rfl (g_ft rfl rfl rfl g9) ?_
                refine k_no (d := 61) (j' := 13) rfl rfl rfl (g_ft rfl rfl rfl g9) ?_
                refine k_no (d := 62) (j' := 14) rfl rfl rfl (g_ft rfl rfl rfl g9) ?_
                refine k_no (d := 63) (j' := 15) rfl rfl rfl (g_ft rfl rfl rfl g9) ?_
                refine k_no (d := 64) (j' := 16) rfl rfl rfl (g_ft rfl rfl rfl g9) ?_
                refine k_no (d := 65) (j' := 17) rfl rfl rfl (g_ft rfl rfl rfl g9) ?_
                refine k_no (d := 66) (j' := 18) rfl rfl rfl (g_ft rfl rfl rfl g9) ?_
                refine k_no (d := 67) (j' := 19) rfl rfl rfl (g_ft rfl rfl rfl g9) ?_
                refine k_no (d := 68) (j' := 20) rfl rfl rfl (g_ft rfl rfl rfl g9) ?_
                refine k_op0 (d := 69) (b := 438) (j' := 21) rfl rfl rfl rfl (.plain rfl) (T_pick_t rfl rfl rfl g9) rfl ?_
                refine k_done rfl ?_
                refine ⟨rfl, ?_⟩
                refine thenK_n ?_
                refine W_cond rfl (fun g10 => ?_) (fun g10 => ?_)
                · skip
                  refine W_seq ?_
                  refine W_seqK (b' := 470) rfl rfl ?_
                  refine k_op0 (d := 6) (b := 454) (j' := 1) rfl rfl rfl rfl (.plain rfl) (T_assign rfl rfl) rfl ?_
                  refine k_done rfl ?_
                  refine thenK_n ?_
                  refine W_ret ?_
                  refine blockK_r ?_
                  refine thenK_r ?_
                  refine thenK_r ?_
                  refine blockK_r ?_
                  refine blockK_r ?_
                  refine thenK_r ?_
                  refine thenK_r ?_
                  refine blockK_r ?_
                  refine thenK_r ?_
                  -- end 4
                  exact .mk [] (.inr rfl) (.tmp rfl (.nil)) (by simp only [resLV, LV.ren, LV.v.injEq, Value.bool.injEq]; rw [tcheck, if_neg (by omega), if_pos (all_false_at (i := j) (by omega) (by rw [okPath, any_true_getD (i := i) (by omega) (by simp only [outside, Bool.or_eq_true, decide_eq_true_eq]; omega)]; simp))]) (.nil) rfl
                · exact absurd (g10.symm.trans rfl) (by decide)
              · have h9 := g9; (try simp only [cmpB, decide_eq_true_eq, decide_eq_false_iff_not, beq_iff_eq, beq_eq_false_iff_ne, bne_iff_ne, ne_eq, bne_eq_false_iff_eq, Bool.not_eq_true', Bool.not_eq_false', Int.not_lt, Int.not_le] at h9)
                refine k_op0 (d := 58) (b := 262) (j' := 10) rfl rfl rfl rfl (g_ff rfl rfl rfl g9) (T_move rfl rfl) rfl ?_
                refine k_op0 (d := 59) (b := 278) (j' := 11) rfl rfl rfl rfl (g_ff rfl rfl rfl g9) (T_move rfl rfl) rfl ?_
                first | refine k_op0 (d := 60) (b := 294) (j' := 12) rfl rfl rfl rfl (g_ff rfl rfl rfl g9) (T_indexAddr D rfl rfl rfl rfl rfl rfl rfl rfl (by first | assumption | omega | exact okPath_len (hJ.2 0 (by omega)) | (simp; omega))) rfl ?_ | refine k_op0 (d := 60) (b := 294) (j' := 12) rfl rfl rfl rfl (g_ff rfl rfl rfl g9) (T_indexAddrZ D rfl rfl rfl rfl rfl rfl rfl rfl (by first | assumption | omega | exact okPath_len (hJ.2 0 (by omega)) | (simp; omega)) (by first | assumption | omega | exact okPath_len (hJ.2 0 (by omega)) | (simp; omega))) rfl ?_
                refine k_op1 (d := 61) (b := 310) (j' := 13) rfl rfl rfl rfl (g_ff rfl rfl rfl g9) (T_ldE D (lv := .r 310) (nn := 1) (upd := [(310, .fz 1 _)]) rfl rfl rfl rfl rfl (by first | assumption | omega | exact okPath_len (hJ.2 0 (by omega)) | (simp; omega)) rfl rfl rfl rfl) rfl ?_
                refine k_op0 (d := 62) (b := 326) (j' := 14) rfl rfl rfl rfl (g_ff rfl rfl rfl g9) (T_move rfl rfl) rfl ?_
                first | refine k_op0 (d := 63) (b := 342) (j' := 15) rfl rfl rfl rfl (g_ff rfl rfl rfl g9) (T_indexAddr D rfl rfl rfl rfl rfl rfl rfl rfl (by first | assumption | omega | exact okPath_len (hJ.2 0 (by omega)) | (simp; omega))) rfl ?_ | refine k_op0 (d := 63) (b := 342) (j' := 15) rfl rfl rfl rfl (g_ff rfl rfl rfl g9) (T_indexAddrZ D rfl rfl rfl rfl rfl rfl rfl rfl (by first | assumption | omega | exact okPath_len (hJ.2 0 (by omega)) | (simp; omega)) (by first | assumption | omega | exact okPath_len (hJ.2 0 (by omega)) | (simp; omega))) rfl ?_
                refine k_op0 (d := 64) (b := 358) (j' := 16) rfl rfl rfl rfl (g_ff rfl rfl rfl g9) (T_ldE D (lv := .v _) (nn := 0) (upd := []) rfl rfl rfl rfl rfl (by first | assumption | omega | exact okPath_len (hJ.2 0 (by omega)) | (simp; omega)) rfl rfl rfl rfl) rfl ?_
                refine k_op0 (d := 65) (b := 374) (j' := 17) rfl rfl rfl rfl (g_ff rfl rfl rfl g9) (T_fa D (m := 1) rfl rfl rfl rfl rfl rfl) rfl ?_
                refine k_op0 (d := 66) (b := 390) (j' := 18) rfl rfl rfl rfl (g_ff rfl rfl rfl g9) (T_load_b D rfl rfl rfl rfl rfl rfl) rfl ?_
                refine k_op0 (d := 67) (b := 406) (j' := 19) rfl rfl rfl rfl (g_ff rfl rfl rfl g9) (T_len D rfl rfl rfl rfl rfl rfl) rfl ?_
                refine k_op0 (d := 68) (b := 422) (j' := 20) rfl rfl rfl rfl (g_ff rfl rfl rfl g9) (T_cmp rfl rfl rfl rfl) rfl ?_
                refine k_op0 (d := 69) (b := 438) (j' := 21) rfl rfl rfl rfl (.plain rfl) (T_pick_f rfl rfl rfl g9) rfl ?_
                refine k_done rfl ?_
                refine ⟨rfl, ?_⟩
                refine thenK_n ?_
                refine W_cond rfl (fun g11 => ?_) (fun g11 => ?_)
                · have h11 := g11; (try simp only [cmpB, decide_eq_true_eq, decide_eq_false_iff_not, beq_iff_eq, beq_eq_false_iff_ne, bne_iff_ne, ne_eq, bne_eq_false_iff_eq, Bool.not_eq_true', Bool.not_eq_false', Int.not_lt, Int.not_le] at h11)
                  refine W_seq ?_
                  refine W_seqK (b' := 470) rfl rfl ?_
                  refine k_op0 (d := 6) (b := 454) (j' := 1) rfl rfl rfl rfl (.plain rfl) (T_assign rfl rfl) rfl ?_
                  refine k_done rfl ?_
                  refine thenK_n ?_
                  refine W_ret ?_
                  refine blockK_r ?_
                  refine thenK_r ?_
                  refine thenK_r ?_
                  refine blockK_r ?_
                  refine blockK_r ?_
                  refine thenK_r ?_
                  refine thenK_r ?_
                  refine blockK_r ?_
                  refine thenK_r ?_
                  -- end 5
                  exact .mk [] (.inr rfl) (.tmp rfl (.nil)) (by simp only [resLV, LV.ren, LV.v.injEq, Value.bool.injEq]; rw [tcheck, if_neg (by omega), if_pos (all_false_at (i := j) (by omega) (by rw [okPath, any_true_getD (i := i) (by omega) (by simp only [outside, Bool.or_eq_true, decide_eq_true_eq]; omega)]; simp))]) (.nil) rfl
                · have h11 := g11; (try simp only [cmpB, decide_eq_true_eq, decide_eq_false_iff_not, beq_iff_eq, beq_eq_false_iff_ne, bne_iff_ne, ne_eq, bne_eq_false_iff_eq, Bool.not_eq_true', Bool.not_eq_false', Int.not_lt, Int.not_le] at h11)
                  refine W_skip ?_
                  refine blockK_n ?_
                  refine thenK_n ?_
                  refine W_seqK (b' := 502) rfl rfl ?_
                  refine k_op0 (d := 47) (b := 454) (j' := 1) rfl rfl rfl rfl (.plain rfl) (T_move rfl rfl) rfl ?_
                  refine k_op0 (d := 48) (b := 470) (j' := 2) rfl rfl rfl rfl (.plain rfl) (T_add64 rfl rfl rfl (by first | assumption | omega | exact okPath_len (hJ.2 0 (by omega)) | (simp; omega))) rfl ?_
                  refine k_op0 (d := 8) (b := 486) (j' := 3) rfl rfl rfl rfl (.plain rfl) (T_assign rfl rfl) rfl ?_
                  refine k_done rfl ?_
                  refine thenK_n ?_
                  refine ⟨i + 1, by (try dsimp only); exact ⟨by omega, fun m hm => by rcases Nat.lt_or_ge m i with h | h; exact hI.2 m h; rw [show m = i by omega]; unfold outside; rw [decide_eq_false (by omega), decide_eq_false (by omega)]; rfl⟩, by (try dsimp only); omega, ?_⟩
                  exact ⟨[(4, 4), (5, 5)], .same rfl rfl (.same rfl rfl (.same rfl rfl (.eq rfl (.eq rfl (.nil) (by first | rfl | simp)) (by first | rfl | simp)))), .fzE rfl (.fzE rfl (.fzE rfl (.box (by first | rfl | simp) (.box (by first | rfl | simp) (.nil))) (by first | rfl | simp)) (by first | rfl | simp)) (by first | rfl | simp), rfl⟩
            · have h8 := g8; (try simp only [cmpB, decide_eq_true_eq, decide_eq_false_iff_not, beq_iff_eq, beq_eq_false_iff_ne, bne_iff_ne, ne_eq, bne_eq_false_iff_eq, Bool.not_eq_true', Bool.not_eq_false', Int.not_lt, Int.not_le] at h8)
              refine W_exit ?_
              refine thenK_e ?_
              refine thenK_e ?_
              refine blockK_hit ?_
              refine blockK_n ?_
              refine thenK_n ?_
              refine W_seqK (b' := 166) rfl rfl ?_
              refine k_op0 (d := 32) (b := 118) (j' := 1) rfl rfl rfl rfl (.plain rfl) (T_move rfl rfl) rfl ?_
              refine k_op0 (d := 33) (b := 134) (j' := 2) rfl rfl rfl rfl (.plain rfl) (T_add64 rfl rfl rfl (by first | assumption | omega | exact okPath_len (hJ.2 0 (by omega)) | (simp; omega))) rfl ?_
              refine k_op0 (d := 7) (b := 150) (j' := 3) rfl rfl rfl rfl (.plain rfl) (T_assign rfl rfl) rfl ?_
              refine k_done rfl ?_
              refine thenK_n ?_
              refine ⟨j + 1, by (try dsimp only); exact ⟨by omega, fun i1 hi => by rcases Nat.lt_or_ge i1 j with h | h; exact hJ.2 i1 h; rw [show i1 = j by omega]; exact okPath_t (by omega) (any_false_getD (fun m hm => hI.2 m (by omega)))⟩, by (try dsimp only); omega, ?_⟩
              exact ⟨[(4, 4), (5, 5)], .same rfl rfl (.same rfl rfl (.same rfl rfl (.eq rfl (.nil) (by first | rfl | simp)))), .fzE rfl (.fzE rfl (.fzE rfl (.box (by first | rfl | simp) (.box (by first | rfl | simp) (.nil))) (by first | rfl | simp)) (by first | rfl | simp)) (by first | rfl | simp), rfl⟩
        · have h6 := g6; (try simp only [cmpB, decide_eq_true_eq, decide_eq_false_iff_not, beq_iff_eq, beq_eq_false_iff_ne, bne_iff_ne, ne_eq, bne_eq_false_iff_eq, Bool.not_eq_true', Bool.not_eq_false', Int.not_lt, Int.not_le] at h6)
          refine W_exit ?_
          refine thenK_e ?_
          refine thenK_e ?_
          refine blockK_hit ?_
          refine thenK_n ?_
          refine W_seq ?_
          refine W_seq ?_
          refine W_seqK (b' := 166) rfl rfl ?_
          refine k_op0 (d := 70) (b := 70) (j' := 1) rfl rfl rfl rfl (.plain rfl) (T_move rfl rfl) rfl ?_
          first | refine k_op0 (d := 71) (b := 86) (j' := 2) rfl rfl rfl rfl (.plain rfl) (T_indexAddr D rfl rfl rfl rfl rfl rfl rfl rfl (by first | assumption | omega | exact okPath_len (hJ.2 0 (by omega)) | (simp; omega))) rfl ?_ | refine k_op0 (d := 71) (b := 86) (j' := 2) rfl rfl rfl rfl (.plain rfl) (T_indexAddrZ D rfl rfl rfl rfl rfl rfl rfl rfl (by first | assumption | omega | exact okPath_len (hJ.2 0 (by omega)) | (simp; omega)) (by first | assumption | omega | exact okPath_len (hJ.2 0 (by omega)) | (simp; omega))) rfl ?_
          refine k_op1 (d := 72) (b := 102) (j' := 3) rfl rfl rfl rfl (.plain rfl) (T_ldE D (lv := .r 102) (nn := 1) (upd := [(102, .fz 1 _)]) rfl rfl rfl rfl rfl (by first | assumption | omega | exact okPath_len (hJ.2 0 (by omega)) | (simp; omega)) rfl rfl rfl rfl) rfl ?_
          first | refine k_op0 (d := 73) (b := 118) (j' := 4) rfl rfl rfl rfl (.plain rfl) (T_indexAddr D rfl rfl rfl rfl rfl rfl rfl rfl (by first | assumption | omega | exact okPath_len (hJ.2 0 (by omega)) | (simp; omega))) rfl ?_ | refine k_op0 (d := 73) (b := 118) (j' := 4) rfl rfl rfl rfl (.plain rfl) (T_indexAddrZ D rfl rfl rfl rfl rfl rfl rfl rfl (by first | assumption | omega | exact okPath_len (hJ.2 0 (by omega)) | (simp; omega)) (by first | assumption | omega | exact okPath_len (hJ.2 0 (by omega)) | (simp; omega))) rfl ?_
          refine k_op0 (d := 74) (b := 134) (j' := 5) rfl rfl rfl rfl (.plain rfl) (T_ldE D (lv := .v _) (nn := 0) (upd := []) rfl rfl rfl rfl rfl (by first | assumption | omega | exact okPath_len (hJ.2 0 (by omega)) | (simp; omega)) rfl rfl rfl rfl) rfl ?_
          refine k_op0 (d := 75) (b := 150) (j' := 6) rfl rfl rfl rfl (.plain rfl) (T_cmp rfl rfl rfl rfl) rfl ?_
          refine k_done rfl ?_
          refine thenK_n ?_
          refine W_cond rfl (fun g12 => ?_) (fun g12 => ?_)
          · have h12 := g12; (try simp only [cmpB, decide_eq_true_eq, decide_eq_false_iff_not, beq_iff_eq, beq_eq_false_iff_ne, bne_iff_ne, ne_eq, bne_eq_false_iff_eq, Bool.not_eq_true', Bool.not_eq_false', Int.not_lt, Int.not_le] at h12)
            refine W_seq ?_
            refine W_seqK (b' := 182) rfl rfl ?_
            refine k_op0 (d := 6) (b := 166) (j' := 1) rfl rfl rfl rfl (.plain rfl) (T_assign rfl rfl) rfl ?_
            refine k_done rfl ?_
            refine thenK_n ?_
            refine W_ret ?_
            refine thenK_r ?_
            -- end 6
            exact .mk [] (.inr rfl) (.tmp rfl (.nil)) (by simp only [resLV, LV.ren, LV.v.injEq, Value.bool.injEq]; rw [tcheck, if_neg (by omega), if_neg (by simp only [Bool.not_eq_false]; exact all_iff_getD.2 (fun i hi => hJ.2 i (by omega))), if_pos (by assumption)]) (.nil) rfl
          · have h12 := g12; (try simp only [cmpB, decide_eq_true_eq, decide_eq_false_iff_not, beq_iff_eq, beq_eq_false_iff_ne, bne_iff_ne, ne_eq, bne_eq_false_iff_eq, Bool.not_eq_true', Bool.not_eq_false', Int.not_lt, Int.not_le] at h12)
            refine W_skip ?_
            refine thenK_n ?_
            refine W_seq ?_
            refine W_seq ?_
            refine W_seqK (b' := 182) rfl rfl ?_
            refine k_op0 (d := 9) (b := 166) (j' := 1) rfl rfl rfl rfl (.plain rfl) (T_assign rfl rfl) rfl ?_
            refine k_done rfl ?_
            refine thenK_n ?_
            refine W_block ?_
            have ok1 : ∀ i, i < ps.length → okPath f (ps.getD i default) = true := fun i hi => hJ.2 i (by omega)
            have hall : ps.all (okPath f) = true := all_iff_getD.2 ok1
            have hps : ∀ q ∈ ps, 0 < q.length := fun q hq => okPath_len (List.all_eq_true.1 hall q hq)
            clear hJ
            refine W_loop (ι := Nat) 6 (fun j => ⟨[(2, .r 3), (3, .p 4 0), (4, .p 5 0), (9, .v (.int .i64 (j : Int)))], [(1, .fz 5 (f.blocks.map eBlock)), (2, .fz 5 (g.blocks.map eBlock)), (3, .fz 1 (ps.map eIs)), (4, .box 29 [.v (.int .i64 f.regs), .r 1]), (5, .box 29 [.v (.int .i64 g.regs), .r 2])]⟩) (fun j => j ≤ ps.length ∧ ∀ i, i < j → made f (g.blocks.getD i default) (ps.getD i default) ps = true) (fun j => ps.length - j) (0) (by exact ⟨Nat.zero_le _, fun i h => absurd h (Nat.not_lt_zero _)⟩) ?_ (fun j hJ => ?_)
            · exact ⟨[(4, 4), (5, 5)], .same rfl rfl (.same rfl rfl (.same rfl rfl (.eq rfl (.nil) (by first | rfl | simp)))), .fzE rfl (.fzE rfl (.fzE rfl (.box (by first | rfl | simp) (.box (by first | rfl | simp) (.nil))) (by first | rfl | simp)) (by first | rfl | simp)) (by first | rfl | simp), rfl⟩
            refine W_seq ?_
            refine W_seq ?_
            refine W_seqK (b' := 70) rfl rfl ?_
            refine k_op0 (d := 76) (b := 6) (j' := 1) rfl rfl rfl rfl (.plain rfl) (T_move rfl rfl) rfl ?_
            refine k_op0 (d := 77) (b := 22) (j' := 2) rfl rfl rfl rfl (.plain rfl) (T_move rfl rfl) rfl ?_
            refine k_op0 (d := 78) (b := 38) (j' := 3) rfl rfl rfl rfl (.plain rfl) (T_len D rfl rfl rfl rfl rfl rfl) rfl ?_
            refine k_op0 (d := 79) (b := 54) (j' := 4) rfl rfl rfl rfl (.plain rfl) (T_cmp rfl rfl rfl rfl) rfl ?_
            refine k_done rfl ?_
            refine thenK_n ?_
            refine W_cond rfl (fun g13 => ?_) (fun g13 => ?_)
            · have h13 := g13; (try simp only [cmpB, decide_eq_true_eq, decide_eq_false_iff_not, beq_iff_eq, beq_eq_false_iff_ne, bne_iff_ne, ne_eq, bne_eq_false_iff_eq, Bool.not_eq_true', Bool.not_eq_false', Int.not_lt, Int.not_le] at h13)
              refine W_skip ?_
              refine thenK_n ?_
              refine W_seq ?_
              refine W_block ?_
              refine W_seq ?_
              refine W_anyK (b' := 278) rfl rfl rfl ?_
              refine k_op0 (d := 82) (b := 70) (j' := 1) rfl rfl rfl rfl (.plain rfl) (T_load_bA D (l := [_, _]) rfl rfl rfl rfl rfl rfl rfl) rfl ?_
              refine k_op0 (d := 83) (b := 86) (j' := 2) rfl rfl rfl rfl (.plain rfl) (T_fa D (m := 1) rfl rfl rfl rfl rfl rfl) rfl ?_
              refine k_op0 (d := 84) (b := 102) (j' := 3) rfl rfl rfl rfl (.plain rfl) (T_load_b D rfl rfl rfl rfl rfl rfl) rfl ?_
              refine k_op0 (d := 85) (b := 118) (j' := 4) rfl rfl rfl rfl (.plain rfl) (T_move rfl rfl) rfl ?_
              first | refine k_op0 (d := 86) (b := 134) (j' := 5) rfl rfl rfl rfl (.plain rfl) (T_indexAddr D rfl rfl rfl rfl rfl rfl rfl rfl (by first | assumption | omega | exact okPath_len (hJ.2 0 (by omega)) | (simp; omega))) rfl ?_ | refine k_op0 (d := 86) (b := 134) (j' := 5) rfl rfl rfl rfl (.plain rfl) (T_indexAddrZ D rfl rfl rfl rfl rfl rfl rfl rfl (by first | assumption | omega | exact okPath_len (hJ.2 0 (by omega)) | (simp; omega)) (by first | assumption | omega | exact okPath_len (hJ.2 0 (by omega)) | (simp; omega))) rfl ?_
              refine k_op1 (d := 87) (b := 150) (j' := 6) rfl rfl rfl rfl (.plain rfl) (T_ldEA D (l := [.r 150, .v _, .v _, .v _, .v _]) (nn := 1) (upd := [(150, .fz 8 _)]) rfl rfl rfl rfl rfl (by first | assumption | omega | exact okPath_len (hJ.2 0 (by omega)) | (simp; omega)) rfl rfl rfl rfl rfl) rfl ?_
              refine k_op0 (d := 88) (b := 166) (j' := 7) rfl rfl rfl rfl (.plain rfl) (T_move rfl rfl) rfl ?_
              refine k_op0 (d := 89) (b := 182) (j' := 8) rfl rfl rfl rfl (.plain rfl) (T_move rfl rfl) rfl ?_
              refine k_op0 (d := 90) (b := 198) (j' := 9) rfl rfl rfl rfl (.plain rfl) (T_move rfl rfl) rfl ?_
              first | refine k_op0 (d := 91) (b := 214) (j' := 10) rfl rfl rfl rfl (.plain rfl) (T_indexAddr D rfl rfl rfl rfl rfl rfl rfl rfl (by first | assumption | omega | exact okPath_len (hJ.2 0 (by omega)) | (simp; omega))) rfl ?_ | refine k_op0 (d := 91) (b := 214) (j' := 10) rfl rfl rfl rfl (.plain rfl) (T_indexAddrZ D rfl rfl rfl rfl rfl rfl rfl rfl (by first | assumption | omega | exact okPath_len (hJ.2 0 (by omega)) | (simp; omega)) (by first | assumption | omega | exact okPath_len (hJ.2 0 (by omega)) | (simp; omega))) rfl ?_
              refine k_op1 (d := 92) (b := 230) (j' := 11) rfl rfl rfl rfl (.plain rfl) (T_ldE D (lv := .r 230) (nn := 1) (upd := [(230, .fz 1 _)]) rfl rfl rfl rfl rfl (by first | assumption | omega | exact okPath_len (hJ.2 0 (by omega)) | (simp; omega)) rfl rfl rfl rfl) rfl ?_
              refine k_op0 (d := 93) (b := 246) (j' := 12) rfl rfl rfl rfl (.plain rfl) (T_callV (lvs := [_, _, _, _]) (L := [(1, 1), (2, 150), (3, 230), (4, 3)]) (one_spec _ _ _ _ (hgi _ (getD_mem (by omega))) (okPath_len (ok1 _ (by omega))) ⟨hpl _ (getD_mem (by omega)), okPath_in (ok1 _ (by omega))⟩ (hI _ (getD_mem (by omega))) hps) body76 rfl rfl rfl rfl (.fz rfl (.fz rfl (.fz rfl (.fz rfl (.nil))))) rfl) rfl ?_
              refine k_op0 (d := 94) (b := 262) (j' := 13) rfl rfl rfl rfl (.plain rfl) (T_not rfl rfl) rfl ?_
              refine k_done rfl ?_
              refine ⟨rfl, ?_⟩
              refine thenK_n ?_
              refine W_cond rfl (fun g14 => ?_) (fun g14 => ?_)
              · have h14 := g14; (try simp only [cmpB, decide_eq_true_eq, decide_eq_false_iff_not, beq_iff_eq, beq_eq_false_iff_ne, bne_iff_ne, ne_eq, bne_eq_false_iff_eq, Bool.not_eq_true', Bool.not_eq_false', Int.not_lt, Int.not_le] at h14)
                refine W_seq ?_
                refine W_seqK (b' := 294) rfl rfl ?_
                refine k_op0 (d := 6) (b := 278) (j' := 1) rfl rfl rfl rfl (.plain rfl) (T_assign rfl rfl) rfl ?_
                refine k_done rfl ?_
                refine thenK_n ?_
                refine W_ret ?_
                refine blockK_r ?_
                refine thenK_r ?_
                refine thenK_r ?_
                refine blockK_r ?_
                refine thenK_r ?_
                -- end 7
                exact .mk [] (.inr rfl) (.tmp rfl (.nil)) (by simp only [resLV, LV.ren, LV.v.injEq, Value.bool.injEq]; rw [tcheck, if_neg (by omega), if_neg (by simp only [Bool.not_eq_false]; exact hall), if_neg (by omega)]; exact (range_all_false (i := j) (by omega) (by simpa using h14)).symm) (.nil) rfl
              · have h14 := g14; (try simp only [cmpB, decide_eq_true_eq, decide_eq_false_iff_not, beq_iff_eq, beq_eq_false_iff_ne, bne_iff_ne, ne_eq, bne_eq_false_iff_eq, Bool.not_eq_true', Bool.not_eq_false', Int.not_lt, Int.not_le] at h14)
                refine W_skip ?_
                refine blockK_n ?_
                refine thenK_n ?_
                refine W_seqK (b' := 326) rfl rfl ?_
                refine k_op0 (d := 80) (b := 278) (j' := 1) rfl rfl rfl rfl (.plain rfl) (T_move rfl rfl) rfl ?_
                refine k_op0 (d := 81) (b := 294) (j' := 2) rfl rfl rfl rfl (.plain rfl) (T_add64 rfl rfl rfl (by first | assumption | omega | exact okPath_len (hJ.2 0 (by omega)) | (simp; omega))) rfl ?_
                refine k_op0 (d := 9) (b := 310) (j' := 3) rfl rfl rfl rfl (.plain rfl) (T_assign rfl rfl) rfl ?_
                refine k_done rfl ?_
                refine thenK_n ?_
                refine ⟨j + 1, by (try dsimp only); exact ⟨by omega, fun i hi => by rcases Nat.lt_or_ge i j with h | h; exact hJ.2 i h; rw [show i = j by omega]; simpa using h14⟩, by (try dsimp only); omega, ?_⟩
                exact ⟨[(4, 4), (5, 5)], .same rfl rfl (.same rfl rfl (.same rfl rfl (.eq rfl (.nil) (by first | rfl | simp)))), .fzE rfl (.fzE rfl (.fzE rfl (.box (by first | rfl | simp) (.box (by first | rfl | simp) (.nil))) (by first | rfl | simp)) (by first | rfl | simp)) (by first | rfl | simp), rfl⟩
            · have h13 := g13; (try simp only [cmpB, decide_eq_true_eq, decide_eq_false_iff_not, beq_iff_eq, beq_eq_false_iff_ne, bne_iff_ne, ne_eq, bne_eq_false_iff_eq, Bool.not_eq_true', Bool.not_eq_false', Int.not_lt, Int.not_le] at h13)
              refine W_exit ?_
              refine thenK_e ?_
              refine thenK_e ?_
              refine blockK_hit ?_
              refine thenK_n ?_
              refine W_seq ?_
              refine W_seqK (b' := 86) rfl rfl ?_
              refine k_op0 (d := 6) (b := 70) (j' := 1) rfl rfl rfl rfl (.plain rfl) (T_assign rfl rfl) rfl ?_
              refine k_done rfl ?_
              refine thenK_n ?_
              refine W_ret ?_
              -- end 8
              exact .mk [] (.inr rfl) (.tmp rfl (.nil)) (by simp only [resLV, LV.ren, LV.v.injEq, Value.bool.injEq]; rw [tcheck, if_neg (by omega), if_neg (by simp only [Bool.not_eq_false]; exact hall), if_neg (by omega)]; exact (range_all_true (fun i hi => hJ.2 i (by omega))).symm) (.nil) rfl
end Lg
end Go.Proofs.Ytpfhmodjjljpjaa
