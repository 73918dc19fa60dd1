import Derived.Test.YtpfhmodjjljpjaaTidyTwice2
set_option linter.unusedVariables false
set_option linter.unusedSimpArgs false
namespace Go.Proofs.Ytpfhmodjjljpjaa
open Go.RowKit
namespace Lg
set_option maxRecDepth 100000
set_option linter.unusedVariables false
set_option linter.unusedSimpArgs false



theorem body30 : (Try.prog.funcs[30]?).map (fun fn => (fn.name == "runtime.NumGoroutine" || fn.body.isNone)) = some false := by kernel_rfl
theorem tcheck_spec (f g : GFn) (ps : List (List Int)) (hl : ps.length ≤ 1000000000) (hpl : ∀ p ∈ ps, p.length ≤ 1000000000) (hgi : ∀ b ∈ g.blocks, b.ins.length ≤ 1000000) (hI : ∀ p ∈ ps, ∀ j, (instrs f (p.take j)).length ≤ 1000000000) : Spec Try.prog 30 [.agg [.v (.int .i64 f.regs), .r 1], .agg [.v (.int .i64 g.regs), .r 2], .r 3] 4 [(1, .fz 5 (f.blocks.map eBlock)), (2, .fz 5 (g.blocks.map eBlock)), (3, .fz 1 (ps.map eIs))] (.v (.bool (tcheck f g ps))) 4 [] := by
  refine spec_of D (fn := Try.f30) rfl rfl (Nat.le_of_ble_eq_true rfl) ?_
  refine W_seq ?_
  refine W_seqK (b' := 52) rfl rfl ?_
  refine k_op1 (d := 3) (b := 4) (j' := 1) rfl rfl rfl rfl (.plain rfl) (T_box rfl rfl flat_agg) rfl ?_
  refine k_op1 (d := 4) (b := 20) (j' := 2) rfl rfl rfl rfl (.plain rfl) (T_box rfl rfl flat_agg) rfl ?_
  refine k_op0 (d := 6) (b := 36) (j' := 3) rfl rfl rfl rfl (.plain rfl) (T_assign rfl rfl) rfl ?_
  refine k_done rfl ?_
  refine thenK_n ?_
  refine W_seq ?_
  refine W_seq ?_
  refine W_seqK (b' := 340) rfl rfl ?_
  refine k_op0 (d := 11) (b := 52) (j' := 1) rfl rfl rfl rfl (.plain rfl) (T_move rfl rfl) rfl ?_
  refine k_op0 (d := 12) (b := 68) (j' := 2) rfl rfl rfl rfl (.plain rfl) (T_len D rfl rfl rfl rfl rfl rfl) rfl ?_
  refine k_op0 (d := 13) (b := 84) (j' := 3) rfl rfl rfl rfl (.plain rfl) (T_fa D (m := 1) rfl rfl rfl rfl rfl rfl) rfl ?_
  refine k_op0 (d := 14) (b := 100) (j' := 4) rfl rfl rfl rfl (.plain rfl) (T_load_b D rfl rfl rfl rfl rfl rfl) rfl ?_
  refine k_op0 (d := 15) (b := 116) (j' := 5) rfl rfl rfl rfl (.plain rfl) (T_len D rfl rfl rfl rfl rfl rfl) rfl ?_
  refine k_op0 (d := 16) (b := 132) (j' := 6) rfl rfl rfl rfl (.plain rfl) (T_cmp rfl rfl rfl rfl) rfl ?_
  refine k_op0 (d := 17) (b := 148) (j' := 7) rfl rfl rfl rfl (.plain rfl) (T_move rfl rfl) rfl ?_
  refine k_split (d := 17) rfl (fun g1 => ?_) (fun g1 => ?_)
  · have h1 := g1; (try simp only [cmpB, decide_eq_true_eq, decide_eq_false_iff_not, beq_iff_eq, beq_eq_false_iff_ne, bne_iff_ne, ne_eq, bne_eq_false_iff_eq, Bool.not_eq_true', Bool.not_eq_false', Int.not_lt, Int.not_le] at h1)
    refine k_no (d := 18) (j' := 8) rfl rfl rfl (g_ft rfl rfl rfl g1) ?_
    refine k_no (d := 19) (j' := 9) rfl rfl rfl (g_ft rfl rfl rfl g1) ?_
    refine k_no (d := 20) (j' := 10) rfl rfl rfl (g_ft rfl rfl rfl g1) ?_
    refine k_op0 (d := 21) (b := 212) (j' := 11) rfl rfl rfl rfl (.plain rfl) (T_pick_t rfl rfl rfl g1) rfl ?_
    refine k_op0 (d := 22) (b := 228) (j' := 12) rfl rfl rfl rfl (.plain rfl) (T_move rfl rfl) rfl ?_
    refine k_no (d := 23) (j' := 13) rfl rfl rfl (g_ft rfl rfl rfl rfl) ?_
    refine k_no (d := 24) (j' := 14) rfl rfl rfl (g_ft rfl rfl rfl rfl) ?_
    refine k_no (d := 25) (j' := 15) rfl rfl rfl (g_ft rfl rfl rfl rfl) ?_
    refine k_no (d := 26) (j' := 16) rfl rfl rfl (g_ft rfl rfl rfl rfl) ?_
    refine k_no (d := 27) (j' := 17) rfl rfl rfl (g_ft rfl rfl rfl rfl) ?_
    refine k_op0 (d := 28) (b := 324) (j' := 18) rfl rfl rfl rfl (.plain rfl) (T_pick_t rfl rfl rfl rfl) rfl ?_
    refine k_done rfl ?_
    refine thenK_n ?_
    refine W_cond rfl (fun g2 => ?_) (fun g2 => ?_)
    · skip
      refine W_seq ?_
      refine W_seqK (b' := 356) rfl rfl ?_
      refine k_op0 (d := 6) (b := 340) (j' := 1) rfl rfl rfl rfl (.plain rfl) (T_assign rfl rfl) rfl ?_
      refine k_done rfl ?_
      refine thenK_n ?_
      refine W_ret ?_
      refine thenK_r ?_
      -- end 0
      exact .mk [] (.inr rfl) (.tmp rfl (.nil)) (by simp only [resLV, LV.ren, LV.v.injEq, Value.bool.injEq]; rw [tcheck, if_pos (by omega)]) (.nil) rfl
    · exact absurd (g2.symm.trans rfl) (by decide)
  · have h1 := g1; (try simp only [cmpB, decide_eq_true_eq, decide_eq_false_iff_not, beq_iff_eq, beq_eq_false_iff_ne, bne_iff_ne, ne_eq, bne_eq_false_iff_eq, Bool.not_eq_true', Bool.not_eq_false', Int.not_lt, Int.not_le] at h1)
    refine k_op0 (d := 18) (b := 164) (j' := 8) rfl rfl rfl rfl (g_ff rfl rfl rfl g1) (T_move rfl rfl) rfl ?_
    refine k_op0 (d := 19) (b := 180) (j' := 9) rfl rfl rfl rfl (g_ff rfl rfl rfl g1) (T_len D rfl rfl rfl rfl rfl rfl) rfl ?_
    refine k_op0 (d := 20) (b := 196) (j' := 10) rfl rfl rfl rfl (g_ff rfl rfl rfl g1) (T_cmp rfl rfl rfl rfl) rfl ?_
    refine k_op0 (d := 21) (b := 212) (j' := 11) rfl rfl rfl rfl (.plain rfl) (T_pick_f rfl rfl rfl g1) rfl ?_
    refine k_op0 (d := 22) (b := 228) (j' := 12) rfl rfl rfl rfl (.plain rfl) (T_move rfl rfl) rfl ?_
    refine k_split (d := 22) rfl (fun g3 => ?_) (fun g3 => ?_)
    · have h3 := g3; (try simp only [cmpB, decide_eq_true_eq, decide_eq_false_iff_not, beq_iff_eq, beq_eq_false_iff_ne, bne_iff_ne, ne_eq, bne_eq_false_iff_eq, Bool.not_eq_true', Bool.not_eq_false', Int.not_lt, Int.not_le] at h3)
      refine k_no (d := 23) (j' := 13) rfl rfl rfl (g_ft rfl rfl rfl g3) ?_
      refine k_no (d := 24) (j' := 14) rfl rfl rfl (g_ft rfl rfl rfl g3) ?_
      refine k_no (d := 25) (j' := 15) rfl rfl rfl (g_ft rfl rfl rfl g3) ?_
      refine k_no (d := 26) (j' := 16) rfl rfl rfl (g_ft rfl rfl rfl g3) ?_
      refine k_no (d := 27) (j' := 17) rfl rfl rfl (g_ft rfl rfl rfl g3) ?_
      refine k_op0 (d := 28) (b := 324) (j' := 18) rfl rfl rfl rfl (.plain rfl) (T_pick_t rfl rfl rfl g3) rfl ?_
      refine k_done rfl ?_
      refine thenK_n ?_
      refine W_cond rfl (fun g4 => ?_) (fun g4 => ?_)
      · skip
        refine W_seq ?_
        refine W_seqK (b' := 356) rfl rfl ?_
        refine k_op0 (d := 6) (b := 340) (j' := 1) rfl rfl rfl rfl (.plain rfl) (T_assign rfl rfl) rfl ?_
        refine k_done rfl ?_
        refine thenK_n ?_
        refine W_ret ?_
        refine thenK_r ?_
        -- end 1
        exact .mk [] (.inr rfl) (.tmp rfl (.nil)) (by simp only [resLV, LV.ren, LV.v.injEq, Value.bool.injEq]; rw [tcheck, if_pos (by omega)]) (.nil) rfl
      · exact absurd (g4.symm.trans rfl) (by decide)
    · have h3 := g3; (try simp only [cmpB, decide_eq_true_eq, decide_eq_false_iff_not, beq_iff_eq, beq_eq_false_iff_ne, bne_iff_ne, ne_eq, bne_eq_false_iff_eq, Bool.not_eq_true', Bool.not_eq_false', Int.not_lt, Int.not_le] at h3)
      refine k_op0 (d := 23) (b := 244) (j' := 13) rfl rfl rfl rfl (g_ff rfl rfl rfl g3) (T_fa D (m := 0) rfl rfl rfl rfl rfl rfl) rfl ?_
      refine k_op0 (d := 24) (b := 260) (j' := 14) rfl rfl rfl rfl (g_ff rfl rfl rfl g3) (T_load_b D rfl rfl rfl rfl rfl rfl) rfl ?_
      refine k_op0 (d := 25) (b := 276) (j' := 15) rfl rfl rfl rfl (g_ff rfl rfl rfl g3) (T_fa D (m := 0) rfl rfl rfl rfl rfl rfl) rfl ?_
      refine k_op0 (d := 26) (b := 292) (j' := 16) rfl rfl rfl rfl (g_ff rfl rfl rfl g3) (T_load_b D rfl rfl rfl rfl rfl rfl) rfl ?_
      refine k_op0 (d := 27) (b := 308) (j' := 17) rfl rfl rfl rfl (g_ff rfl rfl rfl g3) (T_cmp rfl rfl rfl rfl) rfl ?_
      refine k_op0 (d := 28) (b := 324) (j' := 18) rfl rfl rfl rfl (.plain rfl) (T_pick_f rfl rfl rfl g3) rfl ?_
      refine k_done rfl ?_
      refine thenK_n ?_
      refine W_cond rfl (fun g5 => ?_) (fun g5 => ?_)
      · have h5 := g5; (try simp only [cmpB, decide_eq_true_eq, decide_eq_false_iff_not, beq_iff_eq, beq_eq_false_iff_ne, bne_iff_ne, ne_eq, bne_eq_false_iff_eq, Bool.not_eq_true', Bool.not_eq_false', Int.not_lt, Int.not_le] at h5)
        refine W_seq ?_
        refine W_seqK (b' := 356) rfl rfl ?_
        refine k_op0 (d := 6) (b := 340) (j' := 1) rfl rfl rfl rfl (.plain rfl) (T_assign rfl rfl) rfl ?_
        refine k_done rfl ?_
        refine thenK_n ?_
        refine W_ret ?_
        refine thenK_r ?_
        -- end 2
        exact .mk [] (.inr rfl) (.tmp rfl (.nil)) (by simp only [resLV, LV.ren, LV.v.injEq, Value.bool.injEq]; rw [tcheck, if_pos (by omega)]) (.nil) rfl
      · have h5 := g5; (try simp only [cmpB, decide_eq_true_eq, decide_eq_false_iff_not, beq_iff_eq, beq_eq_false_iff_ne, bne_iff_ne, ne_eq, bne_eq_false_iff_eq, Bool.not_eq_true', Bool.not_eq_false', Int.not_lt, Int.not_le] at h5)
        refine W_skip ?_
        refine thenK_n ?_
        refine W_seq ?_
        refine W_seq ?_
        refine W_seqK (b' := 388) rfl rfl ?_
        refine k_op0 (d := 29) (b := 340) (j' := 1) rfl rfl rfl rfl (.plain rfl) (T_move rfl rfl) rfl ?_
        refine k_op0 (d := 30) (b := 356) (j' := 2) rfl rfl rfl rfl (.plain rfl) (T_len D rfl rfl rfl rfl rfl rfl) rfl ?_
        refine k_op0 (d := 31) (b := 372) (j' := 3) rfl rfl rfl rfl (.plain rfl) (T_move rfl rfl) rfl ?_
        refine k_done rfl ?_
        refine thenK_n ?_
        refine W_block ?_
        refine W_loop (ι := Nat) 6 (fun j => ⟨[(2, .r 3), (3, .p 4 0), (4, .p 5 0), (29, .r 3), (30, .v (.int .i64 (ps.length : Int))), (31, .v (.int .i64 (j : Int)))], [(1, .fz 5 (f.blocks.map eBlock)), (2, .fz 5 (g.blocks.map eBlock)), (3, .fz 1 (ps.map eIs)), (4, .box 29 [.v (.int .i64 f.regs), .r 1]), (5, .box 29 [.v (.int .i64 g.regs), .r 2])]⟩) (fun j => j ≤ ps.length ∧ ∀ i, i < j → okPath f (ps.getD i default) = true) (fun j => ps.length - j) (0) (by exact ⟨Nat.zero_le _, fun i h => absurd h (Nat.not_lt_zero _)⟩) ?_ (fun j hJ => ?_)
        · exact ⟨[(4, 4), (5, 20)], .same rfl rfl (.same rfl rfl (.same rfl rfl (.same rfl rfl (.eq rfl (.eq rfl (.nil) (by first | rfl | simp)) (by first | rfl | simp))))), .fzE rfl (.fzE rfl (.fzE rfl (.box (by first | rfl | simp) (.box (by first | rfl | simp) (.nil))) (by first | rfl | simp)) (by first | rfl | simp)) (by first | rfl | simp), rfl⟩
        refine W_seq ?_
        refine W_seqK (b' := 22) rfl rfl ?_
        refine k_op0 (d := 32) (b := 6) (j' := 1) rfl rfl rfl rfl (.plain rfl) (T_cmp rfl rfl rfl rfl) rfl ?_
        refine k_done rfl ?_
        refine thenK_n ?_
        refine W_seq ?_
        refine W_cond rfl (fun g6 => ?_) (fun g6 => ?_)
        · have h6 := g6; (try simp only [cmpB, decide_eq_true_eq, decide_eq_false_iff_not, beq_iff_eq, beq_eq_false_iff_ne, bne_iff_ne, ne_eq, bne_eq_false_iff_eq, Bool.not_eq_true', Bool.not_eq_false', Int.not_lt, Int.not_le] at h6)
          refine W_skip ?_
          refine thenK_n ?_
          refine W_seq ?_
          refine W_block ?_
          refine W_seq ?_
          refine W_seqK (b' := 70) rfl rfl ?_
          first | refine k_op0 (d := 33) (b := 22) (j' := 1) rfl rfl rfl rfl (.plain rfl) (T_indexAddr D rfl rfl rfl rfl rfl rfl rfl rfl (by first | assumption | omega | exact okPath_len (hJ.2 0 (by omega)) | (simp; omega))) rfl ?_ | refine k_op0 (d := 33) (b := 22) (j' := 1) rfl rfl rfl rfl (.plain rfl) (T_indexAddrZ D rfl rfl rfl rfl rfl rfl rfl rfl (by first | assumption | omega | exact okPath_len (hJ.2 0 (by omega)) | (simp; omega)) (by first | assumption | omega | exact okPath_len (hJ.2 0 (by omega)) | (simp; omega))) rfl ?_
          refine k_op1 (d := 34) (b := 38) (j' := 2) rfl rfl rfl rfl (.plain rfl) (T_ldE D (lv := .r 38) (nn := 1) (upd := [(38, .fz 1 _)]) rfl rfl rfl rfl rfl (by first | assumption | omega | exact okPath_len (hJ.2 0 (by omega)) | (simp; omega)) rfl rfl rfl rfl) rfl ?_
          refine k_op0 (d := 8) (b := 54) (j' := 3) rfl rfl rfl rfl (.plain rfl) (T_assign rfl rfl) rfl ?_
          refine k_done rfl ?_
          refine thenK_n ?_
          refine W_seq ?_
          refine W_seqK (b' := 198) rfl rfl ?_
          refine k_op0 (d := 35) (b := 70) (j' := 1) rfl rfl rfl rfl (.plain rfl) (T_move rfl rfl) rfl ?_
          refine k_op0 (d := 36) (b := 86) (j' := 2) rfl rfl rfl rfl (.plain rfl) (T_len D rfl rfl rfl rfl rfl rfl) rfl ?_
          refine k_op0 (d := 37) (b := 102) (j' := 3) rfl rfl rfl rfl (.plain rfl) (T_cmp rfl rfl rfl rfl) rfl ?_
          refine k_op0 (d := 38) (b := 118) (j' := 4) rfl rfl rfl rfl (.plain rfl) (T_move rfl rfl) rfl ?_
          refine k_split (d := 38) rfl (fun g7 => ?_) (fun g7 => ?_)
          · have h7 := g7; (try simp only [cmpB, decide_eq_true_eq, decide_eq_false_iff_not, beq_iff_eq, beq_eq_false_iff_ne, bne_iff_ne, ne_eq, bne_eq_false_iff_eq, Bool.not_eq_true', Bool.not_eq_false', Int.not_lt, Int.not_le] at h7)
            refine k_no (d := 39) (j' := 5) rfl rfl rfl (g_ft rfl rfl rfl g7) ?_
            refine k_no (d := 40) (j' := 6) rfl rfl rfl (g_ft rfl rfl rfl g7) ?_
            refine k_no (d := 41) (j' := 7) rfl rfl rfl (g_ft rfl rfl rfl g7) ?_
            refine k_op0 (d := 42) (b := 182) (j' := 8) rfl rfl rfl rfl (.plain rfl) (T_pick_t rfl rfl rfl g7) rfl ?_
            refine k_done rfl ?_
            refine thenK_n ?_
            refine W_cond rfl (fun g8 => ?_) (fun g8 => ?_)
            · skip
              refine W_seq ?_
              refine W_seqK (b' := 214) rfl rfl ?_
              refine k_op0 (d := 6) (b := 198) (j' := 1) rfl rfl rfl rfl (.plain rfl) (T_assign rfl rfl) rfl ?_
              refine k_done rfl ?_
              refine thenK_n ?_
              refine W_ret ?_
              refine blockK_r ?_
              refine thenK_r ?_
              refine thenK_r ?_
              refine blockK_r ?_
              refine thenK_r ?_
              -- end 3
              exact .mk [] (.inr rfl) (.tmp rfl (.nil)) (by simp only [resLV, LV.ren, LV.v.injEq, Value.bool.injEq]; rw [tcheck, if_neg (by omega), if_pos (all_false_at (i := j) (by omega) (by simp only [okPath, decide_eq_true (p := (ps.getD j default).length = 0) (by omega)]; rfl))]) (.nil) rfl
            · exact absurd (g8.symm.trans rfl) (by decide)
          · have h7 := g7; (try simp only [cmpB, decide_eq_true_eq, decide_eq_false_iff_not, beq_iff_eq, beq_eq_false_iff_ne, bne_iff_ne, ne_eq, bne_eq_false_iff_eq, Bool.not_eq_true', Bool.not_eq_false', Int.not_lt, Int.not_le] at h7)
            refine k_op0 (d := 39) (b := 134) (j' := 5) rfl rfl rfl rfl (g_ff rfl rfl rfl g7) (T_move rfl rfl) rfl ?_
            refine k_op0 (d := 40) (b := 150) (j' := 6) rfl rfl rfl rfl (g_ff rfl rfl rfl g7) (T_makeFunc (l := [_]) rfl rfl) rfl ?_
            refine k_op1 (d := 41) (b := 166) (j' := 7) rfl rfl rfl rfl (g_ff rfl rfl rfl g7) (T_call (lvs := [_, _]) (L := [(1, 38), (2, 4), (3, 1)]) (lv := .v _) (upd := [(4, .box 29 [.v _, .r 1])]) (nn := 0) false (contains_spec _ _ (hpl _ (getD_mem (by omega)))) body73 rfl rfl rfl rfl (.fz rfl (.box rfl (.fz rfl (.nil)))) rfl (.inl rfl) rfl rfl rfl) rfl ?_
            refine k_op0 (d := 42) (b := 182) (j' := 8) rfl rfl rfl rfl (.plain rfl) (T_pick_f rfl rfl rfl g7) rfl ?_
            refine k_done rfl ?_
            refine thenK_n ?_
            refine W_cond rfl (fun g9 => ?_) (fun g9 => ?_)
            · have h9 := g9; (try simp only [cmpB, decide_eq_true_eq, decide_eq_false_iff_not, beq_iff_eq, beq_eq_false_iff_ne, bne_iff_ne, ne_eq, bne_eq_false_iff_eq, Bool.not_eq_true', Bool.not_eq_false', Int.not_lt, Int.not_le] at h9)
              refine W_seq ?_
              refine W_seqK (b' := 214) rfl rfl ?_
              refine k_op0 (d := 6) (b := 198) (j' := 1) rfl rfl rfl rfl (.plain rfl) (T_assign rfl rfl) rfl ?_
              refine k_done rfl ?_
              refine thenK_n ?_
              refine W_ret ?_
              refine blockK_r ?_
              refine thenK_r ?_
              refine thenK_r ?_
              refine blockK_r ?_
              refine thenK_r ?_
              -- end 4
              exact .mk [] (.inr rfl) (.tmp rfl (.nil)) (by simp only [resLV, LV.ren, LV.v.injEq, Value.bool.injEq]; rw [tcheck, if_neg (by omega), if_pos (all_false_at (i := j) (by omega) (by rw [okPath, h9]; simp))]) (.nil) rfl
            · have h9 := g9; (try simp only [cmpB, decide_eq_true_eq, decide_eq_false_iff_not, beq_iff_eq, beq_eq_false_iff_ne, bne_iff_ne, ne_eq, bne_eq_false_iff_eq, Bool.not_eq_true', Bool.not_eq_false', Int.not_lt, Int.not_le] at h9)
              refine W_skip ?_
              refine blockK_n ?_
              refine thenK_n ?_
              refine W_seqK (b' := 230) rfl rfl ?_
              refine k_op0 (d := 43) (b := 198) (j' := 1) rfl rfl rfl rfl (.plain rfl) (T_add64 rfl rfl rfl (by first | assumption | omega | exact okPath_len (hJ.2 0 (by omega)) | (simp; omega))) rfl ?_
              refine k_op0 (d := 31) (b := 214) (j' := 2) rfl rfl rfl rfl (.plain rfl) (T_move rfl rfl) rfl ?_
              refine k_done rfl ?_
              refine thenK_n ?_
              refine ⟨j + 1, by (try dsimp only); exact ⟨by omega, fun i hi => by rcases Nat.lt_or_ge i j with h | h; exact hJ.2 i h; rw [show i = j by omega]; exact okPath_t (by omega) (by assumption)⟩, by (try dsimp only); omega, ?_⟩
              exact ⟨[(4, 4), (5, 5)], .same rfl rfl (.same rfl rfl (.same rfl rfl (.same rfl rfl (.eq rfl (.eq rfl (.nil) (by first | rfl | simp)) (by first | rfl | simp))))), .fzE rfl (.fzE rfl (.fzE rfl (.box (by first | rfl | simp) (.box (by first | rfl | simp) (.nil))) (by first | rfl | simp)) (by first | rfl | simp)) (by first | rfl | simp), rfl⟩
        · have h6 := g6; (try simp only [cmpB, decide_eq_true_eq, decide_eq_false_iff_not, beq_iff_eq, beq_eq_false_iff_ne, bne_iff_ne, ne_eq, bne_eq_false_iff_eq, Bool.not_eq_true', Bool.not_eq_false', Int.not_lt, Int.not_le] at h6)
          refine W_exit ?_
          refine thenK_e ?_
          refine thenK_e ?_
          refine blockK_hit ?_
          refine thenK_n ?_
          refine W_seq ?_
          refine W_seq ?_
          refine W_seqK (b' := 118) rfl rfl ?_
          refine k_op0 (d := 44) (b := 22) (j' := 1) rfl rfl rfl rfl (.plain rfl) (T_move rfl rfl) rfl ?_
          first | refine k_op0 (d := 45) (b := 38) (j' := 2) rfl rfl rfl rfl (.plain rfl) (T_indexAddr D rfl rfl rfl rfl rfl rfl rfl rfl (by first | assumption | omega | exact okPath_len (hJ.2 0 (by omega)) | (simp; omega))) rfl ?_ | refine k_op0 (d := 45) (b := 38) (j' := 2) rfl rfl rfl rfl (.plain rfl) (T_indexAddrZ D rfl rfl rfl rfl rfl rfl rfl rfl (by first | assumption | omega | exact okPath_len (hJ.2 0 (by omega)) | (simp; omega)) (by first | assumption | omega | exact okPath_len (hJ.2 0 (by omega)) | (simp; omega))) rfl ?_
          refine k_op1 (d := 46) (b := 54) (j' := 3) rfl rfl rfl rfl (.plain rfl) (T_ldE D (lv := .r 54) (nn := 1) (upd := [(54, .fz 1 _)]) rfl rfl rfl rfl rfl (by first | assumption | omega | exact okPath_len (hJ.2 0 (by omega)) | (simp; omega)) rfl rfl rfl rfl) rfl ?_
          first | refine k_op0 (d := 47) (b := 70) (j' := 4) rfl rfl rfl rfl (.plain rfl) (T_indexAddr D rfl rfl rfl rfl rfl rfl rfl rfl (by first | assumption | omega | exact okPath_len (hJ.2 0 (by omega)) | (simp; omega))) rfl ?_ | refine k_op0 (d := 47) (b := 70) (j' := 4) rfl rfl rfl rfl (.plain rfl) (T_indexAddrZ D rfl rfl rfl rfl rfl rfl rfl rfl (by first | assumption | omega | exact okPath_len (hJ.2 0 (by omega)) | (simp; omega)) (by first | assumption | omega | exact okPath_len (hJ.2 0 (by omega)) | (simp; omega))) rfl ?_
          refine k_op0 (d := 48) (b := 86) (j' := 5) rfl rfl rfl rfl (.plain rfl) (T_ldE D (lv := .v _) (nn := 0) (upd := []) rfl rfl rfl rfl rfl (by first | assumption | omega | exact okPath_len (hJ.2 0 (by omega)) | (simp; omega)) rfl rfl rfl rfl) rfl ?_
          refine k_op0 (d := 49) (b := 102) (j' := 6) rfl rfl rfl rfl (.plain rfl) (T_cmp rfl rfl rfl rfl) rfl ?_
          refine k_done rfl ?_
          refine thenK_n ?_
          refine W_cond rfl (fun g10 => ?_) (fun g10 => ?_)
          · have h10 := g10; (try simp only [cmpB, decide_eq_true_eq, decide_eq_false_iff_not, beq_iff_eq, beq_eq_false_iff_ne, bne_iff_ne, ne_eq, bne_eq_false_iff_eq, Bool.not_eq_true', Bool.not_eq_false', Int.not_lt, Int.not_le] at h10)
            refine W_seq ?_
            refine W_seqK (b' := 134) rfl rfl ?_
            refine k_op0 (d := 6) (b := 118) (j' := 1) rfl rfl rfl rfl (.plain rfl) (T_assign rfl rfl) rfl ?_
            refine k_done rfl ?_
            refine thenK_n ?_
            refine W_ret ?_
            refine thenK_r ?_
            -- end 5
            exact .mk [] (.inr rfl) (.tmp rfl (.nil)) (by simp only [resLV, LV.ren, LV.v.injEq, Value.bool.injEq]; rw [tcheck, if_neg (by omega), if_neg (by simp only [Bool.not_eq_false]; exact all_iff_getD.2 (fun i hi => hJ.2 i (by omega))), if_pos (by assumption)]) (.nil) rfl
          · have h10 := g10; (try simp only [cmpB, decide_eq_true_eq, decide_eq_false_iff_not, beq_iff_eq, beq_eq_false_iff_ne, bne_iff_ne, ne_eq, bne_eq_false_iff_eq, Bool.not_eq_true', Bool.not_eq_false', Int.not_lt, Int.not_le] at h10)
            refine W_skip ?_
            refine thenK_n ?_
            refine W_seq ?_
            refine W_seq ?_
            refine W_seqK (b' := 166) rfl rfl ?_
            refine k_op0 (d := 50) (b := 118) (j' := 1) rfl rfl rfl rfl (.plain rfl) (T_move rfl rfl) rfl ?_
            refine k_op0 (d := 51) (b := 134) (j' := 2) rfl rfl rfl rfl (.plain rfl) (T_len D rfl rfl rfl rfl rfl rfl) rfl ?_
            refine k_op0 (d := 52) (b := 150) (j' := 3) rfl rfl rfl rfl (.plain rfl) (T_move rfl rfl) rfl ?_
            refine k_done rfl ?_
            refine thenK_n ?_
            refine W_block ?_
            have ok1 : ∀ i, i < ps.length → okPath f (ps.getD i default) = true := fun i hi => hJ.2 i (by omega)
            have hall : ps.all (okPath f) = true := all_iff_getD.2 ok1
            have hps : ∀ q ∈ ps, 0 < q.length := fun q hq => okPath_len (List.all_eq_true.1 hall q hq)
            clear hJ
            refine W_loop (ι := Nat) 6 (fun j => ⟨[(2, .r 3), (3, .p 4 0), (4, .p 5 0), (50, .r 3), (51, .v (.int .i64 (ps.length : Int))), (52, .v (.int .i64 (j : Int)))], [(1, .fz 5 (f.blocks.map eBlock)), (2, .fz 5 (g.blocks.map eBlock)), (3, .fz 1 (ps.map eIs)), (4, .box 29 [.v (.int .i64 f.regs), .r 1]), (5, .box 29 [.v (.int .i64 g.regs), .r 2])]⟩) (fun j => j ≤ ps.length ∧ ∀ i, i < j → made f (g.blocks.getD i default) (ps.getD i default) ps = true) (fun j => ps.length - j) (0) (by exact ⟨Nat.zero_le _, fun i h => absurd h (Nat.not_lt_zero _)⟩) ?_ (fun j hJ => ?_)
            · exact ⟨[(4, 4), (5, 5)], .same rfl rfl (.same rfl rfl (.same rfl rfl (.same rfl rfl (.eq rfl (.eq rfl (.nil) (by first | rfl | simp)) (by first | rfl | simp))))), .fzE rfl (.fzE rfl (.fzE rfl (.box (by first | rfl | simp) (.box (by first | rfl | simp) (.nil))) (by first | rfl | simp)) (by first | rfl | simp)) (by first | rfl | simp), rfl⟩
            refine W_seq ?_
            refine W_seqK (b' := 22) rfl rfl ?_
            refine k_op0 (d := 53) (b := 6) (j' := 1) rfl rfl rfl rfl (.plain rfl) (T_cmp rfl rfl rfl rfl) rfl ?_
            refine k_done rfl ?_
            refine thenK_n ?_
            refine W_seq ?_
            refine W_cond rfl (fun g11 => ?_) (fun g11 => ?_)
            · have h11 := g11; (try simp only [cmpB, decide_eq_true_eq, decide_eq_false_iff_not, beq_iff_eq, beq_eq_false_iff_ne, bne_iff_ne, ne_eq, bne_eq_false_iff_eq, Bool.not_eq_true', Bool.not_eq_false', Int.not_lt, Int.not_le] at h11)
              refine W_skip ?_
              refine thenK_n ?_
              refine W_seq ?_
              refine W_block ?_
              refine W_seq ?_
              refine W_seqK (b' := 102) rfl rfl ?_
              refine k_op0 (d := 54) (b := 22) (j' := 1) rfl rfl rfl rfl (.plain rfl) (T_move rfl rfl) rfl ?_
              first | refine k_op0 (d := 55) (b := 38) (j' := 2) rfl rfl rfl rfl (.plain rfl) (T_indexAddr D rfl rfl rfl rfl rfl rfl rfl rfl (by first | assumption | omega | exact okPath_len (hJ.2 0 (by omega)) | (simp; omega))) rfl ?_ | refine k_op0 (d := 55) (b := 38) (j' := 2) rfl rfl rfl rfl (.plain rfl) (T_indexAddrZ D rfl rfl rfl rfl rfl rfl rfl rfl (by first | assumption | omega | exact okPath_len (hJ.2 0 (by omega)) | (simp; omega)) (by first | assumption | omega | exact okPath_len (hJ.2 0 (by omega)) | (simp; omega))) rfl ?_
              refine k_op1 (d := 56) (b := 54) (j' := 3) rfl rfl rfl rfl (.plain rfl) (T_ldE D (lv := .r 54) (nn := 1) (upd := [(54, .fz 1 _)]) rfl rfl rfl rfl rfl (by first | assumption | omega | exact okPath_len (hJ.2 0 (by omega)) | (simp; omega)) rfl rfl rfl rfl) rfl ?_
              refine k_op0 (d := 9) (b := 70) (j' := 4) rfl rfl rfl rfl (.plain rfl) (T_assign rfl rfl) rfl ?_
              refine k_op0 (d := 10) (b := 86) (j' := 5) rfl rfl rfl rfl (.plain rfl) (T_assign rfl rfl) rfl ?_
              refine k_done rfl ?_
              refine thenK_n ?_
              refine W_seq ?_
              refine W_anyK (b' := 262) rfl rfl rfl ?_
              refine k_op0 (d := 57) (b := 102) (j' := 1) rfl rfl rfl rfl (.plain rfl) (T_load_bA D (l := [_, _]) rfl rfl rfl rfl rfl rfl rfl) rfl ?_
              refine k_op0 (d := 58) (b := 118) (j' := 2) rfl rfl rfl rfl (.plain rfl) (T_fa D (m := 1) rfl rfl rfl rfl rfl rfl) rfl ?_
              refine k_op0 (d := 59) (b := 134) (j' := 3) rfl rfl rfl rfl (.plain rfl) (T_load_b D rfl rfl rfl rfl rfl rfl) rfl ?_
              refine k_op0 (d := 60) (b := 150) (j' := 4) rfl rfl rfl rfl (.plain rfl) (T_move rfl rfl) rfl ?_
              first | refine k_op0 (d := 61) (b := 166) (j' := 5) rfl rfl rfl rfl (.plain rfl) (T_indexAddr D rfl rfl rfl rfl rfl rfl rfl rfl (by first | assumption | omega | exact okPath_len (hJ.2 0 (by omega)) | (simp; omega))) rfl ?_ | refine k_op0 (d := 61) (b := 166) (j' := 5) rfl rfl rfl rfl (.plain rfl) (T_indexAddrZ D rfl rfl rfl rfl rfl rfl rfl rfl (by first | assumption | omega | exact okPath_len (hJ.2 0 (by omega)) | (simp; omega)) (by first | assumption | omega | exact okPath_len (hJ.2 0 (by omega)) | (simp; omega))) rfl ?_
              refine k_op1 (d := 62) (b := 182) (j' := 6) rfl rfl rfl rfl (.plain rfl) (T_ldEA D (l := [.r 182, .v _, .v _, .v _, .v _]) (nn := 1) (upd := [(182, .fz 8 _)]) rfl rfl rfl rfl rfl (by first | assumption | omega | exact okPath_len (hJ.2 0 (by omega)) | (simp; omega)) rfl rfl rfl rfl rfl) rfl ?_
              refine k_op0 (d := 63) (b := 198) (j' := 7) rfl rfl rfl rfl (.plain rfl) (T_move rfl rfl) rfl ?_
              refine k_op0 (d := 64) (b := 214) (j' := 8) rfl rfl rfl rfl (.plain rfl) (T_move rfl rfl) rfl ?_
              refine k_op0 (d := 65) (b := 230) (j' := 9) rfl rfl rfl rfl (.plain rfl) (T_callV (lvs := [_, _, _, _]) (L := [(1, 1), (2, 182), (3, 54), (4, 3)]) (made_spec _ _ _ _ (hgi _ (getD_mem (by omega))) (okPath_len (ok1 _ (by omega))) ⟨hpl _ (getD_mem (by omega)), okPath_in (ok1 _ (by omega))⟩ (hI _ (getD_mem (by omega))) hps) body75 rfl rfl rfl rfl (.fz rfl (.fz rfl (.fz rfl (.fz rfl (.nil))))) rfl) rfl ?_
              refine k_op0 (d := 66) (b := 246) (j' := 10) rfl rfl rfl rfl (.plain rfl) (T_not rfl rfl) rfl ?_
              refine k_done rfl ?_
              refine ⟨rfl, ?_⟩
              refine thenK_n ?_
              refine W_cond rfl (fun g12 => ?_) (fun g12 => ?_)
              · have h12 := g12; (try simp only [cmpB, decide_eq_true_eq, decide_eq_false_iff_not, beq_iff_eq, beq_eq_false_iff_ne, bne_iff_ne, ne_eq, bne_eq_false_iff_eq, Bool.not_eq_true', Bool.not_eq_false', Int.not_lt, Int.not_le] at h12)
                refine W_seq ?_
                refine W_seqK (b' := 278) rfl rfl ?_
                refine k_op0 (d := 6) (b := 262) (j' := 1) rfl rfl rfl rfl (.plain rfl) (T_assign rfl rfl) rfl ?_
                refine k_done rfl ?_
                refine thenK_n ?_
                refine W_ret ?_
                refine blockK_r ?_
                refine thenK_r ?_
                refine thenK_r ?_
                refine blockK_r ?_
                refine thenK_r ?_
                -- end 6
                exact .mk [] (.inr rfl) (.tmp rfl (.nil)) (by simp only [resLV, LV.ren, LV.v.injEq, Value.bool.injEq]; rw [tcheck, if_neg (by omega), if_neg (by simp only [Bool.not_eq_false]; exact hall), if_neg (by omega)]; exact (range_all_false (i := j) (by omega) (by simpa using h12)).symm) (.nil) rfl
              · have h12 := g12; (try simp only [cmpB, decide_eq_true_eq, decide_eq_false_iff_not, beq_iff_eq, beq_eq_false_iff_ne, bne_iff_ne, ne_eq, bne_eq_false_iff_eq, Bool.not_eq_true', Bool.not_eq_false', Int.not_lt, Int.not_le] at h12)
                refine W_skip ?_
                refine blockK_n ?_
                refine thenK_n ?_
                refine W_seqK (b' := 294) rfl rfl ?_
                refine k_op0 (d := 67) (b := 262) (j' := 1) rfl rfl rfl rfl (.plain rfl) (T_add64 rfl rfl rfl (by first | assumption | omega | exact okPath_len (hJ.2 0 (by omega)) | (simp; omega))) rfl ?_
                refine k_op0 (d := 52) (b := 278) (j' := 2) rfl rfl rfl rfl (.plain rfl) (T_move rfl rfl) rfl ?_
                refine k_done rfl ?_
                refine thenK_n ?_
                refine ⟨j + 1, by (try dsimp only); exact ⟨by omega, fun i hi => by rcases Nat.lt_or_ge i j with h | h; exact hJ.2 i h; rw [show i = j by omega]; simpa using h12⟩, by (try dsimp only); omega, ?_⟩
                exact ⟨[(4, 4), (5, 5)], .same rfl rfl (.same rfl rfl (.same rfl rfl (.same rfl rfl (.eq rfl (.eq rfl (.nil) (by first | rfl | simp)) (by first | rfl | simp))))), .fzE rfl (.fzE rfl (.fzE rfl (.box (by first | rfl | simp) (.box (by first | rfl | simp) (.nil))) (by first | rfl | simp)) (by first | rfl | simp)) (by first | rfl | simp), rfl⟩
            · have h11 := g11; (try simp only [cmpB, decide_eq_true_eq, decide_eq_false_iff_not, beq_iff_eq, beq_eq_false_iff_ne, bne_iff_ne, ne_eq, bne_eq_false_iff_eq, Bool.not_eq_true', Bool.not_eq_false', Int.not_lt, Int.not_le] at h11)
              refine W_exit ?_
              refine thenK_e ?_
              refine thenK_e ?_
              refine blockK_hit ?_
              refine thenK_n ?_
              refine W_seq ?_
              refine W_seqK (b' := 38) rfl rfl ?_
              refine k_op0 (d := 6) (b := 22) (j' := 1) rfl rfl rfl rfl (.plain rfl) (T_assign rfl rfl) rfl ?_
              refine k_done rfl ?_
              refine thenK_n ?_
              refine W_ret ?_
              -- end 7
              exact .mk [] (.inr rfl) (.tmp rfl (.nil)) (by simp only [resLV, LV.ren, LV.v.injEq, Value.bool.injEq]; rw [tcheck, if_neg (by omega), if_neg (by simp only [Bool.not_eq_false]; exact hall), if_neg (by omega)]; exact (range_all_true (fun i hi => hJ.2 i (by omega))).symm) (.nil) rfl
end Lg
end Go.Proofs.Ytpfhmodjjljpjaa

namespace Go.Proofs.Ytpfhmodjjljpjaa
open Go.RowKit
namespace Lg

theorem instrs_split (f : GFn) (p : List Int) (k : Nat) (hk : k < p.length) : instrs f p = instrs f (p.take k) ++ ((blk f (p.getD k default)).ins ++ instrs f (p.drop (k + 1))) := by
  have h : p = p.take k ++ (p.getD k default :: p.drop (k + 1)) := by
    rw [List.getD_eq_getElem?_getD, List.getElem?_eq_getElem hk, Option.getD_some, List.getElem_cons_drop, List.take_append_drop]
  conv => lhs; rw [h]
  simp [instrs, blk]
theorem instrs_at (f : GFn) (p : List Int) (k i : Nat) (hk : k < p.length) (hi : i < (blk f (p.getD k default)).ins.length) :
    (instrs f p).getD ((instrs f (p.take k)).length + i) default = (blk f (p.getD k default)).ins.getD i default ∧ (instrs f (p.take k)).length + i < (instrs f p).length := by
  rw [instrs_split f p k hk]
  refine ⟨?_, by simp only [List.length_append]; omega⟩
  have h1 : (instrs f (p.take k) ++ ((blk f (p.getD k default)).ins ++ instrs f (p.drop (k + 1))))[(instrs f (p.take k)).length + i]? = (blk f (p.getD k default)).ins[i]? := by
    rw [List.getElem?_append_right (by omega), Nat.add_sub_cancel_left, List.getElem?_append_left hi]
  generalize (blk f (p.getD k default)).ins = X at *
  rw [List.getD_eq_getElem?_getD, h1, List.getD_eq_getElem?_getD]
theorem made_ins {f : GFn} {b : GBlock} {p : List Int} {ps : List (List Int)} (h : ¬ b.ins = instrs f p) : made f b p ps = false := by
  simp [made, h]
theorem ins_ne {f : GFn} {b : GBlock} {p : List Int} {k i : Nat} (hk : k < p.length) (hi : i < (blk f (p.getD k default)).ins.length)
    (h : b.ins.length ≤ (instrs f (p.take k)).length + i ∨ ¬ b.ins.getD ((instrs f (p.take k)).length + i) default = (blk f (p.getD k default)).ins.getD i default) : ¬ b.ins = instrs f p := fun e => by
  obtain ⟨h1, h2⟩ := instrs_at f p k i hk hi
  rcases h with h | h
  · rw [e] at h; omega
  · rw [e] at h; exact h h1
theorem ins_step {f : GFn} {b : GBlock} {p : List Int} {k i : Nat} (hk : k < p.length) (hi : i < (blk f (p.getD k default)).ins.length) (h : b.ins.getD ((instrs f (p.take k)).length + i) default = (blk f (p.getD k default)).ins.getD i default)
    (hb : ∀ m, m < (instrs f (p.take k)).length + i → b.ins.getD m default = (instrs f p).getD m default) : ∀ m, m < (instrs f (p.take k)).length + (i + 1) → b.ins.getD m default = (instrs f p).getD m default := fun m hm => by
  rcases Nat.lt_or_ge m ((instrs f (p.take k)).length + i) with h1 | h1
  · exact hb m h1
  · rw [show m = (instrs f (p.take k)).length + i by omega, h, (instrs_at f p k i hk hi).1]
theorem take_len_le (f : GFn) (p : List Int) (k : Nat) : (instrs f (p.take k)).length ≤ (instrs f p).length := by
  have h := congrArg (fun q => (instrs f q).length) (List.take_append_drop k p)
  simp only [instrs, List.map_append, List.flatten_append, List.length_append] at h
  simp only [instrs]
  omega
theorem made_tail {f : GFn} {b : GBlock} {p : List Int} {ps : List (List Int)} (hc : chainB f p = true) (e : b.ins = instrs f p) (h1 : b.fin = (blk f (lastOf p)).fin) (h2 : b.v = (blk f (lastOf p)).v) :
    made f b p ps = if b.fin = 1 then leads ps b.to (blk f (lastOf p)).to && b.els == (blk f (lastOf p)).els
      else if b.fin = 2 then leads ps b.to (blk f (lastOf p)).to && leads ps b.els (blk f (lastOf p)).els
      else b.to == (blk f (lastOf p)).to && b.els == (blk f (lastOf p)).els := by
  unfold made
  rw [hc, decide_eq_true e, h1, h2]
  simp only [beq_self_eq_true, Bool.true_and]
theorem made_fin {f : GFn} {b : GBlock} {p : List Int} {ps : List (List Int)} (h : ¬ b.fin = (blk f (lastOf p)).fin) : made f b p ps = false := by
  unfold made
  rw [beq_eq_false_iff_ne.2 h]
  simp
theorem made_v {f : GFn} {b : GBlock} {p : List Int} {ps : List (List Int)} (h : ¬ b.v = (blk f (lastOf p)).v) : made f b p ps = false := by
  unfold made
  rw [beq_eq_false_iff_ne.2 h]
  simp
theorem any_false_getD {α : Type} [Inhabited α] {a : List α} {q : α → Bool} (h : ∀ i, i < a.length → q (a.getD i default) = false) : a.any q = false := by
  rw [List.any_eq_false]
  intro x hx
  obtain ⟨i, hi, rfl⟩ := List.mem_iff_getElem.1 hx
  have := h i hi
  simpa [List.getD_eq_getElem?_getD, List.getElem?_eq_getElem hi] using this
theorem any_true_getD {α : Type} [Inhabited α] {a : List α} {q : α → Bool} {i : Nat} (hi : i < a.length) (h : q (a.getD i default) = true) : a.any q = true := List.any_eq_true.2 ⟨_, getD_mem hi, h⟩
end Lg
end Go.Proofs.Ytpfhmodjjljpjaa

namespace Go.Proofs.Ytpfhmodjjljpjaa
open Go.RowKit
namespace Lg
set_option maxRecDepth 100000
set_option linter.unusedVariables false
set_option linter.unusedSimpArgs false



theorem body76 : (Try.prog.funcs[76]?).map (fun fn => (fn.name == "runtime.NumGoroutine" || fn.body.isNone)) = some false := by kernel_rfl
theorem one_spec (f : GFn) (b : GBlock) (ps : List (List Int)) (p : List Int) (hbi : b.ins.length ≤ 1000000) (h0 : 1 ≤ p.length) (hp : p.length ≤ 1000000000 ∧ ∀ i, i < p.length → 0 ≤ p.getD i default ∧ p.getD i default < (f.blocks.length : Int)) (hb : ∀ j, (instrs f (p.take j)).length ≤ 1000000000) (hps : ∀ q ∈ ps, 0 < q.length) : Spec Try.prog 76 [.agg [.v (.int .i64 f.regs), .r 1], .agg [.r 2, .v (.int .i64 b.fin), .v (.int .i64 b.v), .v (.int .i64 b.to), .v (.int .i64 b.els)], .r 4, .r 3] 5 [(1, .fz 5 (f.blocks.map eBlock)), (2, .fz 8 (b.ins.map eTac)), (3, .fz 1 (p.map eI)), (4, .fz 1 (ps.map eIs))] (.v (.bool (made f b p ps))) 5 [] := by
  refine spec_of D (fn := Try.f76) rfl rfl (Nat.le_of_ble_eq_true rfl) ?_
  refine W_seq ?_
  refine W_seqK (b' := 53) rfl rfl ?_
  refine k_op1 (d := 4) (b := 5) (j' := 1) rfl rfl rfl rfl (.plain rfl) (T_box rfl rfl flat_agg) rfl ?_
  refine k_op1 (d := 5) (b := 21) (j' := 2) rfl rfl rfl rfl (.plain rfl) (T_box rfl rfl flat_agg) rfl ?_
  refine k_op0 (d := 8) (b := 37) (j' := 3) rfl rfl rfl rfl (.plain rfl) (T_assign rfl rfl) rfl ?_
  refine k_done rfl ?_
  refine thenK_n ?_
  refine W_seq ?_
  refine W_seqK (b' := 69) rfl rfl ?_
  refine k_op0 (d := 9) (b := 53) (j' := 1) rfl rfl rfl rfl (.plain rfl) (T_assign rfl rfl) rfl ?_
  refine k_done rfl ?_
  refine thenK_n ?_
  refine W_seq ?_
  refine W_seq ?_
  refine W_seqK (b' := 85) rfl rfl ?_
  refine k_op0 (d := 10) (b := 69) (j' := 1) rfl rfl rfl rfl (.plain rfl) (T_assign rfl rfl) rfl ?_
  refine k_done rfl ?_
  refine thenK_n ?_
  refine W_block ?_
  refine W_loop (ι := Nat) 7 (fun j => ⟨[(2, .r 4), (3, .r 3), (4, .p 5 0), (5, .p 6 0), (9, .v (.int .i64 ((instrs f (p.take j)).length : Int))), (10, .v (.int .i64 (j : Int)))], [(1, .fz 5 (f.blocks.map eBlock)), (2, .fz 8 (b.ins.map eTac)), (3, .fz 1 (p.map eI)), (4, .fz 1 (ps.map eIs)), (5, .box 29 [.v (.int .i64 f.regs), .r 1]), (6, .box 72 [.r 2, .v (.int .i64 b.fin), .v (.int .i64 b.v), .v (.int .i64 b.to), .v (.int .i64 b.els)])]⟩) (fun j => j ≤ p.length ∧ (instrs f (p.take j)).length ≤ b.ins.length ∧ (∀ m, m < (instrs f (p.take j)).length → b.ins.getD m default = (instrs f p).getD m default) ∧ ∀ i, i < j → i + 1 < p.length → link f p i = true) (fun j => p.length - j) (0) (by exact ⟨Nat.zero_le _, Nat.zero_le _, fun m h => absurd h (Nat.not_lt_zero _), fun i h => absurd h (Nat.not_lt_zero _)⟩) ?_ (fun j hJ => ?_)
  · exact ⟨[(5, 5), (6, 21)], .same rfl rfl (.same rfl rfl (.same rfl rfl (.same rfl rfl (.eq rfl (.eq rfl (.nil) (by first | rfl | simp)) (by first | rfl | simp))))), .fzE rfl (.fzE rfl (.fzE rfl (.fzE rfl (.box (by first | rfl | simp) (.box (by first | rfl | simp) (.nil))) (by first | rfl | simp)) (by first | rfl | simp)) (by first | rfl | simp)) (by first | rfl | simp), rfl⟩
  have hq4 := hp.2 j
  have hq2 : j < p.length → instrs f (p.take (j + 1)) = instrs f (p.take j) ++ (f.blocks.getD (p.getD j default).toNat default).ins := fun h => instrs_take f p j h
  have hq3 := fun h => congrArg List.length (hq2 h)
  simp only [List.length_append] at hq3
  refine W_seq ?_
  refine W_seq ?_
  refine W_seqK (b' := 71) rfl rfl ?_
  refine k_op0 (d := 16) (b := 7) (j' := 1) rfl rfl rfl rfl (.plain rfl) (T_move rfl rfl) rfl ?_
  refine k_op0 (d := 17) (b := 23) (j' := 2) rfl rfl rfl rfl (.plain rfl) (T_move rfl rfl) rfl ?_
  refine k_op0 (d := 18) (b := 39) (j' := 3) rfl rfl rfl rfl (.plain rfl) (T_len D rfl rfl rfl rfl rfl rfl) rfl ?_
  refine k_op0 (d := 19) (b := 55) (j' := 4) rfl rfl rfl rfl (.plain rfl) (T_cmp rfl rfl rfl rfl) rfl ?_
  refine k_done rfl ?_
  refine thenK_n ?_
  refine W_cond rfl (fun g1 => ?_) (fun g1 => ?_)
  · have h1 := g1; (try simp only [cmpB, decide_eq_true_eq, decide_eq_false_iff_not, beq_iff_eq, beq_eq_false_iff_ne, bne_iff_ne, ne_eq, bne_eq_false_iff_eq, Bool.not_eq_true', Bool.not_eq_false', Int.not_lt, Int.not_le] at h1)
    refine W_skip ?_
    refine thenK_n ?_
    refine W_seq ?_
    refine W_block ?_
    refine W_seq ?_
    refine W_anyK (b' := 231) rfl rfl rfl ?_
    refine k_op0 (d := 22) (b := 71) (j' := 1) rfl rfl rfl rfl (.plain rfl) (T_fa D (m := 1) rfl rfl rfl rfl rfl rfl) rfl ?_
    refine k_op0 (d := 23) (b := 87) (j' := 2) rfl rfl rfl rfl (.plain rfl) (T_load_b D rfl rfl rfl rfl rfl rfl) rfl ?_
    refine k_op0 (d := 24) (b := 103) (j' := 3) rfl rfl rfl rfl (.plain rfl) (T_move rfl rfl) rfl ?_
    refine k_op0 (d := 25) (b := 119) (j' := 4) rfl rfl rfl rfl (.plain rfl) (T_move rfl rfl) rfl ?_
    first | refine k_op0 (d := 26) (b := 135) (j' := 5) rfl rfl rfl rfl (.plain rfl) (T_indexAddr D rfl rfl rfl rfl rfl rfl rfl rfl (by first | assumption | omega | (have k1 := hq4 (by omega); omega) | (have k1 := hp.2 ((p.length : Int) - 1).toNat (by omega); omega))) rfl ?_ | refine k_op0 (d := 26) (b := 135) (j' := 5) rfl rfl rfl rfl (.plain rfl) (T_indexAddrZ D rfl rfl rfl rfl rfl rfl rfl rfl (by first | assumption | omega | (have k1 := hq4 (by omega); omega) | (have k1 := hp.2 ((p.length : Int) - 1).toNat (by omega); omega)) (by first | assumption | omega | (have k1 := hq4 (by omega); omega) | (have k1 := hp.2 ((p.length : Int) - 1).toNat (by omega); omega))) rfl ?_
    refine k_op0 (d := 27) (b := 151) (j' := 6) rfl rfl rfl rfl (.plain rfl) (T_ldE D (lv := .v _) (nn := 0) (upd := []) rfl rfl rfl rfl rfl (by first | assumption | omega | (have k1 := hq4 (by omega); omega) | (have k1 := hp.2 ((p.length : Int) - 1).toNat (by omega); omega)) rfl rfl rfl rfl) rfl ?_
    first | refine k_op0 (d := 28) (b := 167) (j' := 7) rfl rfl rfl rfl (.plain rfl) (T_indexAddr D rfl rfl rfl rfl rfl rfl rfl rfl (by first | assumption | omega | (have k1 := hq4 (by omega); omega) | (have k1 := hp.2 ((p.length : Int) - 1).toNat (by omega); omega))) rfl ?_ | refine k_op0 (d := 28) (b := 167) (j' := 7) rfl rfl rfl rfl (.plain rfl) (T_indexAddrZ D rfl rfl rfl rfl rfl rfl rfl rfl (by first | assumption | omega | (have k1 := hq4 (by omega); omega) | (have k1 := hp.2 ((p.length : Int) - 1).toNat (by omega); omega)) (by first | assumption | omega | (have k1 := hq4 (by omega); omega) | (have k1 := hp.2 ((p.length : Int) - 1).toNat (by omega); omega))) rfl ?_
    refine k_op1 (d := 29) (b := 183) (j' := 8) rfl rfl rfl rfl (.plain rfl) (T_ldEA D (l := [.r 183, .v _, .v _, .v _, .v _]) (nn := 1) (upd := [(183, .fz 8 _)]) rfl rfl rfl rfl rfl (by first | assumption | omega | (have k1 := hq4 (by omega); omega) | (have k1 := hp.2 ((p.length : Int) - 1).toNat (by omega); omega)) rfl rfl rfl rfl rfl) rfl ?_
    refine k_opn (d := 11) (b := 199) (j' := 9) rfl rfl rfl rfl (.plain rfl) (T_nilbox [(70, 8)] (T_alloc D rfl rfl rfl) rfl (.cons (.nil rfl) <| .cons (.same _) <| .cons (.same _) <| .cons (.same _) <| .cons (.same _) <| .nil) (upd' := [(199, .box 72 [.r 200, .v (.int .i64 0), .v (.int .i64 0), .v (.int .i64 0), .v (.int .i64 0)]), (200, .row 70 8 (List.map eTac ([] : List (GTac))))]) (nn' := 2) rfl rfl) rfl ?_
    refine k_st1 (b := 215) (j' := 10) rfl rfl rfl rfl (.plain rfl) (T_stB D (cs' := [_, _, _, _, _]) rfl rfl rfl rfl flat_agg rfl rfl (Nat.le_of_ble_eq_true rfl) rfl) rfl ?_
    refine k_done rfl ?_
    refine ⟨rfl, ?_⟩
    refine thenK_n ?_
    refine W_seq ?_
    refine W_seq ?_
    refine W_seqK (b' := 247) rfl rfl ?_
    refine k_op0 (d := 12) (b := 231) (j' := 1) rfl rfl rfl rfl (.plain rfl) (T_assign rfl rfl) rfl ?_
    refine k_done rfl ?_
    refine thenK_n ?_
    refine W_block ?_
    refine W_loop (ι := Nat) 9 (fun i => ⟨[(2, .r 4), (3, .r 3), (4, .p 5 0), (5, .p 6 0), (9, .v (.int .i64 (((instrs f (p.take j)).length + i : Nat) : Int))), (10, .v (.int .i64 (j : Int))), (11, .p 7 0), (12, .v (.int .i64 (i : Int)))], [(1, .fz 5 (f.blocks.map eBlock)), (2, .fz 8 (b.ins.map eTac)), (3, .fz 1 (p.map eI)), (4, .fz 1 (ps.map eIs)), (5, .box 29 [.v (.int .i64 f.regs), .r 1]), (6, .box 72 [.r 2, .v (.int .i64 b.fin), .v (.int .i64 b.v), .v (.int .i64 b.to), .v (.int .i64 b.els)]), (7, .box 72 [.r 8, .v (.int .i64 (f.blocks.getD (p.getD j default).toNat default).fin), .v (.int .i64 (f.blocks.getD (p.getD j default).toNat default).v), .v (.int .i64 (f.blocks.getD (p.getD j default).toNat default).to), .v (.int .i64 (f.blocks.getD (p.getD j default).toNat default).els)]), (8, .fz 8 ((f.blocks.getD (p.getD j default).toNat default).ins.map eTac))]⟩) (fun i => i ≤ (f.blocks.getD (p.getD j default).toNat default).ins.length ∧ (instrs f (p.take j)).length + i ≤ b.ins.length ∧ (∀ m, m < (instrs f (p.take j)).length + i → b.ins.getD m default = (instrs f p).getD m default)) (fun i => (f.blocks.getD (p.getD j default).toNat default).ins.length - i) (0) (by exact ⟨Nat.zero_le _, hJ.2.1, hJ.2.2.1⟩) ?_ (fun i hI => ?_)
    · exact ⟨[(5, 5), (6, 6), (7, 199), (8, 183)], .same rfl rfl (.same rfl rfl (.same rfl rfl (.same rfl rfl (.eq rfl (.eq rfl (.same rfl rfl (.eq rfl (.nil) (by first | rfl | simp))) (by first | rfl | simp)) (by first | rfl | simp))))), .fzE rfl (.fzE rfl (.fzE rfl (.fzE rfl (.box (by first | rfl | simp) (.box (by first | rfl | simp) (.box (by first | rfl | simp) (.fzE rfl (.nil) (by first | rfl | simp))))) (by first | rfl | simp)) (by first | rfl | simp)) (by first | rfl | simp)) (by first | rfl | simp), rfl⟩
    refine W_seq ?_
    refine W_seq ?_
    refine W_seqK (b' := 89) rfl rfl ?_
    refine k_op0 (d := 30) (b := 9) (j' := 1) rfl rfl rfl rfl (.plain rfl) (T_move rfl rfl) rfl ?_
    refine k_op0 (d := 31) (b := 25) (j' := 2) rfl rfl rfl rfl (.plain rfl) (T_fa D (m := 0) rfl rfl rfl rfl rfl rfl) rfl ?_
    refine k_op0 (d := 32) (b := 41) (j' := 3) rfl rfl rfl rfl (.plain rfl) (T_load_b D rfl rfl rfl rfl rfl rfl) rfl ?_
    refine k_op0 (d := 33) (b := 57) (j' := 4) rfl rfl rfl rfl (.plain rfl) (T_len D rfl rfl rfl rfl rfl rfl) rfl ?_
    refine k_op0 (d := 34) (b := 73) (j' := 5) rfl rfl rfl rfl (.plain rfl) (T_cmp rfl rfl rfl rfl) rfl ?_
    refine k_done rfl ?_
    refine thenK_n ?_
    refine W_cond rfl (fun g2 => ?_) (fun g2 => ?_)
    · have h2 := g2; (try simp only [cmpB, decide_eq_true_eq, decide_eq_false_iff_not, beq_iff_eq, beq_eq_false_iff_ne, bne_iff_ne, ne_eq, bne_eq_false_iff_eq, Bool.not_eq_true', Bool.not_eq_false', Int.not_lt, Int.not_le] at h2)
      refine W_skip ?_
      refine thenK_n ?_
      refine W_seq ?_
      refine W_block ?_
      refine W_seq ?_
      refine W_seq ?_
      refine W_anyK (b' := 377) rfl rfl rfl ?_
      refine k_op0 (d := 37) (b := 89) (j' := 1) rfl rfl rfl rfl (.plain rfl) (T_move rfl rfl) rfl ?_
      refine k_op0 (d := 38) (b := 105) (j' := 2) rfl rfl rfl rfl (.plain rfl) (T_fa D (m := 0) rfl rfl rfl rfl rfl rfl) rfl ?_
      refine k_op0 (d := 39) (b := 121) (j' := 3) rfl rfl rfl rfl (.plain rfl) (T_load_b D rfl rfl rfl rfl rfl rfl) rfl ?_
      refine k_op0 (d := 40) (b := 137) (j' := 4) rfl rfl rfl rfl (.plain rfl) (T_len D rfl rfl rfl rfl rfl rfl) rfl ?_
      refine k_op0 (d := 41) (b := 153) (j' := 5) rfl rfl rfl rfl (.plain rfl) (T_cmp rfl rfl rfl rfl) rfl ?_
      refine k_op0 (d := 42) (b := 169) (j' := 6) rfl rfl rfl rfl (.plain rfl) (T_move rfl rfl) rfl ?_
      refine k_split (d := 42) rfl (fun g3 => ?_) (fun g3 => ?_)
      · have h3 := g3; (try simp only [cmpB, decide_eq_true_eq, decide_eq_false_iff_not, beq_iff_eq, beq_eq_false_iff_ne, bne_iff_ne, ne_eq, bne_eq_false_iff_eq, Bool.not_eq_true', Bool.not_eq_false', Int.not_lt, Int.not_le] at h3)
        refine k_no (d := 43) (j' := 7) rfl rfl rfl (g_ft rfl rfl rfl g3) ?_
        refine k_no (d := 44) (j' := 8) rfl rfl rfl (g_ft rfl rfl rfl g3) ?_
        refine k_no (d := 45) (j' := 9) rfl rfl rfl (g_ft rfl rfl rfl g3) ?_
        refine k_no (d := 46) (j' := 10) rfl rfl rfl (g_ft rfl rfl rfl g3) ?_
        refine k_no (d := 47) (j' := 11) rfl rfl rfl (g_ft rfl rfl rfl g3) ?_
        refine k_no (d := 48) (j' := 12) rfl rfl rfl (g_ft rfl rfl rfl g3) ?_
        refine k_no (d := 49) (j' := 13) rfl rfl rfl (g_ft rfl rfl rfl g3) ?_
        refine k_no (d := 50) (j' := 14) rfl rfl rfl (g_ft rfl rfl rfl g3) ?_
        refine k_no (d := 51) (j' := 15) rfl rfl rfl (g_ft rfl rfl rfl g3) ?_
        refine k_no (d := 52) (j' := 16) rfl rfl rfl (g_ft rfl rfl rfl g3) ?_
        refine k_no (d := 53) (j' := 17) rfl rfl rfl (g_ft rfl rfl rfl g3) ?_
        refine k_op0 (d := 54) (b := 361) (j' := 18) rfl rfl rfl rfl (.plain rfl) (T_pick_t rfl rfl rfl g3) rfl ?_
        refine k_done rfl ?_
        refine ⟨rfl, ?_⟩
        refine thenK_n ?_
        refine W_cond rfl (fun g4 => ?_) (fun g4 => ?_)
        · skip
          refine W_seq ?_
          refine W_seqK (b' := 393) rfl rfl ?_
          refine k_op0 (d := 8) (b := 377) (j' := 1) rfl rfl rfl rfl (.plain rfl) (T_assign rfl rfl) rfl ?_
          refine k_done rfl ?_
          refine thenK_n ?_
          refine W_ret ?_
          refine thenK_r ?_
          refine blockK_r ?_
          refine thenK_r ?_
          refine thenK_r ?_
          refine blockK_r ?_
          refine thenK_r ?_
          refine blockK_r ?_
          refine thenK_r ?_
          refine thenK_r ?_
          refine blockK_r ?_
          refine thenK_r ?_
          -- end 0
          exact .mk [] (.inr rfl) (.tmp rfl (.nil)) (by simp only [resLV, LV.ren, LV.v.injEq, Value.bool.injEq]; exact (made_ins (ins_ne (k := j) (i := i) (by omega) (by unfold blk; omega) (by unfold blk; first | exact .inl (by omega) | exact .inr (by assumption)))).symm) (.nil) rfl
        · exact absurd (g4.symm.trans rfl) (by decide)
      · have h3 := g3; (try simp only [cmpB, decide_eq_true_eq, decide_eq_false_iff_not, beq_iff_eq, beq_eq_false_iff_ne, bne_iff_ne, ne_eq, bne_eq_false_iff_eq, Bool.not_eq_true', Bool.not_eq_false', Int.not_lt, Int.not_le] at h3)
        refine k_op0 (d := 43) (b := 185) (j' := 7) rfl rfl rfl rfl (g_ff rfl rfl rfl g3) (T_fa D (m := 0) rfl rfl rfl rfl rfl rfl) rfl ?_
        refine k_op0 (d := 44) (b := 201) (j' := 8) rfl rfl rfl rfl (g_ff rfl rfl rfl g3) (T_load_b D rfl rfl rfl rfl rfl rfl) rfl ?_
        refine k_op0 (d := 45) (b := 217) (j' := 9) rfl rfl rfl rfl (g_ff rfl rfl rfl g3) (T_move rfl rfl) rfl ?_
        first | refine k_op0 (d := 46) (b := 233) (j' := 10) rfl rfl rfl rfl (g_ff rfl rfl rfl g3) (T_indexAddr D rfl rfl rfl rfl rfl rfl rfl rfl (by first | assumption | omega | (have k1 := hq4 (by omega); omega) | (have k1 := hp.2 ((p.length : Int) - 1).toNat (by omega); omega))) rfl ?_ | refine k_op0 (d := 46) (b := 233) (j' := 10) rfl rfl rfl rfl (g_ff rfl rfl rfl g3) (T_indexAddrZ D rfl rfl rfl rfl rfl rfl rfl rfl (by first | assumption | omega | (have k1 := hq4 (by omega); omega) | (have k1 := hp.2 ((p.length : Int) - 1).toNat (by omega); omega)) (by first | assumption | omega | (have k1 := hq4 (by omega); omega) | (have k1 := hp.2 ((p.length : Int) - 1).toNat (by omega); omega))) rfl ?_
        refine k_op0 (d := 47) (b := 249) (j' := 11) rfl rfl rfl rfl (g_ff rfl rfl rfl g3) (T_ldEA D (l := [.v _, .v _, .v _, .v _, .v _, .v _, .v _, .v _]) (nn := 0) (upd := []) rfl rfl rfl rfl rfl (by first | assumption | omega | (have k1 := hq4 (by omega); omega) | (have k1 := hp.2 ((p.length : Int) - 1).toNat (by omega); omega)) rfl rfl rfl rfl rfl) rfl ?_
        refine k_op0 (d := 48) (b := 265) (j' := 12) rfl rfl rfl rfl (g_ff rfl rfl rfl g3) (T_fa D (m := 0) rfl rfl rfl rfl rfl rfl) rfl ?_
        refine k_op0 (d := 49) (b := 281) (j' := 13) rfl rfl rfl rfl (g_ff rfl rfl rfl g3) (T_load_b D rfl rfl rfl rfl rfl rfl) rfl ?_
        refine k_op0 (d := 50) (b := 297) (j' := 14) rfl rfl rfl rfl (g_ff rfl rfl rfl g3) (T_move rfl rfl) rfl ?_
        first | refine k_op0 (d := 51) (b := 313) (j' := 15) rfl rfl rfl rfl (g_ff rfl rfl rfl g3) (T_indexAddr D rfl rfl rfl rfl rfl rfl rfl rfl (by first | assumption | omega | (have k1 := hq4 (by omega); omega) | (have k1 := hp.2 ((p.length : Int) - 1).toNat (by omega); omega))) rfl ?_ | refine k_op0 (d := 51) (b := 313) (j' := 15) rfl rfl rfl rfl (g_ff rfl rfl rfl g3) (T_indexAddrZ D rfl rfl rfl rfl rfl rfl rfl rfl (by first | assumption | omega | (have k1 := hq4 (by omega); omega) | (have k1 := hp.2 ((p.length : Int) - 1).toNat (by omega); omega)) (by first | assumption | omega | (have k1 := hq4 (by omega); omega) | (have k1 := hp.2 ((p.length : Int) - 1).toNat (by omega); omega))) rfl ?_
        refine k_op0 (d := 52) (b := 329) (j' := 16) rfl rfl rfl rfl (g_ff rfl rfl rfl g3) (T_ldEA D (l := [.v _, .v _, .v _, .v _, .v _, .v _, .v _, .v _]) (nn := 0) (upd := []) rfl rfl rfl rfl rfl (by first | assumption | omega | (have k1 := hq4 (by omega); omega) | (have k1 := hp.2 ((p.length : Int) - 1).toNat (by omega); omega)) rfl rfl rfl rfl rfl) rfl ?_
        refine k_op0 (d := 53) (b := 345) (j' := 17) rfl rfl rfl rfl (g_ff rfl rfl rfl g3) (T_eqTacN (b.ins.getD ((instrs f (p.take j)).length + i) default) ((f.blocks.getD (p.getD j default).toNat default).ins.getD i default) rfl rfl rfl) rfl ?_
        refine k_op0 (d := 54) (b := 361) (j' := 18) rfl rfl rfl rfl (.plain rfl) (T_pick_f rfl rfl rfl g3) rfl ?_
        refine k_done rfl ?_
        refine ⟨rfl, ?_⟩
        refine thenK_n ?_
        refine W_cond rfl (fun g5 => ?_) (fun g5 => ?_)
        · have h5 := g5; (try simp only [cmpB, decide_eq_true_eq, decide_eq_false_iff_not, beq_iff_eq, beq_eq_false_iff_ne, bne_iff_ne, ne_eq, bne_eq_false_iff_eq, Bool.not_eq_true', Bool.not_eq_false', Int.not_lt, Int.not_le] at h5)
          refine W_seq ?_
          refine W_seqK (b' := 393) rfl rfl ?_
          refine k_op0 (d := 8) (b := 377) (j' := 1) rfl rfl rfl rfl (.plain rfl) (T_assign rfl rfl) rfl ?_
          refine k_done rfl ?_
          refine thenK_n ?_
          refine W_ret ?_
          refine thenK_r ?_
          refine blockK_r ?_
          refine thenK_r ?_
          refine thenK_r ?_
          refine blockK_r ?_
          refine thenK_r ?_
          refine blockK_r ?_
          refine thenK_r ?_
          refine thenK_r ?_
          refine blockK_r ?_
          refine thenK_r ?_
          -- end 1
          exact .mk [] (.inr rfl) (.tmp rfl (.nil)) (by simp only [resLV, LV.ren, LV.v.injEq, Value.bool.injEq]; exact (made_ins (ins_ne (k := j) (i := i) (by omega) (by unfold blk; omega) (by unfold blk; first | exact .inl (by omega) | exact .inr (by assumption)))).symm) (.nil) rfl
        · have h5 := g5; (try simp only [cmpB, decide_eq_true_eq, decide_eq_false_iff_not, beq_iff_eq, beq_eq_false_iff_ne, bne_iff_ne, ne_eq, bne_eq_false_iff_eq, Bool.not_eq_true', Bool.not_eq_false', Int.not_lt, Int.not_le] at h5)
          refine W_skip ?_
          refine thenK_n ?_
          refine W_seqK (b' := 425) rfl rfl ?_
          refine k_op0 (d := 55) (b := 377) (j' := 1) rfl rfl rfl rfl (.plain rfl) (T_move rfl rfl) rfl ?_
          refine k_op0 (d := 56) (b := 393) (j' := 2) rfl rfl rfl rfl (.plain rfl) (T_add64 rfl rfl rfl (by first | assumption | omega | (have k1 := hq4 (by omega); omega) | (have k1 := hp.2 ((p.length : Int) - 1).toNat (by omega); omega))) rfl ?_
          refine k_op0 (d := 9) (b := 409) (j' := 3) rfl rfl rfl rfl (.plain rfl) (T_assign rfl rfl) rfl ?_
          refine k_done rfl ?_
          refine blockK_n ?_
          refine thenK_n ?_
          refine W_seqK (b' := 473) rfl rfl ?_
          refine k_op0 (d := 35) (b := 425) (j' := 1) rfl rfl rfl rfl (.plain rfl) (T_move rfl rfl) rfl ?_
          refine k_op0 (d := 36) (b := 441) (j' := 2) rfl rfl rfl rfl (.plain rfl) (T_add64 rfl rfl rfl (by first | assumption | omega | (have k1 := hq4 (by omega); omega) | (have k1 := hp.2 ((p.length : Int) - 1).toNat (by omega); omega))) rfl ?_
          refine k_op0 (d := 12) (b := 457) (j' := 3) rfl rfl rfl rfl (.plain rfl) (T_assign rfl rfl) rfl ?_
          refine k_done rfl ?_
          refine thenK_n ?_
          refine ⟨i + 1, by (try dsimp only); exact ⟨by omega, by omega, fun m hm => ins_step (k := j) (i := i) (by omega) (by unfold blk; omega) (by unfold blk; exact h5) hI.2.2 m hm⟩, by (try dsimp only); omega, ?_⟩
          exact ⟨[(5, 5), (6, 6), (7, 7), (8, 8)], .same rfl rfl (.same rfl rfl (.same rfl rfl (.same rfl rfl (.eq rfl (.eq rfl (.same rfl rfl (.eq rfl (.nil) (by first | rfl | (congr 1; omega) | simp))) (by first | rfl | (congr 1; omega) | simp)) (by first | rfl | (congr 1; omega) | simp))))), .fzE rfl (.fzE rfl (.fzE rfl (.fzE rfl (.box (by first | rfl | (congr 1; omega) | simp) (.box (by first | rfl | (congr 1; omega) | simp) (.box (by first | rfl | (congr 1; omega) | simp) (.fzE rfl (.nil) (by first | rfl | (congr 1; omega) | simp))))) (by first | rfl | (congr 1; omega) | simp)) (by first | rfl | (congr 1; omega) | simp)) (by first | rfl | (congr 1; omega) | simp)) (by first | rfl | (congr 1; omega) | simp), rfl⟩
    · have h2 := g2; (try simp only [cmpB, decide_eq_true_eq, decide_eq_false_iff_not, beq_iff_eq, beq_eq_false_iff_ne, bne_iff_ne, ne_eq, bne_eq_false_iff_eq, Bool.not_eq_true', Bool.not_eq_false', Int.not_lt, Int.not_le] at h2)
      refine W_exit ?_
      refine thenK_e ?_
      refine thenK_e ?_
      refine blockK_hit ?_
      refine thenK_n ?_
      refine W_seq ?_
      refine W_anyK (b' := 409) rfl rfl rfl ?_
      refine k_op0 (d := 57) (b := 89) (j' := 1) rfl rfl rfl rfl (.plain rfl) (T_move rfl rfl) rfl ?_
      refine k_op0 (d := 58) (b := 105) (j' := 2) rfl rfl rfl rfl (.plain rfl) (T_add64 rfl rfl rfl (by first | assumption | omega | (have k1 := hq4 (by omega); omega) | (have k1 := hp.2 ((p.length : Int) - 1).toNat (by omega); omega))) rfl ?_
      refine k_op0 (d := 59) (b := 121) (j' := 3) rfl rfl rfl rfl (.plain rfl) (T_move rfl rfl) rfl ?_
      refine k_op0 (d := 60) (b := 137) (j' := 4) rfl rfl rfl rfl (.plain rfl) (T_len D rfl rfl rfl rfl rfl rfl) rfl ?_
      refine k_op0 (d := 61) (b := 153) (j' := 5) rfl rfl rfl rfl (.plain rfl) (T_cmp rfl rfl rfl rfl) rfl ?_
      refine k_op0 (d := 62) (b := 169) (j' := 6) rfl rfl rfl rfl (.plain rfl) (T_move rfl rfl) rfl ?_
      refine k_split (d := 62) rfl (fun g6 => ?_) (fun g6 => ?_)
      · have h6 := g6; (try simp only [cmpB, decide_eq_true_eq, decide_eq_false_iff_not, beq_iff_eq, beq_eq_false_iff_ne, bne_iff_ne, ne_eq, bne_eq_false_iff_eq, Bool.not_eq_true', Bool.not_eq_false', Int.not_lt, Int.not_le] at h6)
        refine k_op0 (d := 63) (b := 185) (j' := 7) rfl rfl rfl rfl (g_tt rfl rfl rfl g6) (T_fa D (m := 1) rfl rfl rfl rfl rfl rfl) rfl ?_
        refine k_op0 (d := 64) (b := 201) (j' := 8) rfl rfl rfl rfl (g_tt rfl rfl rfl g6) (T_load_b D rfl rfl rfl rfl rfl rfl) rfl ?_
        refine k_op0 (d := 65) (b := 217) (j' := 9) rfl rfl rfl rfl (g_tt rfl rfl rfl g6) (T_cmp rfl rfl rfl rfl) rfl ?_
        refine k_op0 (d := 66) (b := 233) (j' := 10) rfl rfl rfl rfl (g_tt rfl rfl rfl g6) (T_move rfl rfl) rfl ?_
        refine k_split (d := 66) rfl (fun g7 => ?_) (fun g7 => ?_)
        · have h7 := g7; (try simp only [cmpB, decide_eq_true_eq, decide_eq_false_iff_not, beq_iff_eq, beq_eq_false_iff_ne, bne_iff_ne, ne_eq, bne_eq_false_iff_eq, Bool.not_eq_true', Bool.not_eq_false', Int.not_lt, Int.not_le] at h7)
          refine k_no (d := 67) (j' := 11) rfl rfl rfl (g_ft rfl rfl rfl g7) ?_
          refine k_no (d := 68) (j' := 12) rfl rfl rfl (g_ft rfl rfl rfl g7) ?_
          refine k_no (d := 69) (j' := 13) rfl rfl rfl (g_ft rfl rfl rfl g7) ?_
          refine k_no (d := 70) (j' := 14) rfl rfl rfl (g_ft rfl rfl rfl g7) ?_
          refine k_no (d := 71) (j' := 15) rfl rfl rfl (g_ft rfl rfl rfl g7) ?_
          refine k_no (d := 72) (j' := 16) rfl rfl rfl (g_ft rfl rfl rfl g7) ?_
          refine k_no (d := 73) (j' := 17) rfl rfl rfl (g_ft rfl rfl rfl g7) ?_
          refine k_no (d := 74) (j' := 18) rfl rfl rfl (g_ft rfl rfl rfl g7) ?_
          refine k_op0 (d := 75) (b := 377) (j' := 19) rfl rfl rfl rfl (g_tt rfl rfl rfl g6) (T_pick_t rfl rfl rfl g7) rfl ?_
          refine k_op0 (d := 76) (b := 393) (j' := 20) rfl rfl rfl rfl (.plain rfl) (T_pick_t rfl rfl rfl g6) rfl ?_
          refine k_done rfl ?_
          refine ⟨rfl, ?_⟩
          refine thenK_n ?_
          refine W_cond rfl (fun g8 => ?_) (fun g8 => ?_)
          · skip
            refine W_seq ?_
            refine W_seqK (b' := 425) rfl rfl ?_
            refine k_op0 (d := 8) (b := 409) (j' := 1) rfl rfl rfl rfl (.plain rfl) (T_assign rfl rfl) rfl ?_
            refine k_done rfl ?_
            refine thenK_n ?_
            refine W_ret ?_
            refine blockK_r ?_
            refine thenK_r ?_
            refine thenK_r ?_
            refine blockK_r ?_
            refine thenK_r ?_
            -- end 2
            exact .mk [] (.inr rfl) (.tmp rfl (.nil)) (by simp only [resLV, LV.ren, LV.v.injEq, Value.bool.injEq]; exact (made_f (i := j) (by omega) (by unfold link blk; simp [-List.getD_eq_getElem?_getD, -Int.default_eq_zero, h7])).symm) (.nil) rfl
          · exact absurd (g8.symm.trans rfl) (by decide)
        · have h7 := g7; (try simp only [cmpB, decide_eq_true_eq, decide_eq_false_iff_not, beq_iff_eq, beq_eq_false_iff_ne, bne_iff_ne, ne_eq, bne_eq_false_iff_eq, Bool.not_eq_true', Bool.not_eq_false', Int.not_lt, Int.not_le] at h7)
          refine k_op0 (d := 67) (b := 249) (j' := 11) rfl rfl rfl rfl (g_ff rfl rfl rfl g7) (T_fa D (m := 3) rfl rfl rfl rfl rfl rfl) rfl ?_
          refine k_op0 (d := 68) (b := 265) (j' := 12) rfl rfl rfl rfl (g_ff rfl rfl rfl g7) (T_load_b D rfl rfl rfl rfl rfl rfl) rfl ?_
          refine k_op0 (d := 69) (b := 281) (j' := 13) rfl rfl rfl rfl (g_ff rfl rfl rfl g7) (T_move rfl rfl) rfl ?_
          refine k_op0 (d := 70) (b := 297) (j' := 14) rfl rfl rfl rfl (g_ff rfl rfl rfl g7) (T_move rfl rfl) rfl ?_
          refine k_op0 (d := 71) (b := 313) (j' := 15) rfl rfl rfl rfl (g_ff rfl rfl rfl g7) (T_add64 rfl rfl rfl (by first | assumption | omega | (have k1 := hq4 (by omega); omega) | (have k1 := hp.2 ((p.length : Int) - 1).toNat (by omega); omega))) rfl ?_
          first | refine k_op0 (d := 72) (b := 329) (j' := 16) rfl rfl rfl rfl (g_ff rfl rfl rfl g7) (T_indexAddr D rfl rfl rfl rfl rfl rfl rfl rfl (by first | assumption | omega | (have k1 := hq4 (by omega); omega) | (have k1 := hp.2 ((p.length : Int) - 1).toNat (by omega); omega))) rfl ?_ | refine k_op0 (d := 72) (b := 329) (j' := 16) rfl rfl rfl rfl (g_ff rfl rfl rfl g7) (T_indexAddrZ D rfl rfl rfl rfl rfl rfl rfl rfl (by first | assumption | omega | (have k1 := hq4 (by omega); omega) | (have k1 := hp.2 ((p.length : Int) - 1).toNat (by omega); omega)) (by first | assumption | omega | (have k1 := hq4 (by omega); omega) | (have k1 := hp.2 ((p.length : Int) - 1).toNat (by omega); omega))) rfl ?_
          refine k_op0 (d := 73) (b := 345) (j' := 17) rfl rfl rfl rfl (g_ff rfl rfl rfl g7) (T_ldE D (lv := .v _) (nn := 0) (upd := []) rfl rfl rfl rfl rfl (by first | assumption | omega | (have k1 := hq4 (by omega); omega) | (have k1 := hp.2 ((p.length : Int) - 1).toNat (by omega); omega)) rfl rfl rfl rfl) rfl ?_
          refine k_op0 (d := 74) (b := 361) (j' := 18) rfl rfl rfl rfl (g_ff rfl rfl rfl g7) (T_cmp rfl rfl rfl rfl) rfl ?_
          refine k_op0 (d := 75) (b := 377) (j' := 19) rfl rfl rfl rfl (g_tt rfl rfl rfl g6) (T_pick_f rfl rfl rfl g7) rfl ?_
          refine k_op0 (d := 76) (b := 393) (j' := 20) rfl rfl rfl rfl (.plain rfl) (T_pick_t rfl rfl rfl g6) rfl ?_
          refine k_done rfl ?_
          refine ⟨rfl, ?_⟩
          refine thenK_n ?_
          refine W_cond rfl (fun g9 => ?_) (fun g9 => ?_)
          · have h9 := g9; (try simp only [cmpB, decide_eq_true_eq, decide_eq_false_iff_not, beq_iff_eq, beq_eq_false_iff_ne, bne_iff_ne, ne_eq, bne_eq_false_iff_eq, Bool.not_eq_true', Bool.not_eq_false', Int.not_lt, Int.not_le] at h9)
            refine W_seq ?_
            refine W_seqK (b' := 425) rfl rfl ?_
            refine k_op0 (d := 8) (b := 409) (j' := 1) rfl rfl rfl rfl (.plain rfl) (T_assign rfl rfl) rfl ?_
            refine k_done rfl ?_
            refine thenK_n ?_
            refine W_ret ?_
            refine blockK_r ?_
            refine thenK_r ?_
            refine thenK_r ?_
            refine blockK_r ?_
            refine thenK_r ?_
            -- end 3
            exact .mk [] (.inr rfl) (.tmp rfl (.nil)) (by simp only [resLV, LV.ren, LV.v.injEq, Value.bool.injEq]; have e : ((j : Int) + 1).toNat = j + 1 := (by omega); rw [e] at h9; exact (made_f (i := j) (by omega) (by unfold link blk; simp [-List.getD_eq_getElem?_getD, -Int.default_eq_zero, h9])).symm) (.nil) rfl
          · have h9 := g9; (try simp only [cmpB, decide_eq_true_eq, decide_eq_false_iff_not, beq_iff_eq, beq_eq_false_iff_ne, bne_iff_ne, ne_eq, bne_eq_false_iff_eq, Bool.not_eq_true', Bool.not_eq_false', Int.not_lt, Int.not_le] at h9)
            refine W_skip ?_
            refine blockK_n ?_
            refine thenK_n ?_
            refine W_seqK (b' := 457) rfl rfl ?_
            refine k_op0 (d := 20) (b := 409) (j' := 1) rfl rfl rfl rfl (.plain rfl) (T_move rfl rfl) rfl ?_
            refine k_op0 (d := 21) (b := 425) (j' := 2) rfl rfl rfl rfl (.plain rfl) (T_add64 rfl rfl rfl (by first | assumption | omega | (have k1 := hq4 (by omega); omega) | (have k1 := hp.2 ((p.length : Int) - 1).toNat (by omega); omega))) rfl ?_
            refine k_op0 (d := 10) (b := 441) (j' := 3) rfl rfl rfl rfl (.plain rfl) (T_assign rfl rfl) rfl ?_
            refine k_done rfl ?_
            refine thenK_n ?_
            have hq5 := hq3 (by omega)
            have hq6 : (instrs f (p.take j)).length + i = (instrs f (p.take (j + 1))).length := by omega
            refine ⟨j + 1, by (try dsimp only); exact ⟨by omega, by omega, fun m hm => hI.2.2 m (by omega), fun i1 h1 h2 => by rcases Nat.lt_or_ge i1 j with h | h; exact hJ.2.2.2 i1 h h2; rw [show i1 = j by omega] at h2 ⊢; first | omega | (unfold link blk; simp [-List.getD_eq_getElem?_getD, -Int.default_eq_zero, *])⟩, by (try dsimp only); omega, ?_⟩
            exact ⟨[(5, 5), (6, 6)], .same rfl rfl (.same rfl rfl (.same rfl rfl (.same rfl rfl (.eq rfl (.eq rfl (.nil) (by first | rfl | (congr 1; omega) | simp)) (by first | rfl | (congr 1; omega) | simp))))), .fzE rfl (.fzE rfl (.fzE rfl (.fzE rfl (.box (by first | rfl | (congr 1; omega) | simp) (.box (by first | rfl | (congr 1; omega) | simp) (.nil))) (by first | rfl | (congr 1; omega) | simp)) (by first | rfl | (congr 1; omega) | simp)) (by first | rfl | (congr 1; omega) | simp)) (by first | rfl | (congr 1; omega) | simp), rfl⟩
      · have h6 := g6; (try simp only [cmpB, decide_eq_true_eq, decide_eq_false_iff_not, beq_iff_eq, beq_eq_false_iff_ne, bne_iff_ne, ne_eq, bne_eq_false_iff_eq, Bool.not_eq_true', Bool.not_eq_false', Int.not_lt, Int.not_le] at h6)
        refine k_no (d := 63) (j' := 7) rfl rfl rfl (g_tf rfl rfl rfl g6) ?_
        refine k_no (d := 64) (j' := 8) rfl rfl rfl (g_tf rfl rfl rfl g6) ?_
        refine k_no (d := 65) (j' := 9) rfl rfl rfl (g_tf rfl rfl rfl g6) ?_
        refine k_no (d := 66) (j' := 10) rfl rfl rfl (g_tf rfl rfl rfl g6) ?_
        refine k_no (d := 67) (j' := 11) rfl rfl rfl (.und rfl rfl rfl) ?_
        refine k_no (d := 68) (j' := 12) rfl rfl rfl (.und rfl rfl rfl) ?_
        refine k_no (d := 69) (j' := 13) rfl rfl rfl (.und rfl rfl rfl) ?_
        refine k_no (d := 70) (j' := 14) rfl rfl rfl (.und rfl rfl rfl) ?_
        refine k_no (d := 71) (j' := 15) rfl rfl rfl (.und rfl rfl rfl) ?_
        refine k_no (d := 72) (j' := 16) rfl rfl rfl (.und rfl rfl rfl) ?_
        refine k_no (d := 73) (j' := 17) rfl rfl rfl (.und rfl rfl rfl) ?_
        refine k_no (d := 74) (j' := 18) rfl rfl rfl (.und rfl rfl rfl) ?_
        refine k_no (d := 75) (j' := 19) rfl rfl rfl (g_tf rfl rfl rfl g6) ?_
        refine k_op0 (d := 76) (b := 393) (j' := 20) rfl rfl rfl rfl (.plain rfl) (T_pick_f rfl rfl rfl g6) rfl ?_
        refine k_done rfl ?_
        refine ⟨rfl, ?_⟩
        refine thenK_n ?_
        refine W_cond rfl (fun g10 => ?_) (fun g10 => ?_)
        · exact absurd (g10.symm.trans rfl) (by decide)
        · skip
          refine W_skip ?_
          refine blockK_n ?_
          refine thenK_n ?_
          refine W_seqK (b' := 457) rfl rfl ?_
          refine k_op0 (d := 20) (b := 409) (j' := 1) rfl rfl rfl rfl (.plain rfl) (T_move rfl rfl) rfl ?_
          refine k_op0 (d := 21) (b := 425) (j' := 2) rfl rfl rfl rfl (.plain rfl) (T_add64 rfl rfl rfl (by first | assumption | omega | (have k1 := hq4 (by omega); omega) | (have k1 := hp.2 ((p.length : Int) - 1).toNat (by omega); omega))) rfl ?_
          refine k_op0 (d := 10) (b := 441) (j' := 3) rfl rfl rfl rfl (.plain rfl) (T_assign rfl rfl) rfl ?_
          refine k_done rfl ?_
          refine thenK_n ?_
          have hq5 := hq3 (by omega)
          have hq6 : (instrs f (p.take j)).length + i = (instrs f (p.take (j + 1))).length := by omega
          refine ⟨j + 1, by (try dsimp only); exact ⟨by omega, by omega, fun m hm => hI.2.2 m (by omega), fun i1 h1 h2 => by rcases Nat.lt_or_ge i1 j with h | h; exact hJ.2.2.2 i1 h h2; rw [show i1 = j by omega] at h2 ⊢; first | omega | (unfold link blk; simp [-List.getD_eq_getElem?_getD, -Int.default_eq_zero, *])⟩, by (try dsimp only); omega, ?_⟩
          exact ⟨[(5, 5), (6, 6)], .same rfl rfl (.same rfl rfl (.same rfl rfl (.same rfl rfl (.eq rfl (.eq rfl (.nil) (by first | rfl | (congr 1; omega) | simp)) (by first | rfl | (congr 1; omega) | simp))))), .fzE rfl (.fzE rfl (.fzE rfl (.fzE rfl (.box (by first | rfl | (congr 1; omega) | simp) (.box (by first | rfl | (congr 1; omega) | simp) (.nil))) (by first | rfl | (congr 1; omega) | simp)) (by first | rfl | (congr 1; omega) | simp)) (by first | rfl | (congr 1; omega) | simp)) (by first | rfl | (congr 1; omega) | simp), rfl⟩
  · have h1 := g1; (try simp only [cmpB, decide_eq_true_eq, decide_eq_false_iff_not, beq_iff_eq, beq_eq_false_iff_ne, bne_iff_ne, ne_eq, bne_eq_false_iff_eq, Bool.not_eq_true', Bool.not_eq_false', Int.not_lt, Int.not_le] at h1)
    refine W_exit ?_
    refine thenK_e ?_
    refine thenK_e ?_
    refine blockK_hit ?_
    refine thenK_n ?_
    refine W_seq ?_
    refine W_anyK (b' := 263) rfl rfl rfl ?_
    refine k_op0 (d := 77) (b := 71) (j' := 1) rfl rfl rfl rfl (.plain rfl) (T_fa D (m := 1) rfl rfl rfl rfl rfl rfl) rfl ?_
    refine k_op0 (d := 78) (b := 87) (j' := 2) rfl rfl rfl rfl (.plain rfl) (T_load_b D rfl rfl rfl rfl rfl rfl) rfl ?_
    refine k_op0 (d := 79) (b := 103) (j' := 3) rfl rfl rfl rfl (.plain rfl) (T_move rfl rfl) rfl ?_
    refine k_op0 (d := 80) (b := 119) (j' := 4) rfl rfl rfl rfl (.plain rfl) (T_move rfl rfl) rfl ?_
    refine k_op0 (d := 81) (b := 135) (j' := 5) rfl rfl rfl rfl (.plain rfl) (T_len D rfl rfl rfl rfl rfl rfl) rfl ?_
    refine k_op0 (d := 82) (b := 151) (j' := 6) rfl rfl rfl rfl (.plain rfl) (T_sub64 rfl rfl rfl (by first | assumption | omega | (have k1 := hq4 (by omega); omega) | (have k1 := hp.2 ((p.length : Int) - 1).toNat (by omega); omega))) rfl ?_
    first | refine k_op0 (d := 83) (b := 167) (j' := 7) rfl rfl rfl rfl (.plain rfl) (T_indexAddr D rfl rfl rfl rfl rfl rfl rfl rfl (by first | assumption | omega | (have k1 := hq4 (by omega); omega) | (have k1 := hp.2 ((p.length : Int) - 1).toNat (by omega); omega))) rfl ?_ | refine k_op0 (d := 83) (b := 167) (j' := 7) rfl rfl rfl rfl (.plain rfl) (T_indexAddrZ D rfl rfl rfl rfl rfl rfl rfl rfl (by first | assumption | omega | (have k1 := hq4 (by omega); omega) | (have k1 := hp.2 ((p.length : Int) - 1).toNat (by omega); omega)) (by first | assumption | omega | (have k1 := hq4 (by omega); omega) | (have k1 := hp.2 ((p.length : Int) - 1).toNat (by omega); omega))) rfl ?_
    refine k_op0 (d := 84) (b := 183) (j' := 8) rfl rfl rfl rfl (.plain rfl) (T_ldE D (lv := .v _) (nn := 0) (upd := []) rfl rfl rfl rfl rfl (by first | assumption | omega | (have k1 := hq4 (by omega); omega) | (have k1 := hp.2 ((p.length : Int) - 1).toNat (by omega); omega)) rfl rfl rfl rfl) rfl ?_
    first | refine k_op0 (d := 85) (b := 199) (j' := 9) rfl rfl rfl rfl (.plain rfl) (T_indexAddr D rfl rfl rfl rfl rfl rfl rfl rfl (by first | assumption | omega | (have k1 := hq4 (by omega); omega) | (have k1 := hp.2 ((p.length : Int) - 1).toNat (by omega); omega))) rfl ?_ | refine k_op0 (d := 85) (b := 199) (j' := 9) rfl rfl rfl rfl (.plain rfl) (T_indexAddrZ D rfl rfl rfl rfl rfl rfl rfl rfl (by first | assumption | omega | (have k1 := hq4 (by omega); omega) | (have k1 := hp.2 ((p.length : Int) - 1).toNat (by omega); omega)) (by first | assumption | omega | (have k1 := hq4 (by omega); omega) | (have k1 := hp.2 ((p.length : Int) - 1).toNat (by omega); omega))) rfl ?_
    refine k_op1 (d := 86) (b := 215) (j' := 10) rfl rfl rfl rfl (.plain rfl) (T_ldEA D (l := [.r 215, .v _, .v _, .v _, .v _]) (nn := 1) (upd := [(215, .fz 8 _)]) rfl rfl rfl rfl rfl (by first | assumption | omega | (have k1 := hq4 (by omega); omega) | (have k1 := hp.2 ((p.length : Int) - 1).toNat (by omega); omega)) rfl rfl rfl rfl rfl) rfl ?_
    refine k_opn (d := 13) (b := 231) (j' := 11) rfl rfl rfl rfl (.plain rfl) (T_nilbox [(70, 8)] (T_alloc D rfl rfl rfl) rfl (.cons (.nil rfl) <| .cons (.same _) <| .cons (.same _) <| .cons (.same _) <| .cons (.same _) <| .nil) (upd' := [(231, .box 72 [.r 232, .v (.int .i64 0), .v (.int .i64 0), .v (.int .i64 0), .v (.int .i64 0)]), (232, .row 70 8 (List.map eTac ([] : List (GTac))))]) (nn' := 2) rfl rfl) rfl ?_
    refine k_st1 (b := 247) (j' := 12) rfl rfl rfl rfl (.plain rfl) (T_stB D (cs' := [_, _, _, _, _]) rfl rfl rfl rfl flat_agg rfl rfl (Nat.le_of_ble_eq_true rfl) rfl) rfl ?_
    refine k_done rfl ?_
    refine ⟨rfl, ?_⟩
    refine thenK_n ?_
    refine W_seq ?_
    refine W_seq ?_
    refine W_seqK (b' := 567) rfl rfl ?_
    refine k_op0 (d := 87) (b := 263) (j' := 1) rfl rfl rfl rfl (.plain rfl) (T_move rfl rfl) rfl ?_
    refine k_op0 (d := 88) (b := 279) (j' := 2) rfl rfl rfl rfl (.plain rfl) (T_fa D (m := 0) rfl rfl rfl rfl rfl rfl) rfl ?_
    refine k_op0 (d := 89) (b := 295) (j' := 3) rfl rfl rfl rfl (.plain rfl) (T_load_b D rfl rfl rfl rfl rfl rfl) rfl ?_
    refine k_op0 (d := 90) (b := 311) (j' := 4) rfl rfl rfl rfl (.plain rfl) (T_len D rfl rfl rfl rfl rfl rfl) rfl ?_
    refine k_op0 (d := 91) (b := 327) (j' := 5) rfl rfl rfl rfl (.plain rfl) (T_cmp rfl rfl rfl rfl) rfl ?_
    refine k_op0 (d := 92) (b := 343) (j' := 6) rfl rfl rfl rfl (.plain rfl) (T_move rfl rfl) rfl ?_
    refine k_split (d := 92) rfl (fun g11 => ?_) (fun g11 => ?_)
    · have h11 := g11; (try simp only [cmpB, decide_eq_true_eq, decide_eq_false_iff_not, beq_iff_eq, beq_eq_false_iff_ne, bne_iff_ne, ne_eq, bne_eq_false_iff_eq, Bool.not_eq_true', Bool.not_eq_false', Int.not_lt, Int.not_le] at h11)
      refine k_no (d := 93) (j' := 7) rfl rfl rfl (g_ft rfl rfl rfl g11) ?_
      refine k_no (d := 94) (j' := 8) rfl rfl rfl (g_ft rfl rfl rfl g11) ?_
      refine k_no (d := 95) (j' := 9) rfl rfl rfl (g_ft rfl rfl rfl g11) ?_
      refine k_no (d := 96) (j' := 10) rfl rfl rfl (g_ft rfl rfl rfl g11) ?_
      refine k_no (d := 97) (j' := 11) rfl rfl rfl (g_ft rfl rfl rfl g11) ?_
      refine k_op0 (d := 98) (b := 439) (j' := 12) rfl rfl rfl rfl (.plain rfl) (T_pick_t rfl rfl rfl g11) rfl ?_
      refine k_op0 (d := 99) (b := 455) (j' := 13) rfl rfl rfl rfl (.plain rfl) (T_move rfl rfl) rfl ?_
      refine k_no (d := 100) (j' := 14) rfl rfl rfl (g_ft rfl rfl rfl rfl) ?_
      refine k_no (d := 101) (j' := 15) rfl rfl rfl (g_ft rfl rfl rfl rfl) ?_
      refine k_no (d := 102) (j' := 16) rfl rfl rfl (g_ft rfl rfl rfl rfl) ?_
      refine k_no (d := 103) (j' := 17) rfl rfl rfl (g_ft rfl rfl rfl rfl) ?_
      refine k_no (d := 104) (j' := 18) rfl rfl rfl (g_ft rfl rfl rfl rfl) ?_
      refine k_op0 (d := 105) (b := 551) (j' := 19) rfl rfl rfl rfl (.plain rfl) (T_pick_t rfl rfl rfl rfl) rfl ?_
      refine k_done rfl ?_
      refine thenK_n ?_
      refine W_cond rfl (fun g12 => ?_) (fun g12 => ?_)
      · skip
        refine W_seq ?_
        refine W_seqK (b' := 583) rfl rfl ?_
        refine k_op0 (d := 8) (b := 567) (j' := 1) rfl rfl rfl rfl (.plain rfl) (T_assign rfl rfl) rfl ?_
        refine k_done rfl ?_
        refine thenK_n ?_
        refine W_ret ?_
        refine thenK_r ?_
        -- end 4
        exact .mk [] (.inr rfl) (.tmp rfl (.nil)) (by simp only [resLV, LV.ren, LV.v.injEq, Value.bool.injEq]; exact (made_ins (fun e => h11 (by rw [List.take_of_length_le (by omega), e]))).symm) (.nil) rfl
      · exact absurd (g12.symm.trans rfl) (by decide)
    · have h11 := g11; (try simp only [cmpB, decide_eq_true_eq, decide_eq_false_iff_not, beq_iff_eq, beq_eq_false_iff_ne, bne_iff_ne, ne_eq, bne_eq_false_iff_eq, Bool.not_eq_true', Bool.not_eq_false', Int.not_lt, Int.not_le] at h11)
      refine k_op0 (d := 93) (b := 359) (j' := 7) rfl rfl rfl rfl (g_ff rfl rfl rfl g11) (T_fa D (m := 1) rfl rfl rfl rfl rfl rfl) rfl ?_
      refine k_op0 (d := 94) (b := 375) (j' := 8) rfl rfl rfl rfl (g_ff rfl rfl rfl g11) (T_load_b D rfl rfl rfl rfl rfl rfl) rfl ?_
      refine k_op0 (d := 95) (b := 391) (j' := 9) rfl rfl rfl rfl (g_ff rfl rfl rfl g11) (T_fa D (m := 1) rfl rfl rfl rfl rfl rfl) rfl ?_
      refine k_op0 (d := 96) (b := 407) (j' := 10) rfl rfl rfl rfl (g_ff rfl rfl rfl g11) (T_load_b D rfl rfl rfl rfl rfl rfl) rfl ?_
      refine k_op0 (d := 97) (b := 423) (j' := 11) rfl rfl rfl rfl (g_ff rfl rfl rfl g11) (T_cmp rfl rfl rfl rfl) rfl ?_
      refine k_op0 (d := 98) (b := 439) (j' := 12) rfl rfl rfl rfl (.plain rfl) (T_pick_f rfl rfl rfl g11) rfl ?_
      refine k_op0 (d := 99) (b := 455) (j' := 13) rfl rfl rfl rfl (.plain rfl) (T_move rfl rfl) rfl ?_
      refine k_split (d := 99) rfl (fun g13 => ?_) (fun g13 => ?_)
      · have h13 := g13; (try simp only [cmpB, decide_eq_true_eq, decide_eq_false_iff_not, beq_iff_eq, beq_eq_false_iff_ne, bne_iff_ne, ne_eq, bne_eq_false_iff_eq, Bool.not_eq_true', Bool.not_eq_false', Int.not_lt, Int.not_le] at h13)
        refine k_no (d := 100) (j' := 14) rfl rfl rfl (g_ft rfl rfl rfl g13) ?_
        refine k_no (d := 101) (j' := 15) rfl rfl rfl (g_ft rfl rfl rfl g13) ?_
        refine k_no (d := 102) (j' := 16) rfl rfl rfl (g_ft rfl rfl rfl g13) ?_
        refine k_no (d := 103) (j' := 17) rfl rfl rfl (g_ft rfl rfl rfl g13) ?_
        refine k_no (d := 104) (j' := 18) rfl rfl rfl (g_ft rfl rfl rfl g13) ?_
        refine k_op0 (d := 105) (b := 551) (j' := 19) rfl rfl rfl rfl (.plain rfl) (T_pick_t rfl rfl rfl g13) rfl ?_
        refine k_done rfl ?_
        refine thenK_n ?_
        refine W_cond rfl (fun g14 => ?_) (fun g14 => ?_)
        · skip
          refine W_seq ?_
          refine W_seqK (b' := 583) rfl rfl ?_
          refine k_op0 (d := 8) (b := 567) (j' := 1) rfl rfl rfl rfl (.plain rfl) (T_assign rfl rfl) rfl ?_
          refine k_done rfl ?_
          refine thenK_n ?_
          refine W_ret ?_
          refine thenK_r ?_
          -- end 5
          exact .mk [] (.inr rfl) (.tmp rfl (.nil)) (by simp only [resLV, LV.ren, LV.v.injEq, Value.bool.injEq]; have et : p.take j = p := List.take_of_length_le (by omega); rw [et] at h11 hJ; have e1 : b.ins = instrs f p := ext_getD (by omega) (fun m hm => hJ.2.2.1 m (by omega)); have hc : chainB f p = true := range_all_true (fun i hi => hJ.2.2.2 i (by omega) (by omega)); first | (exfalso; omega) | (rw [made_tail hc e1 h13 h15]; clear hJ hps hb hp hc et h11 h13 h15 e1; simp only [blk, lastOf, cmpB]; simp [-List.getD_eq_getElem?_getD, -Int.default_eq_zero, -Int.pred_toNat, *]) | exact (made_fin h13).symm | exact (made_v h15).symm) (.nil) rfl
        · exact absurd (g14.symm.trans rfl) (by decide)
      · have h13 := g13; (try simp only [cmpB, decide_eq_true_eq, decide_eq_false_iff_not, beq_iff_eq, beq_eq_false_iff_ne, bne_iff_ne, ne_eq, bne_eq_false_iff_eq, Bool.not_eq_true', Bool.not_eq_false', Int.not_lt, Int.not_le] at h13)
        refine k_op0 (d := 100) (b := 471) (j' := 14) rfl rfl rfl rfl (g_ff rfl rfl rfl g13) (T_fa D (m := 2) rfl rfl rfl rfl rfl rfl) rfl ?_
        refine k_op0 (d := 101) (b := 487) (j' := 15) rfl rfl rfl rfl (g_ff rfl rfl rfl g13) (T_load_b D rfl rfl rfl rfl rfl rfl) rfl ?_
        refine k_op0 (d := 102) (b := 503) (j' := 16) rfl rfl rfl rfl (g_ff rfl rfl rfl g13) (T_fa D (m := 2) rfl rfl rfl rfl rfl rfl) rfl ?_
        refine k_op0 (d := 103) (b := 519) (j' := 17) rfl rfl rfl rfl (g_ff rfl rfl rfl g13) (T_load_b D rfl rfl rfl rfl rfl rfl) rfl ?_
        refine k_op0 (d := 104) (b := 535) (j' := 18) rfl rfl rfl rfl (g_ff rfl rfl rfl g13) (T_cmp rfl rfl rfl rfl) rfl ?_
        refine k_op0 (d := 105) (b := 551) (j' := 19) rfl rfl rfl rfl (.plain rfl) (T_pick_f rfl rfl rfl g13) rfl ?_
        refine k_done rfl ?_
        refine thenK_n ?_
        refine W_cond rfl (fun g15 => ?_) (fun g15 => ?_)
        · have h15 := g15; (try simp only [cmpB, decide_eq_true_eq, decide_eq_false_iff_not, beq_iff_eq, beq_eq_false_iff_ne, bne_iff_ne, ne_eq, bne_eq_false_iff_eq, Bool.not_eq_true', Bool.not_eq_false', Int.not_lt, Int.not_le] at h15)
          refine W_seq ?_
          refine W_seqK (b' := 583) rfl rfl ?_
          refine k_op0 (d := 8) (b := 567) (j' := 1) rfl rfl rfl rfl (.plain rfl) (T_assign rfl rfl) rfl ?_
          refine k_done rfl ?_
          refine thenK_n ?_
          refine W_ret ?_
          refine thenK_r ?_
          -- end 6
          exact .mk [] (.inr rfl) (.tmp rfl (.nil)) (by simp only [resLV, LV.ren, LV.v.injEq, Value.bool.injEq]; have et : p.take j = p := List.take_of_length_le (by omega); rw [et] at h11 hJ; have e1 : b.ins = instrs f p := ext_getD (by omega) (fun m hm => hJ.2.2.1 m (by omega)); have hc : chainB f p = true := range_all_true (fun i hi => hJ.2.2.2 i (by omega) (by omega)); first | (exfalso; omega) | (rw [made_tail hc e1 h13 h15]; clear hJ hps hb hp hc et h11 h13 h15 e1; simp only [blk, lastOf, cmpB]; simp [-List.getD_eq_getElem?_getD, -Int.default_eq_zero, -Int.pred_toNat, *]) | exact (made_fin h13).symm | exact (made_v h15).symm) (.nil) rfl
        · have h15 := g15; (try simp only [cmpB, decide_eq_true_eq, decide_eq_false_iff_not, beq_iff_eq, beq_eq_false_iff_ne, bne_iff_ne, ne_eq, bne_eq_false_iff_eq, Bool.not_eq_true', Bool.not_eq_false', Int.not_lt, Int.not_le] at h15)
          refine W_skip ?_
          refine thenK_n ?_
          refine W_seq ?_
          refine W_seqK (b' := 663) rfl rfl ?_
          refine k_op0 (d := 106) (b := 567) (j' := 1) rfl rfl rfl rfl (.plain rfl) (T_fa D (m := 3) rfl rfl rfl rfl rfl rfl) rfl ?_
          refine k_op0 (d := 107) (b := 583) (j' := 2) rfl rfl rfl rfl (.plain rfl) (T_load_b D rfl rfl rfl rfl rfl rfl) rfl ?_
          refine k_op0 (d := 108) (b := 599) (j' := 3) rfl rfl rfl rfl (.plain rfl) (T_fa D (m := 3) rfl rfl rfl rfl rfl rfl) rfl ?_
          refine k_op0 (d := 109) (b := 615) (j' := 4) rfl rfl rfl rfl (.plain rfl) (T_load_b D rfl rfl rfl rfl rfl rfl) rfl ?_
          refine k_op0 (d := 110) (b := 631) (j' := 5) rfl rfl rfl rfl (.plain rfl) (T_cmp rfl rfl rfl rfl) rfl ?_
          refine k_op0 (d := 14) (b := 647) (j' := 6) rfl rfl rfl rfl (.plain rfl) (T_assign rfl rfl) rfl ?_
          refine k_done rfl ?_
          refine thenK_n ?_
          refine W_seq ?_
          refine W_seq ?_
          refine W_seqK (b' := 791) rfl rfl ?_
          refine k_op0 (d := 111) (b := 663) (j' := 1) rfl rfl rfl rfl (.plain rfl) (T_fa D (m := 1) rfl rfl rfl rfl rfl rfl) rfl ?_
          refine k_op0 (d := 112) (b := 679) (j' := 2) rfl rfl rfl rfl (.plain rfl) (T_load_b D rfl rfl rfl rfl rfl rfl) rfl ?_
          refine k_op0 (d := 113) (b := 695) (j' := 3) rfl rfl rfl rfl (.plain rfl) (T_cmp rfl rfl rfl rfl) rfl ?_
          refine k_op0 (d := 114) (b := 711) (j' := 4) rfl rfl rfl rfl (.plain rfl) (T_move rfl rfl) rfl ?_
          refine k_split (d := 114) rfl (fun g16 => ?_) (fun g16 => ?_)
          · have h16 := g16; (try simp only [cmpB, decide_eq_true_eq, decide_eq_false_iff_not, beq_iff_eq, beq_eq_false_iff_ne, bne_iff_ne, ne_eq, bne_eq_false_iff_eq, Bool.not_eq_true', Bool.not_eq_false', Int.not_lt, Int.not_le] at h16)
            refine k_no (d := 115) (j' := 5) rfl rfl rfl (g_ft rfl rfl rfl g16) ?_
            refine k_no (d := 116) (j' := 6) rfl rfl rfl (g_ft rfl rfl rfl g16) ?_
            refine k_no (d := 117) (j' := 7) rfl rfl rfl (g_ft rfl rfl rfl g16) ?_
            refine k_op0 (d := 118) (b := 775) (j' := 8) rfl rfl rfl rfl (.plain rfl) (T_pick_t rfl rfl rfl g16) rfl ?_
            refine k_done rfl ?_
            refine thenK_n ?_
            refine W_cond rfl (fun g17 => ?_) (fun g17 => ?_)
            · skip
              refine W_seqK (b' := 903) rfl rfl ?_
              refine k_op0 (d := 119) (b := 791) (j' := 1) rfl rfl rfl rfl (.plain rfl) (T_move rfl rfl) rfl ?_
              refine k_op0 (d := 120) (b := 807) (j' := 2) rfl rfl rfl rfl (.plain rfl) (T_fa D (m := 3) rfl rfl rfl rfl rfl rfl) rfl ?_
              refine k_op0 (d := 121) (b := 823) (j' := 3) rfl rfl rfl rfl (.plain rfl) (T_load_b D rfl rfl rfl rfl rfl rfl) rfl ?_
              refine k_op0 (d := 122) (b := 839) (j' := 4) rfl rfl rfl rfl (.plain rfl) (T_fa D (m := 3) rfl rfl rfl rfl rfl rfl) rfl ?_
              refine k_op0 (d := 123) (b := 855) (j' := 5) rfl rfl rfl rfl (.plain rfl) (T_load_b D rfl rfl rfl rfl rfl rfl) rfl ?_
              refine k_op0 (d := 124) (b := 871) (j' := 6) rfl rfl rfl rfl (.plain rfl) (T_callV (lvs := [_, _, _]) (L := [(1, 4)]) (leads_spec2 _ _ _ (fun k1 k2 => hps _ (getD_mem (by omega)))) body119 rfl rfl rfl rfl (.fz rfl (.nil)) rfl) rfl ?_
              refine k_op0 (d := 14) (b := 887) (j' := 7) rfl rfl rfl rfl (.plain rfl) (T_assign rfl rfl) rfl ?_
              refine k_done rfl ?_
              refine thenK_n ?_
              refine W_seq ?_
              refine W_seqK (b' := 999) rfl rfl ?_
              refine k_op0 (d := 125) (b := 903) (j' := 1) rfl rfl rfl rfl (.plain rfl) (T_fa D (m := 4) rfl rfl rfl rfl rfl rfl) rfl ?_
              refine k_op0 (d := 126) (b := 919) (j' := 2) rfl rfl rfl rfl (.plain rfl) (T_load_b D rfl rfl rfl rfl rfl rfl) rfl ?_
              refine k_op0 (d := 127) (b := 935) (j' := 3) rfl rfl rfl rfl (.plain rfl) (T_fa D (m := 4) rfl rfl rfl rfl rfl rfl) rfl ?_
              refine k_op0 (d := 128) (b := 951) (j' := 4) rfl rfl rfl rfl (.plain rfl) (T_load_b D rfl rfl rfl rfl rfl rfl) rfl ?_
              refine k_op0 (d := 129) (b := 967) (j' := 5) rfl rfl rfl rfl (.plain rfl) (T_cmp rfl rfl rfl rfl) rfl ?_
              refine k_op0 (d := 15) (b := 983) (j' := 6) rfl rfl rfl rfl (.plain rfl) (T_assign rfl rfl) rfl ?_
              refine k_done rfl ?_
              refine thenK_n ?_
              refine W_seq ?_
              refine W_seq ?_
              refine W_seqK (b' := 1047) rfl rfl ?_
              refine k_op0 (d := 130) (b := 999) (j' := 1) rfl rfl rfl rfl (.plain rfl) (T_fa D (m := 1) rfl rfl rfl rfl rfl rfl) rfl ?_
              refine k_op0 (d := 131) (b := 1015) (j' := 2) rfl rfl rfl rfl (.plain rfl) (T_load_b D rfl rfl rfl rfl rfl rfl) rfl ?_
              refine k_op0 (d := 132) (b := 1031) (j' := 3) rfl rfl rfl rfl (.plain rfl) (T_cmp rfl rfl rfl rfl) rfl ?_
              refine k_done rfl ?_
              refine thenK_n ?_
              refine W_cond rfl (fun g18 => ?_) (fun g18 => ?_)
              · have h18 := g18; (try simp only [cmpB, decide_eq_true_eq, decide_eq_false_iff_not, beq_iff_eq, beq_eq_false_iff_ne, bne_iff_ne, ne_eq, bne_eq_false_iff_eq, Bool.not_eq_true', Bool.not_eq_false', Int.not_lt, Int.not_le] at h18)
                refine W_seqK (b' := 1159) rfl rfl ?_
                refine k_op0 (d := 133) (b := 1047) (j' := 1) rfl rfl rfl rfl (.plain rfl) (T_move rfl rfl) rfl ?_
                refine k_op0 (d := 134) (b := 1063) (j' := 2) rfl rfl rfl rfl (.plain rfl) (T_fa D (m := 4) rfl rfl rfl rfl rfl rfl) rfl ?_
                refine k_op0 (d := 135) (b := 1079) (j' := 3) rfl rfl rfl rfl (.plain rfl) (T_load_b D rfl rfl rfl rfl rfl rfl) rfl ?_
                refine k_op0 (d := 136) (b := 1095) (j' := 4) rfl rfl rfl rfl (.plain rfl) (T_fa D (m := 4) rfl rfl rfl rfl rfl rfl) rfl ?_
                refine k_op0 (d := 137) (b := 1111) (j' := 5) rfl rfl rfl rfl (.plain rfl) (T_load_b D rfl rfl rfl rfl rfl rfl) rfl ?_
                refine k_op0 (d := 138) (b := 1127) (j' := 6) rfl rfl rfl rfl (.plain rfl) (T_callV (lvs := [_, _, _]) (L := [(1, 4)]) (leads_spec2 _ _ _ (fun k1 k2 => hps _ (getD_mem (by omega)))) body119 rfl rfl rfl rfl (.fz rfl (.nil)) rfl) rfl ?_
                refine k_op0 (d := 15) (b := 1143) (j' := 7) rfl rfl rfl rfl (.plain rfl) (T_assign rfl rfl) rfl ?_
                refine k_done rfl ?_
                refine thenK_n ?_
                refine W_seq ?_
                refine W_seqK (b' := 1239) rfl rfl ?_
                refine k_op0 (d := 139) (b := 1159) (j' := 1) rfl rfl rfl rfl (.plain rfl) (T_move rfl rfl) rfl ?_
                refine k_op0 (d := 140) (b := 1175) (j' := 2) rfl rfl rfl rfl (.plain rfl) (T_move rfl rfl) rfl ?_
                refine k_split (d := 140) rfl (fun g19 => ?_) (fun g19 => ?_)
                · have h19 := g19; (try simp only [cmpB, decide_eq_true_eq, decide_eq_false_iff_not, beq_iff_eq, beq_eq_false_iff_ne, bne_iff_ne, ne_eq, bne_eq_false_iff_eq, Bool.not_eq_true', Bool.not_eq_false', Int.not_lt, Int.not_le] at h19)
                  refine k_op0 (d := 141) (b := 1191) (j' := 3) rfl rfl rfl rfl (g_tt rfl rfl rfl g19) (T_move rfl rfl) rfl ?_
                  refine k_op0 (d := 142) (b := 1207) (j' := 4) rfl rfl rfl rfl (.plain rfl) (T_pick_t rfl rfl rfl g19) rfl ?_
                  refine k_op0 (d := 8) (b := 1223) (j' := 5) rfl rfl rfl rfl (.plain rfl) (T_assign rfl rfl) rfl ?_
                  refine k_done rfl ?_
                  refine thenK_n ?_
                  refine W_ret ?_
                  -- end 7
                  exact .mk [] (.inr rfl) (.tmp rfl (.nil)) (by simp only [resLV, LV.ren, LV.v.injEq, Value.bool.injEq]; have et : p.take j = p := List.take_of_length_le (by omega); rw [et] at h11 hJ; have e1 : b.ins = instrs f p := ext_getD (by omega) (fun m hm => hJ.2.2.1 m (by omega)); have hc : chainB f p = true := range_all_true (fun i hi => hJ.2.2.2 i (by omega) (by omega)); first | (exfalso; omega) | (rw [made_tail hc e1 h13 h15]; clear hJ hps hb hp hc et h11 h13 h15 e1; simp only [blk, lastOf, cmpB]; simp [-List.getD_eq_getElem?_getD, -Int.default_eq_zero, -Int.pred_toNat, *]) | exact (made_fin h13).symm | exact (made_v h15).symm) (.nil) rfl
                · have h19 := g19; (try simp only [cmpB, decide_eq_true_eq, decide_eq_false_iff_not, beq_iff_eq, beq_eq_false_iff_ne, bne_iff_ne, ne_eq, bne_eq_false_iff_eq, Bool.not_eq_true', Bool.not_eq_false', Int.not_lt, Int.not_le] at h19)
                  refine k_no (d := 141) (j' := 3) rfl rfl rfl (g_tf rfl rfl rfl g19) ?_
                  refine k_op0 (d := 142) (b := 1207) (j' := 4) rfl rfl rfl rfl (.plain rfl) (T_pick_f rfl rfl rfl g19) rfl ?_
                  refine k_op0 (d := 8) (b := 1223) (j' := 5) rfl rfl rfl rfl (.plain rfl) (T_assign rfl rfl) rfl ?_
                  refine k_done rfl ?_
                  refine thenK_n ?_
                  refine W_ret ?_
                  -- end 8
                  exact .mk [] (.inr rfl) (.tmp rfl (.nil)) (by simp only [resLV, LV.ren, LV.v.injEq, Value.bool.injEq]; have et : p.take j = p := List.take_of_length_le (by omega); rw [et] at h11 hJ; have e1 : b.ins = instrs f p := ext_getD (by omega) (fun m hm => hJ.2.2.1 m (by omega)); have hc : chainB f p = true := range_all_true (fun i hi => hJ.2.2.2 i (by omega) (by omega)); first | (exfalso; omega) | (rw [made_tail hc e1 h13 h15]; clear hJ hps hb hp hc et h11 h13 h15 e1; simp only [blk, lastOf, cmpB]; simp [-List.getD_eq_getElem?_getD, -Int.default_eq_zero, -Int.pred_toNat, *]) | exact (made_fin h13).symm | exact (made_v h15).symm) (.nil) rfl
              · have h18 := g18; (try simp only [cmpB, decide_eq_true_eq, decide_eq_false_iff_not, beq_iff_eq, beq_eq_false_iff_ne, bne_iff_ne, ne_eq, bne_eq_false_iff_eq, Bool.not_eq_true', Bool.not_eq_false', Int.not_lt, Int.not_le] at h18)
                refine W_skip ?_
                refine thenK_n ?_
                refine W_seq ?_
                refine W_seqK (b' := 1127) rfl rfl ?_
                refine k_op0 (d := 139) (b := 1047) (j' := 1) rfl rfl rfl rfl (.plain rfl) (T_move rfl rfl) rfl ?_
                refine k_op0 (d := 140) (b := 1063) (j' := 2) rfl rfl rfl rfl (.plain rfl) (T_move rfl rfl) rfl ?_
                refine k_split (d := 140) rfl (fun g20 => ?_) (fun g20 => ?_)
                · have h20 := g20; (try simp only [cmpB, decide_eq_true_eq, decide_eq_false_iff_not, beq_iff_eq, beq_eq_false_iff_ne, bne_iff_ne, ne_eq, bne_eq_false_iff_eq, Bool.not_eq_true', Bool.not_eq_false', Int.not_lt, Int.not_le] at h20)
                  refine k_op0 (d := 141) (b := 1079) (j' := 3) rfl rfl rfl rfl (g_tt rfl rfl rfl g20) (T_move rfl rfl) rfl ?_
                  refine k_op0 (d := 142) (b := 1095) (j' := 4) rfl rfl rfl rfl (.plain rfl) (T_pick_t rfl rfl rfl g20) rfl ?_
                  refine k_op0 (d := 8) (b := 1111) (j' := 5) rfl rfl rfl rfl (.plain rfl) (T_assign rfl rfl) rfl ?_
                  refine k_done rfl ?_
                  refine thenK_n ?_
                  refine W_ret ?_
                  -- end 9
                  exact .mk [] (.inr rfl) (.tmp rfl (.nil)) (by simp only [resLV, LV.ren, LV.v.injEq, Value.bool.injEq]; have et : p.take j = p := List.take_of_length_le (by omega); rw [et] at h11 hJ; have e1 : b.ins = instrs f p := ext_getD (by omega) (fun m hm => hJ.2.2.1 m (by omega)); have hc : chainB f p = true := range_all_true (fun i hi => hJ.2.2.2 i (by omega) (by omega)); first | (exfalso; omega) | (rw [made_tail hc e1 h13 h15]; clear hJ hps hb hp hc et h11 h13 h15 e1; simp only [blk, lastOf, cmpB]; simp [-List.getD_eq_getElem?_getD, -Int.default_eq_zero, -Int.pred_toNat, *]) | exact (made_fin h13).symm | exact (made_v h15).symm) (.nil) rfl
                · have h20 := g20; (try simp only [cmpB, decide_eq_true_eq, decide_eq_false_iff_not, beq_iff_eq, beq_eq_false_iff_ne, bne_iff_ne, ne_eq, bne_eq_false_iff_eq, Bool.not_eq_true', Bool.not_eq_false', Int.not_lt, Int.not_le] at h20)
                  refine k_no (d := 141) (j' := 3) rfl rfl rfl (g_tf rfl rfl rfl g20) ?_
                  refine k_op0 (d := 142) (b := 1095) (j' := 4) rfl rfl rfl rfl (.plain rfl) (T_pick_f rfl rfl rfl g20) rfl ?_
                  refine k_op0 (d := 8) (b := 1111) (j' := 5) rfl rfl rfl rfl (.plain rfl) (T_assign rfl rfl) rfl ?_
                  refine k_done rfl ?_
                  refine thenK_n ?_
                  refine W_ret ?_
                  -- end 10
                  exact .mk [] (.inr rfl) (.tmp rfl (.nil)) (by simp only [resLV, LV.ren, LV.v.injEq, Value.bool.injEq]; have et : p.take j = p := List.take_of_length_le (by omega); rw [et] at h11 hJ; have e1 : b.ins = instrs f p := ext_getD (by omega) (fun m hm => hJ.2.2.1 m (by omega)); have hc : chainB f p = true := range_all_true (fun i hi => hJ.2.2.2 i (by omega) (by omega)); first | (exfalso; omega) | (rw [made_tail hc e1 h13 h15]; clear hJ hps hb hp hc et h11 h13 h15 e1; simp only [blk, lastOf, cmpB]; simp [-List.getD_eq_getElem?_getD, -Int.default_eq_zero, -Int.pred_toNat, *]) | exact (made_fin h13).symm | exact (made_v h15).symm) (.nil) rfl
            · exact absurd (g17.symm.trans rfl) (by decide)
          · have h16 := g16; (try simp only [cmpB, decide_eq_true_eq, decide_eq_false_iff_not, beq_iff_eq, beq_eq_false_iff_ne, bne_iff_ne, ne_eq, bne_eq_false_iff_eq, Bool.not_eq_true', Bool.not_eq_false', Int.not_lt, Int.not_le] at h16)
            refine k_op0 (d := 115) (b := 727) (j' := 5) rfl rfl rfl rfl (g_ff rfl rfl rfl g16) (T_fa D (m := 1) rfl rfl rfl rfl rfl rfl) rfl ?_
            refine k_op0 (d := 116) (b := 743) (j' := 6) rfl rfl rfl rfl (g_ff rfl rfl rfl g16) (T_load_b D rfl rfl rfl rfl rfl rfl) rfl ?_
            refine k_op0 (d := 117) (b := 759) (j' := 7) rfl rfl rfl rfl (g_ff rfl rfl rfl g16) (T_cmp rfl rfl rfl rfl) rfl ?_
            refine k_op0 (d := 118) (b := 775) (j' := 8) rfl rfl rfl rfl (.plain rfl) (T_pick_f rfl rfl rfl g16) rfl ?_
            refine k_done rfl ?_
            refine thenK_n ?_
            refine W_cond rfl (fun g21 => ?_) (fun g21 => ?_)
            · have h21 := g21; (try simp only [cmpB, decide_eq_true_eq, decide_eq_false_iff_not, beq_iff_eq, beq_eq_false_iff_ne, bne_iff_ne, ne_eq, bne_eq_false_iff_eq, Bool.not_eq_true', Bool.not_eq_false', Int.not_lt, Int.not_le] at h21)
              refine W_seqK (b' := 903) rfl rfl ?_
              refine k_op0 (d := 119) (b := 791) (j' := 1) rfl rfl rfl rfl (.plain rfl) (T_move rfl rfl) rfl ?_
              refine k_op0 (d := 120) (b := 807) (j' := 2) rfl rfl rfl rfl (.plain rfl) (T_fa D (m := 3) rfl rfl rfl rfl rfl rfl) rfl ?_
              refine k_op0 (d := 121) (b := 823) (j' := 3) rfl rfl rfl rfl (.plain rfl) (T_load_b D rfl rfl rfl rfl rfl rfl) rfl ?_
              refine k_op0 (d := 122) (b := 839) (j' := 4) rfl rfl rfl rfl (.plain rfl) (T_fa D (m := 3) rfl rfl rfl rfl rfl rfl) rfl ?_
              refine k_op0 (d := 123) (b := 855) (j' := 5) rfl rfl rfl rfl (.plain rfl) (T_load_b D rfl rfl rfl rfl rfl rfl) rfl ?_
              refine k_op0 (d := 124) (b := 871) (j' := 6) rfl rfl rfl rfl (.plain rfl) (T_callV (lvs := [_, _, _]) (L := [(1, 4)]) (leads_spec2 _ _ _ (fun k1 k2 => hps _ (getD_mem (by omega)))) body119 rfl rfl rfl rfl (.fz rfl (.nil)) rfl) rfl ?_
              refine k_op0 (d := 14) (b := 887) (j' := 7) rfl rfl rfl rfl (.plain rfl) (T_assign rfl rfl) rfl ?_
              refine k_done rfl ?_
              refine thenK_n ?_
              refine W_seq ?_
              refine W_seqK (b' := 999) rfl rfl ?_
              refine k_op0 (d := 125) (b := 903) (j' := 1) rfl rfl rfl rfl (.plain rfl) (T_fa D (m := 4) rfl rfl rfl rfl rfl rfl) rfl ?_
              refine k_op0 (d := 126) (b := 919) (j' := 2) rfl rfl rfl rfl (.plain rfl) (T_load_b D rfl rfl rfl rfl rfl rfl) rfl ?_
              refine k_op0 (d := 127) (b := 935) (j' := 3) rfl rfl rfl rfl (.plain rfl) (T_fa D (m := 4) rfl rfl rfl rfl rfl rfl) rfl ?_
              refine k_op0 (d := 128) (b := 951) (j' := 4) rfl rfl rfl rfl (.plain rfl) (T_load_b D rfl rfl rfl rfl rfl rfl) rfl ?_
              refine k_op0 (d := 129) (b := 967) (j' := 5) rfl rfl rfl rfl (.plain rfl) (T_cmp rfl rfl rfl rfl) rfl ?_
              refine k_op0 (d := 15) (b := 983) (j' := 6) rfl rfl rfl rfl (.plain rfl) (T_assign rfl rfl) rfl ?_
              refine k_done rfl ?_
              refine thenK_n ?_
              refine W_seq ?_
              refine W_seq ?_
              refine W_seqK (b' := 1047) rfl rfl ?_
              refine k_op0 (d := 130) (b := 999) (j' := 1) rfl rfl rfl rfl (.plain rfl) (T_fa D (m := 1) rfl rfl rfl rfl rfl rfl) rfl ?_
              refine k_op0 (d := 131) (b := 1015) (j' := 2) rfl rfl rfl rfl (.plain rfl) (T_load_b D rfl rfl rfl rfl rfl rfl) rfl ?_
              refine k_op0 (d := 132) (b := 1031) (j' := 3) rfl rfl rfl rfl (.plain rfl) (T_cmp rfl rfl rfl rfl) rfl ?_
              refine k_done rfl ?_
              refine thenK_n ?_
              refine W_cond rfl (fun g22 => ?_) (fun g22 => ?_)
              · have h22 := g22; (try simp only [cmpB, decide_eq_true_eq, decide_eq_false_iff_not, beq_iff_eq, beq_eq_false_iff_ne, bne_iff_ne, ne_eq, bne_eq_false_iff_eq, Bool.not_eq_true', Bool.not_eq_false', Int.not_lt, Int.not_le] at h22)
                refine W_seqK (b' := 1159) rfl rfl ?_
                refine k_op0 (d := 133) (b := 1047) (j' := 1) rfl rfl rfl rfl (.plain rfl) (T_move rfl rfl) rfl ?_
                refine k_op0 (d := 134) (b := 1063) (j' := 2) rfl rfl rfl rfl (.plain rfl) (T_fa D (m := 4) rfl rfl rfl rfl rfl rfl) rfl ?_
                refine k_op0 (d := 135) (b := 1079) (j' := 3) rfl rfl rfl rfl (.plain rfl) (T_load_b D rfl rfl rfl rfl rfl rfl) rfl ?_
                refine k_op0 (d := 136) (b := 1095) (j' := 4) rfl rfl rfl rfl (.plain rfl) (T_fa D (m := 4) rfl rfl rfl rfl rfl rfl) rfl ?_
                refine k_op0 (d := 137) (b := 1111) (j' := 5) rfl rfl rfl rfl (.plain rfl) (T_load_b D rfl rfl rfl rfl rfl rfl) rfl ?_
                refine k_op0 (d := 138) (b := 1127) (j' := 6) rfl rfl rfl rfl (.plain rfl) (T_callV (lvs := [_, _, _]) (L := [(1, 4)]) (leads_spec2 _ _ _ (fun k1 k2 => hps _ (getD_mem (by omega)))) body119 rfl rfl rfl rfl (.fz rfl (.nil)) rfl) rfl ?_
                refine k_op0 (d := 15) (b := 1143) (j' := 7) rfl rfl rfl rfl (.plain rfl) (T_assign rfl rfl) rfl ?_
                refine k_done rfl ?_
                refine thenK_n ?_
                refine W_seq ?_
                refine W_seqK (b' := 1239) rfl rfl ?_
                refine k_op0 (d := 139) (b := 1159) (j' := 1) rfl rfl rfl rfl (.plain rfl) (T_move rfl rfl) rfl ?_
                refine k_op0 (d := 140) (b := 1175) (j' := 2) rfl rfl rfl rfl (.plain rfl) (T_move rfl rfl) rfl ?_
                refine k_split (d := 140) rfl (fun g23 => ?_) (fun g23 => ?_)
                · have h23 := g23; (try simp only [cmpB, decide_eq_true_eq, decide_eq_false_iff_not, beq_iff_eq, beq_eq_false_iff_ne, bne_iff_ne, ne_eq, bne_eq_false_iff_eq, Bool.not_eq_true', Bool.not_eq_false', Int.not_lt, Int.not_le] at h23)
                  refine k_op0 (d := 141) (b := 1191) (j' := 3) rfl rfl rfl rfl (g_tt rfl rfl rfl g23) (T_move rfl rfl) rfl ?_
                  refine k_op0 (d := 142) (b := 1207) (j' := 4) rfl rfl rfl rfl (.plain rfl) (T_pick_t rfl rfl rfl g23) rfl ?_
                  refine k_op0 (d := 8) (b := 1223) (j' := 5) rfl rfl rfl rfl (.plain rfl) (T_assign rfl rfl) rfl ?_
                  refine k_done rfl ?_
                  refine thenK_n ?_
                  refine W_ret ?_
                  -- end 11
                  exact .mk [] (.inr rfl) (.tmp rfl (.nil)) (by simp only [resLV, LV.ren, LV.v.injEq, Value.bool.injEq]; have et : p.take j = p := List.take_of_length_le (by omega); rw [et] at h11 hJ; have e1 : b.ins = instrs f p := ext_getD (by omega) (fun m hm => hJ.2.2.1 m (by omega)); have hc : chainB f p = true := range_all_true (fun i hi => hJ.2.2.2 i (by omega) (by omega)); first | (exfalso; omega) | (rw [made_tail hc e1 h13 h15]; clear hJ hps hb hp hc et h11 h13 h15 e1; simp only [blk, lastOf, cmpB]; simp [-List.getD_eq_getElem?_getD, -Int.default_eq_zero, -Int.pred_toNat, *]) | exact (made_fin h13).symm | exact (made_v h15).symm) (.nil) rfl
                · have h23 := g23; (try simp only [cmpB, decide_eq_true_eq, decide_eq_false_iff_not, beq_iff_eq, beq_eq_false_iff_ne, bne_iff_ne, ne_eq, bne_eq_false_iff_eq, Bool.not_eq_true', Bool.not_eq_false', Int.not_lt, Int.not_le] at h23)
                  refine k_no (d := 141) (j' := 3) rfl rfl rfl (g_tf rfl rfl rfl g23) ?_
                  refine k_op0 (d := 142) (b := 1207) (j' := 4) rfl rfl rfl rfl (.plain rfl) (T_pick_f rfl rfl rfl g23) rfl ?_
                  refine k_op0 (d := 8) (b := 1223) (j' := 5) rfl rfl rfl rfl (.plain rfl) (T_assign rfl rfl) rfl ?_
                  refine k_done rfl ?_
                  refine thenK_n ?_
                  refine W_ret ?_
                  -- end 12
                  exact .mk [] (.inr rfl) (.tmp rfl (.nil)) (by simp only [resLV, LV.ren, LV.v.injEq, Value.bool.injEq]; have et : p.take j = p := List.take_of_length_le (by omega); rw [et] at h11 hJ; have e1 : b.ins = instrs f p := ext_getD (by omega) (fun m hm => hJ.2.2.1 m (by omega)); have hc : chainB f p = true := range_all_true (fun i hi => hJ.2.2.2 i (by omega) (by omega)); first | (exfalso; omega) | (rw [made_tail hc e1 h13 h15]; clear hJ hps hb hp hc et h11 h13 h15 e1; simp only [blk, lastOf, cmpB]; simp [-List.getD_eq_getElem?_getD, -Int.default_eq_zero, -Int.pred_toNat, *]) | exact (made_fin h13).symm | exact (made_v h15).symm) (.nil) rfl
              · have h22 := g22; (try simp only [cmpB, decide_eq_true_eq, decide_eq_false_iff_not, beq_iff_eq, beq_eq_false_iff_ne, bne_iff_ne, ne_eq, bne_eq_false_iff_eq, Bool.not_eq_true', Bool.not_eq_false', Int.not_lt, Int.not_le] at h22)
                refine W_skip ?_
                refine thenK_n ?_
                refine W_seq ?_
                refine W_seqK (b' := 1127) rfl rfl ?_
                refine k_op0 (d := 139) (b := 1047) (j' := 1) rfl rfl rfl rfl (.plain rfl) (T_move rfl rfl) rfl ?_
                refine k_op0 (d := 140) (b := 1063) (j' := 2) rfl rfl rfl rfl (.plain rfl) (T_move rfl rfl) rfl ?_
                refine k_split (d := 140) rfl (fun g24 => ?_) (fun g24 => ?_)
                · have h24 := g24; (try simp only [cmpB, decide_eq_true_eq, decide_eq_false_iff_not, beq_iff_eq, beq_eq_false_iff_ne, bne_iff_ne, ne_eq, bne_eq_false_iff_eq, Bool.not_eq_true', Bool.not_eq_false', Int.not_lt, Int.not_le] at h24)
                  refine k_op0 (d := 141) (b := 1079) (j' := 3) rfl rfl rfl rfl (g_tt rfl rfl rfl g24) (T_move rfl rfl) rfl ?_
                  refine k_op0 (d := 142) (b := 1095) (j' := 4) rfl rfl rfl rfl (.plain rfl) (T_pick_t rfl rfl rfl g24) rfl ?_
                  refine k_op0 (d := 8) (b := 1111) (j' := 5) rfl rfl rfl rfl (.plain rfl) (T_assign rfl rfl) rfl ?_
                  refine k_done rfl ?_
                  refine thenK_n ?_
                  refine W_ret ?_
                  -- end 13
                  exact .mk [] (.inr rfl) (.tmp rfl (.nil)) (by simp only [resLV, LV.ren, LV.v.injEq, Value.bool.injEq]; have et : p.take j = p := List.take_of_length_le (by omega); rw [et] at h11 hJ; have e1 : b.ins = instrs f p := ext_getD (by omega) (fun m hm => hJ.2.2.1 m (by omega)); have hc : chainB f p = true := range_all_true (fun i hi => hJ.2.2.2 i (by omega) (by omega)); first | (exfalso; omega) | (rw [made_tail hc e1 h13 h15]; clear hJ hps hb hp hc et h11 h13 h15 e1; simp only [blk, lastOf, cmpB]; simp [-List.getD_eq_getElem?_getD, -Int.default_eq_zero, -Int.pred_toNat, *]) | exact (made_fin h13).symm | exact (made_v h15).symm) (.nil) rfl
                · have h24 := g24; (try simp only [cmpB, decide_eq_true_eq, decide_eq_false_iff_not, beq_iff_eq, beq_eq_false_iff_ne, bne_iff_ne, ne_eq, bne_eq_false_iff_eq, Bool.not_eq_true', Bool.not_eq_false', Int.not_lt, Int.not_le] at h24)
                  refine k_no (d := 141) (j' := 3) rfl rfl rfl (g_tf rfl rfl rfl g24) ?_
                  refine k_op0 (d := 142) (b := 1095) (j' := 4) rfl rfl rfl rfl (.plain rfl) (T_pick_f rfl rfl rfl g24) rfl ?_
                  refine k_op0 (d := 8) (b := 1111) (j' := 5) rfl rfl rfl rfl (.plain rfl) (T_assign rfl rfl) rfl ?_
                  refine k_done rfl ?_
                  refine thenK_n ?_
                  refine W_ret ?_
                  -- end 14
                  exact .mk [] (.inr rfl) (.tmp rfl (.nil)) (by simp only [resLV, LV.ren, LV.v.injEq, Value.bool.injEq]; have et : p.take j = p := List.take_of_length_le (by omega); rw [et] at h11 hJ; have e1 : b.ins = instrs f p := ext_getD (by omega) (fun m hm => hJ.2.2.1 m (by omega)); have hc : chainB f p = true := range_all_true (fun i hi => hJ.2.2.2 i (by omega) (by omega)); first | (exfalso; omega) | (rw [made_tail hc e1 h13 h15]; clear hJ hps hb hp hc et h11 h13 h15 e1; simp only [blk, lastOf, cmpB]; simp [-List.getD_eq_getElem?_getD, -Int.default_eq_zero, -Int.pred_toNat, *]) | exact (made_fin h13).symm | exact (made_v h15).symm) (.nil) rfl
            · have h21 := g21; (try simp only [cmpB, decide_eq_true_eq, decide_eq_false_iff_not, beq_iff_eq, beq_eq_false_iff_ne, bne_iff_ne, ne_eq, bne_eq_false_iff_eq, Bool.not_eq_true', Bool.not_eq_false', Int.not_lt, Int.not_le] at h21)
              refine W_skip ?_
              refine thenK_n ?_
              refine W_seq ?_
              refine W_seqK (b' := 887) rfl rfl ?_
              refine k_op0 (d := 125) (b := 791) (j' := 1) rfl rfl rfl rfl (.plain rfl) (T_fa D (m := 4) rfl rfl rfl rfl rfl rfl) rfl ?_
              refine k_op0 (d := 126) (b := 807) (j' := 2) rfl rfl rfl rfl (.plain rfl) (T_load_b D rfl rfl rfl rfl rfl rfl) rfl ?_
              refine k_op0 (d := 127) (b := 823) (j' := 3) rfl rfl rfl rfl (.plain rfl) (T_fa D (m := 4) rfl rfl rfl rfl rfl rfl) rfl ?_
              refine k_op0 (d := 128) (b := 839) (j' := 4) rfl rfl rfl rfl (.plain rfl) (T_load_b D rfl rfl rfl rfl rfl rfl) rfl ?_
              refine k_op0 (d := 129) (b := 855) (j' := 5) rfl rfl rfl rfl (.plain rfl) (T_cmp rfl rfl rfl rfl) rfl ?_
              refine k_op0 (d := 15) (b := 871) (j' := 6) rfl rfl rfl rfl (.plain rfl) (T_assign rfl rfl) rfl ?_
              refine k_done rfl ?_
              refine thenK_n ?_
              refine W_seq ?_
              refine W_seq ?_
              refine W_seqK (b' := 935) rfl rfl ?_
              refine k_op0 (d := 130) (b := 887) (j' := 1) rfl rfl rfl rfl (.plain rfl) (T_fa D (m := 1) rfl rfl rfl rfl rfl rfl) rfl ?_
              refine k_op0 (d := 131) (b := 903) (j' := 2) rfl rfl rfl rfl (.plain rfl) (T_load_b D rfl rfl rfl rfl rfl rfl) rfl ?_
              refine k_op0 (d := 132) (b := 919) (j' := 3) rfl rfl rfl rfl (.plain rfl) (T_cmp rfl rfl rfl rfl) rfl ?_
              refine k_done rfl ?_
              refine thenK_n ?_
              refine W_cond rfl (fun g25 => ?_) (fun g25 => ?_)
              · have h25 := g25; (try simp only [cmpB, decide_eq_true_eq, decide_eq_false_iff_not, beq_iff_eq, beq_eq_false_iff_ne, bne_iff_ne, ne_eq, bne_eq_false_iff_eq, Bool.not_eq_true', Bool.not_eq_false', Int.not_lt, Int.not_le] at h25)
                refine W_seqK (b' := 1047) rfl rfl ?_
                refine k_op0 (d := 133) (b := 935) (j' := 1) rfl rfl rfl rfl (.plain rfl) (T_move rfl rfl) rfl ?_
                refine k_op0 (d := 134) (b := 951) (j' := 2) rfl rfl rfl rfl (.plain rfl) (T_fa D (m := 4) rfl rfl rfl rfl rfl rfl) rfl ?_
                refine k_op0 (d := 135) (b := 967) (j' := 3) rfl rfl rfl rfl (.plain rfl) (T_load_b D rfl rfl rfl rfl rfl rfl) rfl ?_
                refine k_op0 (d := 136) (b := 983) (j' := 4) rfl rfl rfl rfl (.plain rfl) (T_fa D (m := 4) rfl rfl rfl rfl rfl rfl) rfl ?_
                refine k_op0 (d := 137) (b := 999) (j' := 5) rfl rfl rfl rfl (.plain rfl) (T_load_b D rfl rfl rfl rfl rfl rfl) rfl ?_
                refine k_op0 (d := 138) (b := 1015) (j' := 6) rfl rfl rfl rfl (.plain rfl) (T_callV (lvs := [_, _, _]) (L := [(1, 4)]) (leads_spec2 _ _ _ (fun k1 k2 => hps _ (getD_mem (by omega)))) body119 rfl rfl rfl rfl (.fz rfl (.nil)) rfl) rfl ?_
                refine k_op0 (d := 15) (b := 1031) (j' := 7) rfl rfl rfl rfl (.plain rfl) (T_assign rfl rfl) rfl ?_
                refine k_done rfl ?_
                refine thenK_n ?_
                refine W_seq ?_
                refine W_seqK (b' := 1127) rfl rfl ?_
                refine k_op0 (d := 139) (b := 1047) (j' := 1) rfl rfl rfl rfl (.plain rfl) (T_move rfl rfl) rfl ?_
                refine k_op0 (d := 140) (b := 1063) (j' := 2) rfl rfl rfl rfl (.plain rfl) (T_move rfl rfl) rfl ?_
                refine k_split (d := 140) rfl (fun g26 => ?_) (fun g26 => ?_)
                · have h26 := g26; (try simp only [cmpB, decide_eq_true_eq, decide_eq_false_iff_not, beq_iff_eq, beq_eq_false_iff_ne, bne_iff_ne, ne_eq, bne_eq_false_iff_eq, Bool.not_eq_true', Bool.not_eq_false', Int.not_lt, Int.not_le] at h26)
                  refine k_op0 (d := 141) (b := 1079) (j' := 3) rfl rfl rfl rfl (g_tt rfl rfl rfl g26) (T_move rfl rfl) rfl ?_
                  refine k_op0 (d := 142) (b := 1095) (j' := 4) rfl rfl rfl rfl (.plain rfl) (T_pick_t rfl rfl rfl g26) rfl ?_
                  refine k_op0 (d := 8) (b := 1111) (j' := 5) rfl rfl rfl rfl (.plain rfl) (T_assign rfl rfl) rfl ?_
                  refine k_done rfl ?_
                  refine thenK_n ?_
                  refine W_ret ?_
                  -- end 15
                  exact .mk [] (.inr rfl) (.tmp rfl (.nil)) (by simp only [resLV, LV.ren, LV.v.injEq, Value.bool.injEq]; have et : p.take j = p := List.take_of_length_le (by omega); rw [et] at h11 hJ; have e1 : b.ins = instrs f p := ext_getD (by omega) (fun m hm => hJ.2.2.1 m (by omega)); have hc : chainB f p = true := range_all_true (fun i hi => hJ.2.2.2 i (by omega) (by omega)); first | (exfalso; omega) | (rw [made_tail hc e1 h13 h15]; clear hJ hps hb hp hc et h11 h13 h15 e1; simp only [blk, lastOf, cmpB]; simp [-List.getD_eq_getElem?_getD, -Int.default_eq_zero, -Int.pred_toNat, *]) | exact (made_fin h13).symm | exact (made_v h15).symm) (.nil) rfl
                · have h26 := g26; (try simp only [cmpB, decide_eq_true_eq, decide_eq_false_iff_not, beq_iff_eq, beq_eq_false_iff_ne, bne_iff_ne, ne_eq, bne_eq_false_iff_eq, Bool.not_eq_true', Bool.not_eq_false', Int.not_lt, Int.not_le] at h26)
                  refine k_no (d := 141) (j' := 3) rfl rfl rfl (g_tf rfl rfl rfl g26) ?_
                  refine k_op0 (d := 142) (b := 1095) (j' := 4) rfl rfl rfl rfl (.plain rfl) (T_pick_f rfl rfl rfl g26) rfl ?_
                  refine k_op0 (d := 8) (b := 1111) (j' := 5) rfl rfl rfl rfl (.plain rfl) (T_assign rfl rfl) rfl ?_
                  refine k_done rfl ?_
                  refine thenK_n ?_
                  refine W_ret ?_
                  -- end 16
                  exact .mk [] (.inr rfl) (.tmp rfl (.nil)) (by simp only [resLV, LV.ren, LV.v.injEq, Value.bool.injEq]; have et : p.take j = p := List.take_of_length_le (by omega); rw [et] at h11 hJ; have e1 : b.ins = instrs f p := ext_getD (by omega) (fun m hm => hJ.2.2.1 m (by omega)); have hc : chainB f p = true := range_all_true (fun i hi => hJ.2.2.2 i (by omega) (by omega)); first | (exfalso; omega) | (rw [made_tail hc e1 h13 h15]; clear hJ hps hb hp hc et h11 h13 h15 e1; simp only [blk, lastOf, cmpB]; simp [-List.getD_eq_getElem?_getD, -Int.default_eq_zero, -Int.pred_toNat, *]) | exact (made_fin h13).symm | exact (made_v h15).symm) (.nil) rfl
              · have h25 := g25; (try simp only [cmpB, decide_eq_true_eq, decide_eq_false_iff_not, beq_iff_eq, beq_eq_false_iff_ne, bne_iff_ne, ne_eq, bne_eq_false_iff_eq, Bool.not_eq_true', Bool.not_eq_false', Int.not_lt, Int.not_le] at h25)
                refine W_skip ?_
                refine thenK_n ?_
                refine W_seq ?_
                refine W_seqK (b' := 1015) rfl rfl ?_
                refine k_op0 (d := 139) (b := 935) (j' := 1) rfl rfl rfl rfl (.plain rfl) (T_move rfl rfl) rfl ?_
                refine k_op0 (d := 140) (b := 951) (j' := 2) rfl rfl rfl rfl (.plain rfl) (T_move rfl rfl) rfl ?_
                refine k_split (d := 140) rfl (fun g27 => ?_) (fun g27 => ?_)
                · have h27 := g27; (try simp only [cmpB, decide_eq_true_eq, decide_eq_false_iff_not, beq_iff_eq, beq_eq_false_iff_ne, bne_iff_ne, ne_eq, bne_eq_false_iff_eq, Bool.not_eq_true', Bool.not_eq_false', Int.not_lt, Int.not_le] at h27)
                  refine k_op0 (d := 141) (b := 967) (j' := 3) rfl rfl rfl rfl (g_tt rfl rfl rfl g27) (T_move rfl rfl) rfl ?_
                  refine k_op0 (d := 142) (b := 983) (j' := 4) rfl rfl rfl rfl (.plain rfl) (T_pick_t rfl rfl rfl g27) rfl ?_
                  refine k_op0 (d := 8) (b := 999) (j' := 5) rfl rfl rfl rfl (.plain rfl) (T_assign rfl rfl) rfl ?_
                  refine k_done rfl ?_
                  refine thenK_n ?_
                  refine W_ret ?_
                  -- end 17
                  exact .mk [] (.inr rfl) (.tmp rfl (.nil)) (by simp only [resLV, LV.ren, LV.v.injEq, Value.bool.injEq]; have et : p.take j = p := List.take_of_length_le (by omega); rw [et] at h11 hJ; have e1 : b.ins = instrs f p := ext_getD (by omega) (fun m hm => hJ.2.2.1 m (by omega)); have hc : chainB f p = true := range_all_true (fun i hi => hJ.2.2.2 i (by omega) (by omega)); first | (exfalso; omega) | (rw [made_tail hc e1 h13 h15]; clear hJ hps hb hp hc et h11 h13 h15 e1; simp only [blk, lastOf, cmpB]; simp [-List.getD_eq_getElem?_getD, -Int.default_eq_zero, -Int.pred_toNat, *]) | exact (made_fin h13).symm | exact (made_v h15).symm) (.nil) rfl
                · have h27 := g27; (try simp only [cmpB, decide_eq_true_eq, decide_eq_false_iff_not, beq_iff_eq, beq_eq_false_iff_ne, bne_iff_ne, ne_eq, bne_eq_false_iff_eq, Bool.not_eq_true', Bool.not_eq_false', Int.not_lt, Int.not_le] at h27)
                  refine k_no (d := 141) (j' := 3) rfl rfl rfl (g_tf rfl rfl rfl g27) ?_
                  refine k_op0 (d := 142) (b := 983) (j' := 4) rfl rfl rfl rfl (.plain rfl) (T_pick_f rfl rfl rfl g27) rfl ?_
                  refine k_op0 (d := 8) (b := 999) (j' := 5) rfl rfl rfl rfl (.plain rfl) (T_assign rfl rfl) rfl ?_
                  refine k_done rfl ?_
                  refine thenK_n ?_
                  refine W_ret ?_
                  -- end 18
                  exact .mk [] (.inr rfl) (.tmp rfl (.nil)) (by simp only [resLV, LV.ren, LV.v.injEq, Value.bool.injEq]; have et : p.take j = p := List.take_of_length_le (by omega); rw [et] at h11 hJ; have e1 : b.ins = instrs f p := ext_getD (by omega) (fun m hm => hJ.2.2.1 m (by omega)); have hc : chainB f p = true := range_all_true (fun i hi => hJ.2.2.2 i (by omega) (by omega)); first | (exfalso; omega) | (rw [made_tail hc e1 h13 h15]; clear hJ hps hb hp hc et h11 h13 h15 e1; simp only [blk, lastOf, cmpB]; simp [-List.getD_eq_getElem?_getD, -Int.default_eq_zero, -Int.pred_toNat, *]) | exact (made_fin h13).symm | exact (made_v h15).symm) (.nil) rfl
end Lg
end Go.Proofs.Ytpfhmodjjljpjaa

namespace Go.Proofs.Ytpfhmodjjljpjaa
open Go.RowKit
namespace Lg
set_option maxRecDepth 100000
set_option linter.unusedVariables false
set_option linter.unusedSimpArgs false



theorem body33 : (Try.prog.funcs[33]?).map (fun fn => (fn.name == "runtime.NumGoroutine" || fn.body.isNone)) = some false := by kernel_rfl
theorem rcheck_spec (f g : GFn) (ps : List (List Int)) (hl : ps.length ≤ 1000000000) (hpl : ∀ p ∈ ps, p.length ≤ 1000000000) (hgi : ∀ b ∈ g.blocks, b.ins.length ≤ 1000000) (hI : ∀ p ∈ ps, ∀ j, (instrs f (p.take j)).length ≤ 1000000000) : Spec Try.prog 33 [.agg [.v (.int .i64 f.regs), .r 1], .agg [.v (.int .i64 g.regs), .r 2], .r 3] 4 [(1, .fz 5 (f.blocks.map eBlock)), (2, .fz 5 (g.blocks.map eBlock)), (3, .fz 1 (ps.map eIs))] (.v (.bool (tcheck f g ps))) 4 [] := by
  refine spec_of D (fn := Try.f33) rfl rfl (Nat.le_of_ble_eq_true rfl) ?_
  refine W_seq ?_
  refine W_seqK (b' := 52) rfl rfl ?_
  refine k_op1 (d := 3) (b := 4) (j' := 1) rfl rfl rfl rfl (.plain rfl) (T_box rfl rfl flat_agg) rfl ?_
  refine k_op1 (d := 4) (b := 20) (j' := 2) rfl rfl rfl rfl (.plain rfl) (T_box rfl rfl flat_agg) rfl ?_
  refine k_op0 (d := 6) (b := 36) (j' := 3) rfl rfl rfl rfl (.plain rfl) (T_assign rfl rfl) rfl ?_
  refine k_done rfl ?_
  refine thenK_n ?_
  refine W_seq ?_
  refine W_seq ?_
  refine W_seqK (b' := 340) rfl rfl ?_
  refine k_op0 (d := 10) (b := 52) (j' := 1) rfl rfl rfl rfl (.plain rfl) (T_move rfl rfl) rfl ?_
  refine k_op0 (d := 11) (b := 68) (j' := 2) rfl rfl rfl rfl (.plain rfl) (T_len D rfl rfl rfl rfl rfl rfl) rfl ?_
  refine k_op0 (d := 12) (b := 84) (j' := 3) rfl rfl rfl rfl (.plain rfl) (T_fa D (m := 1) rfl rfl rfl rfl rfl rfl) rfl ?_
  refine k_op0 (d := 13) (b := 100) (j' := 4) rfl rfl rfl rfl (.plain rfl) (T_load_b D rfl rfl rfl rfl rfl rfl) rfl ?_
  refine k_op0 (d := 14) (b := 116) (j' := 5) rfl rfl rfl rfl (.plain rfl) (T_len D rfl rfl rfl rfl rfl rfl) rfl ?_
  refine k_op0 (d := 15) (b := 132) (j' := 6) rfl rfl rfl rfl (.plain rfl) (T_cmp rfl rfl rfl rfl) rfl ?_
  refine k_op0 (d := 16) (b := 148) (j' := 7) rfl rfl rfl rfl (.plain rfl) (T_move rfl rfl) rfl ?_
  refine k_split (d := 16) rfl (fun g1 => ?_) (fun g1 => ?_)
  · have h1 := g1; (try simp only [cmpB, decide_eq_true_eq, decide_eq_false_iff_not, beq_iff_eq, beq_eq_false_iff_ne, bne_iff_ne, ne_eq, bne_eq_false_iff_eq, Bool.not_eq_true', Bool.not_eq_false', Int.not_lt, Int.not_le] at h1)
    refine k_no (d := 17) (j' := 8) rfl rfl rfl (g_ft rfl rfl rfl g1) ?_
    refine k_no (d := 18) (j' := 9) rfl rfl rfl (g_ft rfl rfl rfl g1) ?_
    refine k_no (d := 19) (j' := 10) rfl rfl rfl (g_ft rfl rfl rfl g1) ?_
    refine k_op0 (d := 20) (b := 212) (j' := 11) rfl rfl rfl rfl (.plain rfl) (T_pick_t rfl rfl rfl g1) rfl ?_
    refine k_op0 (d := 21) (b := 228) (j' := 12) rfl rfl rfl rfl (.plain rfl) (T_move rfl rfl) rfl ?_
    refine k_no (d := 22) (j' := 13) rfl rfl rfl (g_ft rfl rfl rfl rfl) ?_
    refine k_no (d := 23) (j' := 14) rfl rfl rfl (g_ft rfl rfl rfl rfl) ?_
    refine k_no (d := 24) (j' := 15) rfl rfl rfl (g_ft rfl rfl rfl rfl) ?_
    refine k_no (d := 25) (j' := 16) rfl rfl rfl (g_ft rfl rfl rfl rfl) ?_
    refine k_no (d := 26) (j' := 17) rfl rfl rfl (g_ft rfl rfl rfl rfl) ?_
    refine k_op0 (d := 27) (b := 324) (j' := 18) rfl rfl rfl rfl (.plain rfl) (T_pick_t rfl rfl rfl rfl) rfl ?_
    refine k_done rfl ?_
    refine thenK_n ?_
    refine W_cond rfl (fun g2 => ?_) (fun g2 => ?_)
    · skip
      refine W_seq ?_
      refine W_seqK (b' := 356) rfl rfl ?_
      refine k_op0 (d := 6) (b := 340) (j' := 1) rfl rfl rfl rfl (.plain rfl) (T_assign rfl rfl) rfl ?_
      refine k_done rfl ?_
      refine thenK_n ?_
      refine W_ret ?_
      refine thenK_r ?_
      -- end 0
      exact .mk [] (.inr rfl) (.tmp rfl (.nil)) (by simp only [resLV, LV.ren, LV.v.injEq, Value.bool.injEq]; rw [tcheck, if_pos (by omega)]) (.nil) rfl
    · exact absurd (g2.symm.trans rfl) (by decide)
  · have h1 := g1; (try simp only [cmpB, decide_eq_true_eq, decide_eq_false_iff_not, beq_iff_eq, beq_eq_false_iff_ne, bne_iff_ne, ne_eq, bne_eq_false_iff_eq, Bool.not_eq_true', Bool.not_eq_false', Int.not_lt, Int.not_le] at h1)
    refine k_op0 (d := 17) (b := 164) (j' := 8) rfl rfl rfl rfl (g_ff rfl rfl rfl g1) (T_move rfl rfl) rfl ?_
    refine k_op0 (d := 18) (b := 180) (j' := 9) rfl rfl rfl rfl (g_ff rfl rfl rfl g1) (T_len D rfl rfl rfl rfl rfl rfl) rfl ?_
    refine k_op0 (d := 19) (b := 196) (j' := 10) rfl rfl rfl rfl (g_ff rfl rfl rfl g1) (T_cmp rfl rfl rfl rfl) rfl ?_
    refine k_op0 (d := 20) (b := 212) (j' := 11) rfl rfl rfl rfl (.plain rfl) (T_pick_f rfl rfl rfl g1) rfl ?_
    refine k_op0 (d := 21) (b := 228) (j' := 12) rfl rfl rfl rfl (.plain rfl) (T_move rfl rfl) rfl ?_
    refine k_split (d := 21) rfl (fun g3 => ?_) (fun g3 => ?_)
    · have h3 := g3; (try simp only [cmpB, decide_eq_true_eq, decide_eq_false_iff_not, beq_iff_eq, beq_eq_false_iff_ne, bne_iff_ne, ne_eq, bne_eq_false_iff_eq, Bool.not_eq_true', Bool.not_eq_false', Int.not_lt, Int.not_le] at h3)
      refine k_no (d := 22) (j' := 13) rfl rfl rfl (g_ft rfl rfl rfl g3) ?_
      refine k_no (d := 23) (j' := 14) rfl rfl rfl (g_ft rfl rfl rfl g3) ?_
      refine k_no (d := 24) (j' := 15) rfl rfl rfl (g_ft rfl rfl rfl g3) ?_
      refine k_no (d := 25) (j' := 16) rfl rfl rfl (g_ft rfl rfl rfl g3) ?_
      refine k_no (d := 26) (j' := 17) rfl rfl rfl (g_ft rfl rfl rfl g3) ?_
      refine k_op0 (d := 27) (b := 324) (j' := 18) rfl rfl rfl rfl (.plain rfl) (T_pick_t rfl rfl rfl g3) rfl ?_
      refine k_done rfl ?_
      refine thenK_n ?_
      refine W_cond rfl (fun g4 => ?_) (fun g4 => ?_)
      · skip
        refine W_seq ?_
        refine W_seqK (b' := 356) rfl rfl ?_
        refine k_op0 (d := 6) (b := 340) (j' := 1) rfl rfl rfl rfl (.plain rfl) (T_assign rfl rfl) rfl ?_
        refine k_done rfl ?_
        refine thenK_n ?_
        refine W_ret ?_
        refine thenK_r ?_
        -- end 1
        exact .mk [] (.inr rfl) (.tmp rfl (.nil)) (by simp only [resLV, LV.ren, LV.v.injEq, Value.bool.injEq]; rw [tcheck, if_pos (by omega)]) (.nil) rfl
      · exact absurd (g4.symm.trans rfl) (by decide)
    · have h3 := g3; (try simp only [cmpB, decide_eq_true_eq, decide_eq_false_iff_not, beq_iff_eq, beq_eq_false_iff_ne, bne_iff_ne, ne_eq, bne_eq_false_iff_eq, Bool.not_eq_true', Bool.not_eq_false', Int.not_lt, Int.not_le] at h3)
      refine k_op0 (d := 22) (b := 244) (j' := 13) rfl rfl rfl rfl (g_ff rfl rfl rfl g3) (T_fa D (m := 0) rfl rfl rfl rfl rfl rfl) rfl ?_
      refine k_op0 (d := 23) (b := 260) (j' := 14) rfl rfl rfl rfl (g_ff rfl rfl rfl g3) (T_load_b D rfl rfl rfl rfl rfl rfl) rfl ?_
      refine k_op0 (d := 24) (b := 276) (j' := 15) rfl rfl rfl rfl (g_ff rfl rfl rfl g3) (T_fa D (m := 0) rfl rfl rfl rfl rfl rfl) rfl ?_
      refine k_op0 (d := 25) (b := 292) (j' := 16) rfl rfl rfl rfl (g_ff rfl rfl rfl g3) (T_load_b D rfl rfl rfl rfl rfl rfl) rfl ?_
      refine k_op0 (d := 26) (b := 308) (j' := 17) rfl rfl rfl rfl (g_ff rfl rfl rfl g3) (T_cmp rfl rfl rfl rfl) rfl ?_
      refine k_op0 (d := 27) (b := 324) (j' := 18) rfl rfl rfl rfl (.plain rfl) (T_pick_f rfl rfl rfl g3) rfl ?_
      refine k_done rfl ?_
      refine thenK_n ?_
      refine W_cond rfl (fun g5 => ?_) (fun g5 => ?_)
      · have h5 := g5; (try simp only [cmpB, decide_eq_true_eq, decide_eq_false_iff_not, beq_iff_eq, beq_eq_false_iff_ne, bne_iff_ne, ne_eq, bne_eq_false_iff_eq, Bool.not_eq_true', Bool.not_eq_false', Int.not_lt, Int.not_le] at h5)
        refine W_seq ?_
        refine W_seqK (b' := 356) rfl rfl ?_
        refine k_op0 (d := 6) (b := 340) (j' := 1) rfl rfl rfl rfl (.plain rfl) (T_assign rfl rfl) rfl ?_
        refine k_done rfl ?_
        refine thenK_n ?_
        refine W_ret ?_
        refine thenK_r ?_
        -- end 2
        exact .mk [] (.inr rfl) (.tmp rfl (.nil)) (by simp only [resLV, LV.ren, LV.v.injEq, Value.bool.injEq]; rw [tcheck, if_pos (by omega)]) (.nil) rfl
      · have h5 := g5; (try simp only [cmpB, decide_eq_true_eq, decide_eq_false_iff_not, beq_iff_eq, beq_eq_false_iff_ne, bne_iff_ne, ne_eq, bne_eq_false_iff_eq, Bool.not_eq_true', Bool.not_eq_false', Int.not_lt, Int.not_le] at h5)
        refine W_skip ?_
        refine thenK_n ?_
        refine W_seq ?_
        refine W_seq ?_
        refine W_seqK (b' := 356) rfl rfl ?_
        refine k_op0 (d := 7) (b := 340) (j' := 1) rfl rfl rfl rfl (.plain rfl) (T_assign rfl rfl) rfl ?_
        refine k_done rfl ?_
        refine thenK_n ?_
        refine W_block ?_
        refine W_loop (ι := Nat) 6 (fun j => ⟨[(2, .r 3), (3, .p 4 0), (4, .p 5 0), (7, .v (.int .i64 (j : Int)))], [(1, .fz 5 (f.blocks.map eBlock)), (2, .fz 5 (g.blocks.map eBlock)), (3, .fz 1 (ps.map eIs)), (4, .box 29 [.v (.int .i64 f.regs), .r 1]), (5, .box 29 [.v (.int .i64 g.regs), .r 2])]⟩) (fun j => j ≤ ps.length ∧ ∀ i, i < j → okPath f (ps.getD i default) = true) (fun j => ps.length - j) (0) (by exact ⟨Nat.zero_le _, fun i h => absurd h (Nat.not_lt_zero _)⟩) ?_ (fun j hJ => ?_)
        · exact ⟨[(4, 4), (5, 20)], .same rfl rfl (.same rfl rfl (.same rfl rfl (.eq rfl (.nil) (by first | rfl | simp)))), .fzE rfl (.fzE rfl (.fzE rfl (.box (by first | rfl | simp) (.box (by first | rfl | simp) (.nil))) (by first | rfl | simp)) (by first | rfl | simp)) (by first | rfl | simp), rfl⟩
        have hpj := fun h => hpl (ps.getD j default) (getD_mem h)
        refine W_seq ?_
        refine W_seq ?_
        refine W_seqK (b' := 70) rfl rfl ?_
        refine k_op0 (d := 28) (b := 6) (j' := 1) rfl rfl rfl rfl (.plain rfl) (T_move rfl rfl) rfl ?_
        refine k_op0 (d := 29) (b := 22) (j' := 2) rfl rfl rfl rfl (.plain rfl) (T_move rfl rfl) rfl ?_
        refine k_op0 (d := 30) (b := 38) (j' := 3) rfl rfl rfl rfl (.plain rfl) (T_len D rfl rfl rfl rfl rfl rfl) rfl ?_
        refine k_op0 (d := 31) (b := 54) (j' := 4) rfl rfl rfl rfl (.plain rfl) (T_cmp rfl rfl rfl rfl) rfl ?_
        refine k_done rfl ?_
        refine thenK_n ?_
        refine W_cond rfl (fun g6 => ?_) (fun g6 => ?_)
        · have h6 := g6; (try simp only [cmpB, decide_eq_true_eq, decide_eq_false_iff_not, beq_iff_eq, beq_eq_false_iff_ne, bne_iff_ne, ne_eq, bne_eq_false_iff_eq, Bool.not_eq_true', Bool.not_eq_false', Int.not_lt, Int.not_le] at h6)
          refine W_skip ?_
          refine thenK_n ?_
          refine W_seq ?_
          refine W_block ?_
          refine W_seq ?_
          refine W_seq ?_
          refine W_seqK (b' := 166) rfl rfl ?_
          refine k_op0 (d := 34) (b := 70) (j' := 1) rfl rfl rfl rfl (.plain rfl) (T_move rfl rfl) rfl ?_
          refine k_op0 (d := 35) (b := 86) (j' := 2) rfl rfl rfl rfl (.plain rfl) (T_move rfl rfl) rfl ?_
          first | refine k_op0 (d := 36) (b := 102) (j' := 3) rfl rfl rfl rfl (.plain rfl) (T_indexAddr D rfl rfl rfl rfl rfl rfl rfl rfl (by first | assumption | omega | exact okPath_len (hJ.2 0 (by omega)) | (simp; omega))) rfl ?_ | refine k_op0 (d := 36) (b := 102) (j' := 3) rfl rfl rfl rfl (.plain rfl) (T_indexAddrZ D rfl rfl rfl rfl rfl rfl rfl rfl (by first | assumption | omega | exact okPath_len (hJ.2 0 (by omega)) | (simp; omega)) (by first | assumption | omega | exact okPath_len (hJ.2 0 (by omega)) | (simp; omega))) rfl ?_
          refine k_op1 (d := 37) (b := 118) (j' := 4) rfl rfl rfl rfl (.plain rfl) (T_ldE D (lv := .r 118) (nn := 1) (upd := [(118, .fz 1 _)]) rfl rfl rfl rfl rfl (by first | assumption | omega | exact okPath_len (hJ.2 0 (by omega)) | (simp; omega)) rfl rfl rfl rfl) rfl ?_
          refine k_op0 (d := 38) (b := 134) (j' := 5) rfl rfl rfl rfl (.plain rfl) (T_len D rfl rfl rfl rfl rfl rfl) rfl ?_
          refine k_op0 (d := 39) (b := 150) (j' := 6) rfl rfl rfl rfl (.plain rfl) (T_cmp rfl rfl rfl rfl) rfl ?_
          refine k_done rfl ?_
          refine thenK_n ?_
          refine W_cond rfl (fun g7 => ?_) (fun g7 => ?_)
          · have h7 := g7; (try simp only [cmpB, decide_eq_true_eq, decide_eq_false_iff_not, beq_iff_eq, beq_eq_false_iff_ne, bne_iff_ne, ne_eq, bne_eq_false_iff_eq, Bool.not_eq_true', Bool.not_eq_false', Int.not_lt, Int.not_le] at h7)
            refine W_seq ?_
            refine W_seqK (b' := 182) rfl rfl ?_
            refine k_op0 (d := 6) (b := 166) (j' := 1) rfl rfl rfl rfl (.plain rfl) (T_assign rfl rfl) rfl ?_
            refine k_done rfl ?_
            refine thenK_n ?_
            refine W_ret ?_
            refine thenK_r ?_
            refine blockK_r ?_
            refine thenK_r ?_
            refine thenK_r ?_
            refine blockK_r ?_
            refine thenK_r ?_
            -- end 3
            exact .mk [] (.inr rfl) (.tmp rfl (.nil)) (by simp only [resLV, LV.ren, LV.v.injEq, Value.bool.injEq]; rw [tcheck, if_neg (by omega), if_pos (all_false_at (i := j) (by omega) (by simp only [okPath, decide_eq_true (p := (ps.getD j default).length = 0) (by omega)]; rfl))]) (.nil) rfl
          · have h7 := g7; (try simp only [cmpB, decide_eq_true_eq, decide_eq_false_iff_not, beq_iff_eq, beq_eq_false_iff_ne, bne_iff_ne, ne_eq, bne_eq_false_iff_eq, Bool.not_eq_true', Bool.not_eq_false', Int.not_lt, Int.not_le] at h7)
            refine W_skip ?_
            refine thenK_n ?_
            refine W_seq ?_
            refine W_seqK (b' := 182) rfl rfl ?_
            refine k_op0 (d := 8) (b := 166) (j' := 1) rfl rfl rfl rfl (.plain rfl) (T_assign rfl rfl) rfl ?_
            refine k_done rfl ?_
            refine thenK_n ?_
            refine W_block ?_
            have hpj := hpl (ps.getD j default) (getD_mem (by omega))
            refine W_loop (ι := Nat) 6 (fun i => ⟨[(2, .r 3), (3, .p 4 0), (4, .p 5 0), (7, .v (.int .i64 (j : Int))), (8, .v (.int .i64 (i : Int)))], [(1, .fz 5 (f.blocks.map eBlock)), (2, .fz 5 (g.blocks.map eBlock)), (3, .fz 1 (ps.map eIs)), (4, .box 29 [.v (.int .i64 f.regs), .r 1]), (5, .box 29 [.v (.int .i64 g.regs), .r 2])]⟩) (fun i => i ≤ (ps.getD j default).length ∧ ∀ m, m < i → outside f ((ps.getD j default).getD m default) = false) (fun i => (ps.getD j default).length - i) (0) (by exact ⟨Nat.zero_le _, fun m h => absurd h (Nat.not_lt_zero _)⟩) ?_ (fun i hI => ?_)
            · exact ⟨[(4, 4), (5, 5)], .same rfl rfl (.same rfl rfl (.same rfl rfl (.eq rfl (.eq rfl (.nil) (by first | rfl | simp)) (by first | rfl | simp)))), .fzE rfl (.fzE rfl (.fzE rfl (.box (by first | rfl | simp) (.box (by first | rfl | simp) (.nil))) (by first | rfl | simp)) (by first | rfl | simp)) (by first | rfl | simp), rfl⟩
            refine W_seq ?_
            refine W_seq ?_
            refine W_seqK (b' := 118) rfl rfl ?_
            refine k_op0 (d := 40) (b := 6) (j' := 1) rfl rfl rfl rfl (.plain rfl) (T_move rfl rfl) rfl ?_
            refine k_op0 (d := 41) (b := 22) (j' := 2) rfl rfl rfl rfl (.plain rfl) (T_move rfl rfl) rfl ?_
            refine k_op0 (d := 42) (b := 38) (j' := 3) rfl rfl rfl rfl (.plain rfl) (T_move rfl rfl) rfl ?_
            first | refine k_op0 (d := 43) (b := 54) (j' := 4) rfl rfl rfl rfl (.plain rfl) (T_indexAddr D rfl rfl rfl rfl rfl rfl rfl rfl (by first | assumption | omega | exact okPath_len (hJ.2 0 (by omega)) | (simp; omega))) rfl ?_ | refine k_op0 (d := 43) (b := 54) (j' := 4) rfl rfl rfl rfl (.plain rfl) (T_indexAddrZ D rfl rfl rfl rfl rfl rfl rfl rfl (by first | assumption | omega | exact okPath_len (hJ.2 0 (by omega)) | (simp; omega)) (by first | assumption | omega | exact okPath_len (hJ.2 0 (by omega)) | (simp; omega))) rfl ?_
            refine k_op1 (d := 44) (b := 70) (j' := 5) rfl rfl rfl rfl (.plain rfl) (T_ldE D (lv := .r 70) (nn := 1) (upd := [(70, .fz 1 _)]) rfl rfl rfl rfl rfl (by first | assumption | omega | exact okPath_len (hJ.2 0 (by omega)) | (simp; omega)) rfl rfl rfl rfl) rfl ?_
            refine k_op0 (d := 45) (b := 86) (j' := 6) rfl rfl rfl rfl (.plain rfl) (T_len D rfl rfl rfl rfl rfl rfl) rfl ?_
            refine k_op0 (d := 46) (b := 102) (j' := 7) rfl rfl rfl rfl (.plain rfl) (T_cmp rfl rfl rfl rfl) rfl ?_
            refine k_done rfl ?_
            refine thenK_n ?_
            refine W_cond rfl (fun g8 => ?_) (fun g8 => ?_)
            · have h8 := g8; (try simp only [cmpB, decide_eq_true_eq, decide_eq_false_iff_not, beq_iff_eq, beq_eq_false_iff_ne, bne_iff_ne, ne_eq, bne_eq_false_iff_eq, Bool.not_eq_true', Bool.not_eq_false', Int.not_lt, Int.not_le] at h8)
              refine W_skip ?_
              refine thenK_n ?_
              refine W_seq ?_
              refine W_block ?_
              refine W_seq ?_
              refine W_anyK (b' := 454) rfl rfl rfl ?_
              refine k_op0 (d := 49) (b := 118) (j' := 1) rfl rfl rfl rfl (.plain rfl) (T_move rfl rfl) rfl ?_
              refine k_op0 (d := 50) (b := 134) (j' := 2) rfl rfl rfl rfl (.plain rfl) (T_move rfl rfl) rfl ?_
              first | refine k_op0 (d := 51) (b := 150) (j' := 3) rfl rfl rfl rfl (.plain rfl) (T_indexAddr D rfl rfl rfl rfl rfl rfl rfl rfl (by first | assumption | omega | exact okPath_len (hJ.2 0 (by omega)) | (simp; omega))) rfl ?_ | refine k_op0 (d := 51) (b := 150) (j' := 3) rfl rfl rfl rfl (.plain rfl) (T_indexAddrZ D rfl rfl rfl rfl rfl rfl rfl rfl (by first | assumption | omega | exact okPath_len (hJ.2 0 (by omega)) | (simp; omega)) (by first | assumption | omega | exact okPath_len (hJ.2 0 (by omega)) | (simp; omega))) rfl ?_
              refine k_op1 (d := 52) (b := 166) (j' := 4) rfl rfl rfl rfl (.plain rfl) (T_ldE D (lv := .r 166) (nn := 1) (upd := [(166, .fz 1 _)]) rfl rfl rfl rfl rfl (by first | assumption | omega | exact okPath_len (hJ.2 0 (by omega)) | (simp; omega)) rfl rfl rfl rfl) rfl ?_
              refine k_op0 (d := 53) (b := 182) (j' := 5) rfl rfl rfl rfl (.plain rfl) (T_move rfl rfl) rfl ?_
              first | refine k_op0 (d := 54) (b := 198) (j' := 6) rfl rfl rfl rfl (.plain rfl) (T_indexAddr D rfl rfl rfl rfl rfl rfl rfl rfl (by first | assumption | omega | exact okPath_len (hJ.2 0 (by omega)) | (simp; omega))) rfl ?_ | refine k_op0 (d := 54) (b := 198) (j' := 6) rfl rfl rfl rfl (.plain rfl) (T_indexAddrZ D rfl rfl rfl rfl rfl rfl rfl rfl (by first | assumption | omega | exact okPath_len (hJ.2 0 (by omega)) | (simp; omega)) (by first | assumption | omega | exact okPath_len (hJ.2 0 (by omega)) | (simp; omega))) rfl ?_
              refine k_op0 (d := 55) (b := 214) (j' := 7) rfl rfl rfl rfl (.plain rfl) (T_ldE D (lv := .v _) (nn := 0) (upd := []) rfl rfl rfl rfl rfl (by first | assumption | omega | exact okPath_len (hJ.2 0 (by omega)) | (simp; omega)) rfl rfl rfl rfl) rfl ?_
              refine k_op0 (d := 56) (b := 230) (j' := 8) rfl rfl rfl rfl (.plain rfl) (T_cmp rfl rfl rfl rfl) rfl ?_
              refine k_op0 (d := 57) (b := 246) (j' := 9) rfl rfl rfl rfl (.plain rfl) (T_move rfl rfl) rfl ?_
              refine k_split (d := 57) rfl (fun g9 => ?_) (fun g9 => ?_)
              · have h9 := g9; (try simp only [cmpB, decide_eq_true_eq, decide_eq_false_iff_not, beq_iff_eq, beq_eq_false_iff_ne, bne_iff_ne, ne_eq, bne_eq_false_iff_eq, Bool.not_eq_true', Bool.not_eq_false', Int.not_lt, Int.not_le] at h9)
                refine k_no (d := 58) (j' := 10) rfl rfl rfl (g_ft rfl rfl rfl g9) ?_
                refine k_no (d := 59) (j' := 11) rfl rfl rfl (g_ft rfl rfl rfl g9) ?_
                refine k_no (d := 60) (j' := 12) rfl rfl rfl (g_ft rfl rfl rfl g9) ?_
                refine k_no (d := 61) (j' := 13) rfl rfl rfl (g_ft rfl rfl rfl g9) ?_
                refine k_no (d := 62) (j' := 14) rfl rfl rfl (g_ft rfl rfl rfl g9) ?_
                refine k_no (d := 63) (j' := 15) rfl rfl rfl (g_ft rfl rfl rfl g9) ?_
                refine k_no (d := 64) (j' := 16) rfl rfl rfl (g_ft rfl rfl rfl g9) ?_
                refine k_no (d := 65) (j' := 17) rfl rfl rfl (g_ft rfl rfl rfl g9) ?_
                refine k_no (d := 66) (j' := 18) rfl rfl rfl (g_ft rfl rfl rfl g9) ?_
                refine k_no (d := 67) (j' := 19) rfl rfl rfl (g_ft rfl rfl rfl g9) ?_
                refine k_no (d := 68) (j' := 20) rfl rfl rfl (g_ft rfl rfl rfl g9) ?_
                refine k_op0 (d := 69) (b := 438) (j' := 21) rfl rfl rfl rfl (.plain rfl) (T_pick_t rfl rfl rfl g9) rfl ?_
                refine k_done rfl ?_
                refine ⟨rfl, ?_⟩
                refine thenK_n ?_
                refine W_cond rfl (fun g10 => ?_) (fun g10 => ?_)
                · skip
                  refine W_seq ?_
                  refine W_seqK (b' := 470) rfl rfl ?_
                  refine k_op0 (d := 6) (b := 454) (j' := 1) rfl rfl rfl rfl (.plain rfl) (T_assign rfl rfl) rfl ?_
                  refine k_done rfl ?_
                  refine thenK_n ?_
                  refine W_ret ?_
                  refine blockK_r ?_
                  refine thenK_r ?_
                  refine thenK_r ?_
                  refine blockK_r ?_
                  refine blockK_r ?_
                  refine thenK_r ?_
                  refine thenK_r ?_
                  refine blockK_r ?_
                  refine thenK_r ?_
                  -- end 4
                  exact .mk [] (.inr rfl) (.tmp rfl (.nil)) (by simp only [resLV, LV.ren, LV.v.injEq, Value.bool.injEq]; rw [tcheck, if_neg (by omega), if_pos (all_false_at (i := j) (by omega) (by rw [okPath, any_true_getD (i := i) (by omega) (by simp only [outside, Bool.or_eq_true, decide_eq_true_eq]; omega)]; simp))]) (.nil) rfl
                · exact absurd (g10.symm.trans rfl) (by decide)
              · have h9 := g9; (try simp only [cmpB, decide_eq_true_eq, decide_eq_false_iff_not, beq_iff_eq, beq_eq_false_iff_ne, bne_iff_ne, ne_eq, bne_eq_false_iff_eq, Bool.not_eq_true', Bool.not_eq_false', Int.not_lt, Int.not_le] at h9)
                refine k_op0 (d := 58) (b := 262) (j' := 10) rfl rfl rfl rfl (g_ff rfl rfl rfl g9) (T_move rfl rfl) rfl ?_
                refine k_op0 (d := 59) (b := 278) (j' := 11) rfl rfl rfl rfl (g_ff rfl rfl rfl g9) (T_move rfl rfl) rfl ?_
                first | refine k_op0 (d := 60) (b := 294) (j' := 12) rfl rfl rfl rfl (g_ff rfl rfl rfl g9) (T_indexAddr D rfl rfl rfl rfl rfl rfl rfl rfl (by first | assumption | omega | exact okPath_len (hJ.2 0 (by omega)) | (simp; omega))) rfl ?_ | refine k_op0 (d := 60) (b := 294) (j' := 12) rfl rfl rfl rfl (g_ff rfl rfl rfl g9) (T_indexAddrZ D rfl rfl rfl rfl rfl rfl rfl rfl (by first | assumption | omega | exact okPath_len (hJ.2 0 (by omega)) | (simp; omega)) (by first | assumption | omega | exact okPath_len (hJ.2 0 (by omega)) | (simp; omega))) rfl ?_
                refine k_op1 (d := 61) (b := 310) (j' := 13) rfl rfl rfl rfl (g_ff rfl rfl rfl g9) (T_ldE D (lv := .r 310) (nn := 1) (upd := [(310, .fz 1 _)]) rfl rfl rfl rfl rfl (by first | assumption | omega | exact okPath_len (hJ.2 0 (by omega)) | (simp; omega)) rfl rfl rfl rfl) rfl ?_
                refine k_op0 (d := 62) (b := 326) (j' := 14) rfl rfl rfl rfl (g_ff rfl rfl rfl g9) (T_move rfl rfl) rfl ?_
                first | refine k_op0 (d := 63) (b := 342) (j' := 15) rfl rfl rfl rfl (g_ff rfl rfl rfl g9) (T_indexAddr D rfl rfl rfl rfl rfl rfl rfl rfl (by first | assumption | omega | exact okPath_len (hJ.2 0 (by omega)) | (simp; omega))) rfl ?_ | refine k_op0 (d := 63) (b := 342) (j' := 15) rfl rfl rfl rfl (g_ff rfl rfl rfl g9) (T_indexAddrZ D rfl rfl rfl rfl rfl rfl rfl rfl (by first | assumption | omega | exact okPath_len (hJ.2 0 (by omega)) | (simp; omega)) (by first | assumption | omega | exact okPath_len (hJ.2 0 (by omega)) | (simp; omega))) rfl ?_
                refine k_op0 (d := 64) (b := 358) (j' := 16) rfl rfl rfl rfl (g_ff rfl rfl rfl g9) (T_ldE D (lv := .v _) (nn := 0) (upd := []) rfl rfl rfl rfl rfl (by first | assumption | omega | exact okPath_len (hJ.2 0 (by omega)) | (simp; omega)) rfl rfl rfl rfl) rfl ?_
                refine k_op0 (d := 65) (b := 374) (j' := 17) rfl rfl rfl rfl (g_ff rfl rfl rfl g9) (T_fa D (m := 1) rfl rfl rfl rfl rfl rfl) rfl ?_
                refine k_op0 (d := 66) (b := 390) (j' := 18) rfl rfl rfl rfl (g_ff rfl rfl rfl g9) (T_load_b D rfl rfl rfl rfl rfl rfl) rfl ?_
                refine k_op0 (d := 67) (b := 406) (j' := 19) rfl rfl rfl rfl (g_ff rfl rfl rfl g9) (T_len D rfl rfl rfl rfl rfl rfl) rfl ?_
                refine k_op0 (d := 68) (b := 422) (j' := 20) rfl rfl rfl rfl (g_ff rfl rfl rfl g9) (T_cmp rfl rfl rfl rfl) rfl ?_
                refine k_op0 (d := 69) (b := 438) (j' := 21) rfl rfl rfl rfl (.plain rfl) (T_pick_f rfl rfl rfl g9) rfl ?_
                refine k_done rfl ?_
                refine ⟨rfl, ?_⟩
                refine thenK_n ?_
                refine W_cond rfl (fun g11 => ?_) (fun g11 => ?_)
                · have h11 := g11; (try simp only [cmpB, decide_eq_true_eq, decide_eq_false_iff_not, beq_iff_eq, beq_eq_false_iff_ne, bne_iff_ne, ne_eq, bne_eq_false_iff_eq, Bool.not_eq_true', Bool.not_eq_false', Int.not_lt, Int.not_le] at h11)
                  refine W_seq ?_
                  refine W_seqK (b' := 470) rfl rfl ?_
                  refine k_op0 (d := 6) (b := 454) (j' := 1) rfl rfl rfl rfl (.plain rfl) (T_assign rfl rfl) rfl ?_
                  refine k_done rfl ?_
                  refine thenK_n ?_
                  refine W_ret ?_
                  refine blockK_r ?_
                  refine thenK_r ?_
                  refine thenK_r ?_
                  refine blockK_r ?_
                  refine blockK_r ?_
                  refine thenK_r ?_
                  refine thenK_r ?_
                  refine blockK_r ?_
                  refine thenK_r ?_
                  -- end 5
                  exact .mk [] (.inr rfl) (.tmp rfl (.nil)) (by simp only [resLV, LV.ren, LV.v.injEq, Value.bool.injEq]; rw [tcheck, if_neg (by omega), if_pos (all_false_at (i := j) (by omega) (by rw [okPath, any_true_getD (i := i) (by omega) (by simp only [outside, Bool.or_eq_true, decide_eq_true_eq]; omega)]; simp))]) (.nil) rfl
                · have h11 := g11; (try simp only [cmpB, decide_eq_true_eq, decide_eq_false_iff_not, beq_iff_eq, beq_eq_false_iff_ne, bne_iff_ne, ne_eq, bne_eq_false_iff_eq, Bool.not_eq_true', Bool.not_eq_false', Int.not_lt, Int.not_le] at h11)
                  refine W_skip ?_
                  refine blockK_n ?_
                  refine thenK_n ?_
                  refine W_seqK (b' := 502) rfl rfl ?_
                  refine k_op0 (d := 47) (b := 454) (j' := 1) rfl rfl rfl rfl (.plain rfl) (T_move rfl rfl) rfl ?_
                  refine k_op0 (d := 48) (b := 470) (j' := 2) rfl rfl rfl rfl (.plain rfl) (T_add64 rfl rfl rfl (by first | assumption | omega | exact okPath_len (hJ.2 0 (by omega)) | (simp; omega))) rfl ?_
                  refine k_op0 (d := 8) (b := 486) (j' := 3) rfl rfl rfl rfl (.plain rfl) (T_assign rfl rfl) rfl ?_
                  refine k_done rfl ?_
                  refine thenK_n ?_
                  refine ⟨i + 1, by (try dsimp only); exact ⟨by omega, fun m hm => by rcases Nat.lt_or_ge m i with h | h; exact hI.2 m h; rw [show m = i by omega]; unfold outside; rw [decide_eq_false (by omega), decide_eq_false (by omega)]; rfl⟩, by (try dsimp only); omega, ?_⟩
                  exact ⟨[(4, 4), (5, 5)], .same rfl rfl (.same rfl rfl (.same rfl rfl (.eq rfl (.eq rfl (.nil) (by first | rfl | simp)) (by first | rfl | simp)))), .fzE rfl (.fzE rfl (.fzE rfl (.box (by first | rfl | simp) (.box (by first | rfl | simp) (.nil))) (by first | rfl | simp)) (by first | rfl | simp)) (by first | rfl | simp), rfl⟩
            · have h8 := g8; (try simp only [cmpB, decide_eq_true_eq, decide_eq_false_iff_not, beq_iff_eq, beq_eq_false_iff_ne, bne_iff_ne, ne_eq, bne_eq_false_iff_eq, Bool.not_eq_true', Bool.not_eq_false', Int.not_lt, Int.not_le] at h8)
              refine W_exit ?_
              refine thenK_e ?_
              refine thenK_e ?_
              refine blockK_hit ?_
              refine blockK_n ?_
              refine thenK_n ?_
              refine W_seqK (b' := 166) rfl rfl ?_
              refine k_op0 (d := 32) (b := 118) (j' := 1) rfl rfl rfl rfl (.plain rfl) (T_move rfl rfl) rfl ?_
              refine k_op0 (d := 33) (b := 134) (j' := 2) rfl rfl rfl rfl (.plain rfl) (T_add64 rfl rfl rfl (by first | assumption | omega | exact okPath_len (hJ.2 0 (by omega)) | (simp; omega))) rfl ?_
              refine k_op0 (d := 7) (b := 150) (j' := 3) rfl rfl rfl rfl (.plain rfl) (T_assign rfl rfl) rfl ?_
              refine k_done rfl ?_
              refine thenK_n ?_
              refine ⟨j + 1, by (try dsimp only); exact ⟨by omega, fun i1 hi => by rcases Nat.lt_or_ge i1 j with h | h; exact hJ.2 i1 h; rw [show i1 = j by omega]; exact okPath_t (by omega) (any_false_getD (fun m hm => hI.2 m (by omega)))⟩, by (try dsimp only); omega, ?_⟩
              exact ⟨[(4, 4), (5, 5)], .same rfl rfl (.same rfl rfl (.same rfl rfl (.eq rfl (.nil) (by first | rfl | simp)))), .fzE rfl (.fzE rfl (.fzE rfl (.box (by first | rfl | simp) (.box (by first | rfl | simp) (.nil))) (by first | rfl | simp)) (by first | rfl | simp)) (by first | rfl | simp), rfl⟩
        · have h6 := g6; (try simp only [cmpB, decide_eq_true_eq, decide_eq_false_iff_not, beq_iff_eq, beq_eq_false_iff_ne, bne_iff_ne, ne_eq, bne_eq_false_iff_eq, Bool.not_eq_true', Bool.not_eq_false', Int.not_lt, Int.not_le] at h6)
          refine W_exit ?_
          refine thenK_e ?_
          refine thenK_e ?_
          refine blockK_hit ?_
          refine thenK_n ?_
          refine W_seq ?_
          refine W_seq ?_
          refine W_seqK (b' := 166) rfl rfl ?_
          refine k_op0 (d := 70) (b := 70) (j' := 1) rfl rfl rfl rfl (.plain rfl) (T_move rfl rfl) rfl ?_
          first | refine k_op0 (d := 71) (b := 86) (j' := 2) rfl rfl rfl rfl (.plain rfl) (T_indexAddr D rfl rfl rfl rfl rfl rfl rfl rfl (by first | assumption | omega | exact okPath_len (hJ.2 0 (by omega)) | (simp; omega))) rfl ?_ | refine k_op0 (d := 71) (b := 86) (j' := 2) rfl rfl rfl rfl (.plain rfl) (T_indexAddrZ D rfl rfl rfl rfl rfl rfl rfl rfl (by first | assumption | omega | exact okPath_len (hJ.2 0 (by omega)) | (simp; omega)) (by first | assumption | omega | exact okPath_len (hJ.2 0 (by omega)) | (simp; omega))) rfl ?_
          refine k_op1 (d := 72) (b := 102) (j' := 3) rfl rfl rfl rfl (.plain rfl) (T_ldE D (lv := .r 102) (nn := 1) (upd := [(102, .fz 1 _)]) rfl rfl rfl rfl rfl (by first | assumption | omega | exact okPath_len (hJ.2 0 (by omega)) | (simp; omega)) rfl rfl rfl rfl) rfl ?_
          first | refine k_op0 (d := 73) (b := 118) (j' := 4) rfl rfl rfl rfl (.plain rfl) (T_indexAddr D rfl rfl rfl rfl rfl rfl rfl rfl (by first | assumption | omega | exact okPath_len (hJ.2 0 (by omega)) | (simp; omega))) rfl ?_ | refine k_op0 (d := 73) (b := 118) (j' := 4) rfl rfl rfl rfl (.plain rfl) (T_indexAddrZ D rfl rfl rfl rfl rfl rfl rfl rfl (by first | assumption | omega | exact okPath_len (hJ.2 0 (by omega)) | (simp; omega)) (by first | assumption | omega | exact okPath_len (hJ.2 0 (by omega)) | (simp; omega))) rfl ?_
          refine k_op0 (d := 74) (b := 134) (j' := 5) rfl rfl rfl rfl (.plain rfl) (T_ldE D (lv := .v _) (nn := 0) (upd := []) rfl rfl rfl rfl rfl (by first | assumption | omega | exact okPath_len (hJ.2 0 (by omega)) | (simp; omega)) rfl rfl rfl rfl) rfl ?_
          refine k_op0 (d := 75) (b := 150) (j' := 6) rfl rfl rfl rfl (.plain rfl) (T_cmp rfl rfl rfl rfl) rfl ?_
          refine k_done rfl ?_
          refine thenK_n ?_
          refine W_cond rfl (fun g12 => ?_) (fun g12 => ?_)
          · have h12 := g12; (try simp only [cmpB, decide_eq_true_eq, decide_eq_false_iff_not, beq_iff_eq, beq_eq_false_iff_ne, bne_iff_ne, ne_eq, bne_eq_false_iff_eq, Bool.not_eq_true', Bool.not_eq_false', Int.not_lt, Int.not_le] at h12)
            refine W_seq ?_
            refine W_seqK (b' := 182) rfl rfl ?_
            refine k_op0 (d := 6) (b := 166) (j' := 1) rfl rfl rfl rfl (.plain rfl) (T_assign rfl rfl) rfl ?_
            refine k_done rfl ?_
            refine thenK_n ?_
            refine W_ret ?_
            refine thenK_r ?_
            -- end 6
            exact .mk [] (.inr rfl) (.tmp rfl (.nil)) (by simp only [resLV, LV.ren, LV.v.injEq, Value.bool.injEq]; rw [tcheck, if_neg (by omega), if_neg (by simp only [Bool.not_eq_false]; exact all_iff_getD.2 (fun i hi => hJ.2 i (by omega))), if_pos (by assumption)]) (.nil) rfl
          · have h12 := g12; (try simp only [cmpB, decide_eq_true_eq, decide_eq_false_iff_not, beq_iff_eq, beq_eq_false_iff_ne, bne_iff_ne, ne_eq, bne_eq_false_iff_eq, Bool.not_eq_true', Bool.not_eq_false', Int.not_lt, Int.not_le] at h12)
            refine W_skip ?_
            refine thenK_n ?_
            refine W_seq ?_
            refine W_seq ?_
            refine W_seqK (b' := 182) rfl rfl ?_
            refine k_op0 (d := 9) (b := 166) (j' := 1) rfl rfl rfl rfl (.plain rfl) (T_assign rfl rfl) rfl ?_
            refine k_done rfl ?_
            refine thenK_n ?_
            refine W_block ?_
            have ok1 : ∀ i, i < ps.length → okPath f (ps.getD i default) = true := fun i hi => hJ.2 i (by omega)
            have hall : ps.all (okPath f) = true := all_iff_getD.2 ok1
            have hps : ∀ q ∈ ps, 0 < q.length := fun q hq => okPath_len (List.all_eq_true.1 hall q hq)
            clear hJ
            refine W_loop (ι := Nat) 6 (fun j => ⟨[(2, .r 3), (3, .p 4 0), (4, .p 5 0), (9, .v (.int .i64 (j : Int)))], [(1, .fz 5 (f.blocks.map eBlock)), (2, .fz 5 (g.blocks.map eBlock)), (3, .fz 1 (ps.map eIs)), (4, .box 29 [.v (.int .i64 f.regs), .r 1]), (5, .box 29 [.v (.int .i64 g.regs), .r 2])]⟩) (fun j => j ≤ ps.length ∧ ∀ i, i < j → made f (g.blocks.getD i default) (ps.getD i default) ps = true) (fun j => ps.length - j) (0) (by exact ⟨Nat.zero_le _, fun i h => absurd h (Nat.not_lt_zero _)⟩) ?_ (fun j hJ => ?_)
            · exact ⟨[(4, 4), (5, 5)], .same rfl rfl (.same rfl rfl (.same rfl rfl (.eq rfl (.nil) (by first | rfl | simp)))), .fzE rfl (.fzE rfl (.fzE rfl (.box (by first | rfl | simp) (.box (by first | rfl | simp) (.nil))) (by first | rfl | simp)) (by first | rfl | simp)) (by first | rfl | simp), rfl⟩
            refine W_seq ?_
            refine W_seq ?_
            refine W_seqK (b' := 70) rfl rfl ?_
            refine k_op0 (d := 76) (b := 6) (j' := 1) rfl rfl rfl rfl (.plain rfl) (T_move rfl rfl) rfl ?_
            refine k_op0 (d := 77) (b := 22) (j' := 2) rfl rfl rfl rfl (.plain rfl) (T_move rfl rfl) rfl ?_
            refine k_op0 (d := 78) (b := 38) (j' := 3) rfl rfl rfl rfl (.plain rfl) (T_len D rfl rfl rfl rfl rfl rfl) rfl ?_
            refine k_op0 (d := 79) (b := 54) (j' := 4) rfl rfl rfl rfl (.plain rfl) (T_cmp rfl rfl rfl rfl) rfl ?_
            refine k_done rfl ?_
            refine thenK_n ?_
            refine W_cond rfl (fun g13 => ?_) (fun g13 => ?_)
            · have h13 := g13; (try simp only [cmpB, decide_eq_true_eq, decide_eq_false_iff_not, beq_iff_eq, beq_eq_false_iff_ne, bne_iff_ne, ne_eq, bne_eq_false_iff_eq, Bool.not_eq_true', Bool.not_eq_false', Int.not_lt, Int.not_le] at h13)
              refine W_skip ?_
              refine thenK_n ?_
              refine W_seq ?_
              refine W_block ?_
              refine W_seq ?_
              refine W_anyK (b' := 278) rfl rfl rfl ?_
              refine k_op0 (d := 82) (b := 70) (j' := 1) rfl rfl rfl rfl (.plain rfl) (T_load_bA D (l := [_, _]) rfl rfl rfl rfl rfl rfl rfl) rfl ?_
              refine k_op0 (d := 83) (b := 86) (j' := 2) rfl rfl rfl rfl (.plain rfl) (T_fa D (m := 1) rfl rfl rfl rfl rfl rfl) rfl ?_
              refine k_op0 (d := 84) (b := 102) (j' := 3) rfl rfl rfl rfl (.plain rfl) (T_load_b D rfl rfl rfl rfl rfl rfl) rfl ?_
              refine k_op0 (d := 85) (b := 118) (j' := 4) rfl rfl rfl rfl (.plain rfl) (T_move rfl rfl) rfl ?_
              first | refine k_op0 (d := 86) (b := 134) (j' := 5) rfl rfl rfl rfl (.plain rfl) (T_indexAddr D rfl rfl rfl rfl rfl rfl rfl rfl (by first | assumption | omega | exact okPath_len (hJ.2 0 (by omega)) | (simp; omega))) rfl ?_ | refine k_op0 (d := 86) (b := 134) (j' := 5) rfl rfl rfl rfl (.plain rfl) (T_indexAddrZ D rfl rfl rfl rfl rfl rfl rfl rfl (by first | assumption | omega | exact okPath_len (hJ.2 0 (by omega)) | (simp; omega)) (by first | assumption | omega | exact okPath_len (hJ.2 0 (by omega)) | (simp; omega))) rfl ?_
              refine k_op1 (d := 87) (b := 150) (j' := 6) rfl rfl rfl rfl (.plain rfl) (T_ldEA D (l := [.r 150, .v _, .v _, .v _, .v _]) (nn := 1) (upd := [(150, .fz 8 _)]) rfl rfl rfl rfl rfl (by first | assumption | omega | exact okPath_len (hJ.2 0 (by omega)) | (simp; omega)) rfl rfl rfl rfl rfl) rfl ?_
              refine k_op0 (d := 88) (b := 166) (j' := 7) rfl rfl rfl rfl (.plain rfl) (T_move rfl rfl) rfl ?_
              refine k_op0 (d := 89) (b := 182) (j' := 8) rfl rfl rfl rfl (.plain rfl) (T_move rfl rfl) rfl ?_
              refine k_op0 (d := 90) (b := 198) (j' := 9) rfl rfl rfl rfl (.plain rfl) (T_move rfl rfl) rfl ?_
              first | refine k_op0 (d := 91) (b := 214) (j' := 10) rfl rfl rfl rfl (.plain rfl) (T_indexAddr D rfl rfl rfl rfl rfl rfl rfl rfl (by first | assumption | omega | exact okPath_len (hJ.2 0 (by omega)) | (simp; omega))) rfl ?_ | refine k_op0 (d := 91) (b := 214) (j' := 10) rfl rfl rfl rfl (.plain rfl) (T_indexAddrZ D rfl rfl rfl rfl rfl rfl rfl rfl (by first | assumption | omega | exact okPath_len (hJ.2 0 (by omega)) | (simp; omega)) (by first | assumption | omega | exact okPath_len (hJ.2 0 (by omega)) | (simp; omega))) rfl ?_
              refine k_op1 (d := 92) (b := 230) (j' := 11) rfl rfl rfl rfl (.plain rfl) (T_ldE D (lv := .r 230) (nn := 1) (upd := [(230, .fz 1 _)]) rfl rfl rfl rfl rfl (by first | assumption | omega | exact okPath_len (hJ.2 0 (by omega)) | (simp; omega)) rfl rfl rfl rfl) rfl ?_
              refine k_op0 (d := 93) (b := 246) (j' := 12) rfl rfl rfl rfl (.plain rfl) (T_callV (lvs := [_, _, _, _]) (L := [(1, 1), (2, 150), (3, 230), (4, 3)]) (one_spec _ _ _ _ (hgi _ (getD_mem (by omega))) (okPath_len (ok1 _ (by omega))) ⟨hpl _ (getD_mem (by omega)), okPath_in (ok1 _ (by omega))⟩ (hI _ (getD_mem (by omega))) hps) body76 rfl rfl rfl rfl (.fz rfl (.fz rfl (.fz rfl (.fz rfl (.nil))))) rfl) rfl ?_
              refine k_op0 (d := 94) (b := 262) (j' := 13) rfl rfl rfl rfl (.plain rfl) (T_not rfl rfl) rfl ?_
              refine k_done rfl ?_
              refine ⟨rfl, ?_⟩
              refine thenK_n ?_
              refine W_cond rfl (fun g14 => ?_) (fun g14 => ?_)
              · have h14 := g14; (try simp only [cmpB, decide_eq_true_eq, decide_eq_false_iff_not, beq_iff_eq, beq_eq_false_iff_ne, bne_iff_ne, ne_eq, bne_eq_false_iff_eq, Bool.not_eq_true', Bool.not_eq_false', Int.not_lt, Int.not_le] at h14)
                refine W_seq ?_
                refine W_seqK (b' := 294) rfl rfl ?_
                refine k_op0 (d := 6) (b := 278) (j' := 1) rfl rfl rfl rfl (.plain rfl) (T_assign rfl rfl) rfl ?_
                refine k_done rfl ?_
                refine thenK_n ?_
                refine W_ret ?_
                refine blockK_r ?_
                refine thenK_r ?_
                refine thenK_r ?_
                refine blockK_r ?_
                refine thenK_r ?_
                -- end 7
                exact .mk [] (.inr rfl) (.tmp rfl (.nil)) (by simp only [resLV, LV.ren, LV.v.injEq, Value.bool.injEq]; rw [tcheck, if_neg (by omega), if_neg (by simp only [Bool.not_eq_false]; exact hall), if_neg (by omega)]; exact (range_all_false (i := j) (by omega) (by simpa using h14)).symm) (.nil) rfl
              · have h14 := g14; (try simp only [cmpB, decide_eq_true_eq, decide_eq_false_iff_not, beq_iff_eq, beq_eq_false_iff_ne, bne_iff_ne, ne_eq, bne_eq_false_iff_eq, Bool.not_eq_true', Bool.not_eq_false', Int.not_lt, Int.not_le] at h14)
                refine W_skip ?_
                refine blockK_n ?_
                refine thenK_n ?_
                refine W_seqK (b' := 326) rfl rfl ?_
                refine k_op0 (d := 80) (b := 278) (j' := 1) rfl rfl rfl rfl (.plain rfl) (T_move rfl rfl) rfl ?_
                refine k_op0 (d := 81) (b := 294) (j' := 2) rfl rfl rfl rfl (.plain rfl) (T_add64 rfl rfl rfl (by first | assumption | omega | exact okPath_len (hJ.2 0 (by omega)) | (simp; omega))) rfl ?_
                refine k_op0 (d := 9) (b := 310) (j' := 3) rfl rfl rfl rfl (.plain rfl) (T_assign rfl rfl) rfl ?_
                refine k_done rfl ?_
                refine thenK_n ?_
                refine ⟨j + 1, by (try dsimp only); exact ⟨by omega, fun i hi => by rcases Nat.lt_or_ge i j with h | h; exact hJ.2 i h; rw [show i = j by omega]; simpa using h14⟩, by (try dsimp only); omega, ?_⟩
                exact ⟨[(4, 4), (5, 5)], .same rfl rfl (.same rfl rfl (.same rfl rfl (.eq rfl (.nil) (by first | rfl | simp)))), .fzE rfl (.fzE rfl (.fzE rfl (.box (by first | rfl | simp) (.box (by first | rfl | simp) (.nil))) (by first | rfl | simp)) (by first | rfl | simp)) (by first | rfl | simp), rfl⟩
            · have h13 := g13; (try simp only [cmpB, decide_eq_true_eq, decide_eq_false_iff_not, beq_iff_eq, beq_eq_false_iff_ne, bne_iff_ne, ne_eq, bne_eq_false_iff_eq, Bool.not_eq_true', Bool.not_eq_false', Int.not_lt, Int.not_le] at h13)
              refine W_exit ?_
              refine thenK_e ?_
              refine thenK_e ?_
              refine blockK_hit ?_
              refine thenK_n ?_
              refine W_seq ?_
              refine W_seqK (b' := 86) rfl rfl ?_
              refine k_op0 (d := 6) (b := 70) (j' := 1) rfl rfl rfl rfl (.plain rfl) (T_assign rfl rfl) rfl ?_
              refine k_done rfl ?_
              refine thenK_n ?_
              refine W_ret ?_
              -- end 8
              exact .mk [] (.inr rfl) (.tmp rfl (.nil)) (by simp only [resLV, LV.ren, LV.v.injEq, Value.bool.injEq]; rw [tcheck, if_neg (by omega), if_neg (by simp only [Bool.not_eq_false]; exact hall), if_neg (by omega)]; exact (range_all_true (fun i hi => hJ.2 i (by omega))).symm) (.nil) rfl
end Lg
end Go.Proofs.Ytpfhmodjjljpjaa

namespace Go.Proofs.Ytpfhmodjjljpjaa
open Go.RowKit
namespace Lg

/-- A path is gone on with by the one that its last block takes in (in m steps at most). -/
def follow (by_ : List Int) : Nat → List Int → Option (List Int)
  | 0, _ => none
  | m + 1, p => if fstIdx (fun y => y == lastOf p) by_ ≥ 0 then follow by_ m (p ++ [fstIdx (fun y => y == lastOf p) by_]) else some p
theorem block_ext {a b : GBlock} (h1 : a.fin = b.fin) (h2 : a.v = b.v) (h3 : a.to = b.to) (h4 : a.els = b.els) (h5 : a.ins = b.ins) : a = b := by
  cases a; cases b; simp_all
theorem fn_ne {f g : GFn} (h : ¬ f.regs = g.regs ∨ ¬ (f.blocks.length : Int) = (g.blocks.length : Int) ∨ ∃ j, ¬ f.blocks.getD j default = g.blocks.getD j default) : false = decide (f = g) := by
  refine (decide_eq_false (fun e => ?_)).symm
  subst e
  rcases h with h | h | ⟨j, h⟩ <;> exact h rfl
theorem fn_eq {f g : GFn} (h1 : f.regs = g.regs) (h2 : f.blocks.length = g.blocks.length) (h3 : ∀ j, j < f.blocks.length → f.blocks.getD j default = g.blocks.getD j default) : true = decide (f = g) := by
  refine (decide_eq_true ?_).symm
  have h4 := ext_getD h2 h3
  cases f; cases g; simp_all
end Lg
end Go.Proofs.Ytpfhmodjjljpjaa

namespace Go.Proofs.Ytpfhmodjjljpjaa
open Go.RowKit
namespace Lg
set_option maxRecDepth 100000
set_option linter.unusedVariables false
set_option linter.unusedSimpArgs false



theorem body114 : (Try.prog.funcs[114]?).map (fun fn => (fn.name == "runtime.NumGoroutine" || fn.body.isNone)) = some false := by kernel_rfl
theorem index_spec (p : List Int) (v : Int) (hp : p.length ≤ 1000000000) : Spec Try.prog 114 [.r 1, .v (.int .i64 v)] 2 [(1, .fz 1 (p.map eI))] (.v (.int .i64 (fstIdx (fun y => y == v) p))) 2 [] := by
  refine spec_of D (fn := Try.f114) rfl rfl (Nat.le_of_ble_eq_true rfl) ?_
  refine W_seq ?_
  refine W_seqK (b' := 18) rfl rfl ?_
  refine k_op0 (d := 4) (b := 2) (j' := 1) rfl rfl rfl rfl (.plain rfl) (T_assign rfl rfl) rfl ?_
  refine k_done rfl ?_
  refine thenK_n ?_
  refine W_seq ?_
  refine W_seq ?_
  refine W_seqK (b' := 66) rfl rfl ?_
  refine k_op0 (d := 6) (b := 18) (j' := 1) rfl rfl rfl rfl (.plain rfl) (T_move rfl rfl) rfl ?_
  refine k_op0 (d := 7) (b := 34) (j' := 2) rfl rfl rfl rfl (.plain rfl) (T_len D rfl rfl rfl rfl rfl rfl) rfl ?_
  refine k_op0 (d := 8) (b := 50) (j' := 3) rfl rfl rfl rfl (.plain rfl) (T_move rfl rfl) rfl ?_
  refine k_done rfl ?_
  refine thenK_n ?_
  refine W_block ?_
  refine W_loop (ι := Nat) 2 (fun j => ⟨[(0, .r 1), (1, .v (.int .i64 v)), (7, .v (.int .i64 (p.length : Int))), (8, .v (.int .i64 (j : Int)))], [(1, .fz 1 (p.map eI))]⟩) (fun j => j ≤ p.length ∧ ∀ i, i < j → (p.getD i default == v) = false) (fun j => p.length - j) (0) (by exact ⟨Nat.zero_le _, fun i h => absurd h (Nat.not_lt_zero _)⟩) ?_ (fun j hJ => ?_)
  · exact ⟨[], .same rfl rfl (.eq rfl (.eq rfl (.eq rfl (.nil) (by first | rfl | simp)) (by first | rfl | simp)) (by first | rfl | simp)), .fzE rfl (.nil) (by first | rfl | simp), rfl⟩
  refine W_seq ?_
  refine W_seqK (b' := 18) rfl rfl ?_
  refine k_op0 (d := 9) (b := 2) (j' := 1) rfl rfl rfl rfl (.plain rfl) (T_cmp rfl rfl rfl rfl) rfl ?_
  refine k_done rfl ?_
  refine thenK_n ?_
  refine W_seq ?_
  refine W_cond rfl (fun g1 => ?_) (fun g1 => ?_)
  · have h1 := g1; (try simp only [cmpB, decide_eq_true_eq, decide_eq_false_iff_not, beq_iff_eq, beq_eq_false_iff_ne, bne_iff_ne, ne_eq, bne_eq_false_iff_eq, Bool.not_eq_true', Bool.not_eq_false', Int.not_lt, Int.not_le] at h1)
    refine W_skip ?_
    refine thenK_n ?_
    refine W_seq ?_
    refine W_block ?_
    refine W_seq ?_
    refine W_seqK (b' := 50) rfl rfl ?_
    refine k_op0 (d := 10) (b := 18) (j' := 1) rfl rfl rfl rfl (.plain rfl) (T_move rfl rfl) rfl ?_
    refine k_op0 (d := 5) (b := 34) (j' := 2) rfl rfl rfl rfl (.plain rfl) (T_assign rfl rfl) rfl ?_
    refine k_done rfl ?_
    refine thenK_n ?_
    refine W_seq ?_
    refine W_seqK (b' := 146) rfl rfl ?_
    refine k_op0 (d := 11) (b := 50) (j' := 1) rfl rfl rfl rfl (.plain rfl) (T_move rfl rfl) rfl ?_
    refine k_op0 (d := 12) (b := 66) (j' := 2) rfl rfl rfl rfl (.plain rfl) (T_move rfl rfl) rfl ?_
    refine k_op0 (d := 13) (b := 82) (j' := 3) rfl rfl rfl rfl (.plain rfl) (T_move rfl rfl) rfl ?_
    first | refine k_op0 (d := 14) (b := 98) (j' := 4) rfl rfl rfl rfl (.plain rfl) (T_indexAddr D rfl rfl rfl rfl rfl rfl rfl rfl (by first | assumption | omega | (simp; omega))) rfl ?_ | refine k_op0 (d := 14) (b := 98) (j' := 4) rfl rfl rfl rfl (.plain rfl) (T_indexAddrZ D rfl rfl rfl rfl rfl rfl rfl rfl (by first | assumption | omega | (simp; omega)) (by first | assumption | omega | (simp; omega))) rfl ?_
    refine k_op0 (d := 15) (b := 114) (j' := 5) rfl rfl rfl rfl (.plain rfl) (T_ldE D (lv := .v _) (nn := 0) (upd := []) rfl rfl rfl rfl rfl (by first | assumption | omega | (simp; omega)) rfl rfl rfl rfl) rfl ?_
    refine k_op0 (d := 16) (b := 130) (j' := 6) rfl rfl rfl rfl (.plain rfl) (T_cmp rfl rfl rfl rfl) rfl ?_
    refine k_done rfl ?_
    refine thenK_n ?_
    refine W_cond rfl (fun g2 => ?_) (fun g2 => ?_)
    · have h2 := g2; (try simp only [cmpB, decide_eq_true_eq, decide_eq_false_iff_not, beq_iff_eq, beq_eq_false_iff_ne, bne_iff_ne, ne_eq, bne_eq_false_iff_eq, Bool.not_eq_true', Bool.not_eq_false', Int.not_lt, Int.not_le] at h2)
      refine W_seq ?_
      refine W_seqK (b' := 178) rfl rfl ?_
      refine k_op0 (d := 17) (b := 146) (j' := 1) rfl rfl rfl rfl (.plain rfl) (T_move rfl rfl) rfl ?_
      refine k_op0 (d := 4) (b := 162) (j' := 2) rfl rfl rfl rfl (.plain rfl) (T_assign rfl rfl) rfl ?_
      refine k_done rfl ?_
      refine thenK_n ?_
      refine W_ret ?_
      refine blockK_r ?_
      refine thenK_r ?_
      refine thenK_r ?_
      refine blockK_r ?_
      refine thenK_r ?_
      -- end 0
      exact .mk [] (.inr rfl) (.tmp rfl (.nil)) (by simp only [resLV, LV.ren, LV.v.injEq, Value.int.injEq, true_and]; exact (fstIdx_hit _ _ (by omega) (by simp [-List.getD_eq_getElem?_getD, -Int.default_eq_zero, h2]) (fun i hi => hJ.2 i hi)).symm) (.nil) rfl
    · have h2 := g2; (try simp only [cmpB, decide_eq_true_eq, decide_eq_false_iff_not, beq_iff_eq, beq_eq_false_iff_ne, bne_iff_ne, ne_eq, bne_eq_false_iff_eq, Bool.not_eq_true', Bool.not_eq_false', Int.not_lt, Int.not_le] at h2)
      refine W_skip ?_
      refine blockK_n ?_
      refine thenK_n ?_
      refine W_seqK (b' := 178) rfl rfl ?_
      refine k_op0 (d := 18) (b := 146) (j' := 1) rfl rfl rfl rfl (.plain rfl) (T_add64 rfl rfl rfl (by first | assumption | omega | (simp; omega))) rfl ?_
      refine k_op0 (d := 8) (b := 162) (j' := 2) rfl rfl rfl rfl (.plain rfl) (T_move rfl rfl) rfl ?_
      refine k_done rfl ?_
      refine thenK_n ?_
      refine ⟨j + 1, by (try dsimp only); exact ⟨by omega, fun i hi => by rcases Nat.lt_or_ge i j with h | h; exact hJ.2 i h; rw [show i = j by omega]; exact beq_eq_false_iff_ne.2 (fun e => h2 e.symm)⟩, by (try dsimp only); omega, ?_⟩
      exact ⟨[], .same rfl rfl (.eq rfl (.eq rfl (.eq rfl (.nil) (by first | rfl | simp)) (by first | rfl | simp)) (by first | rfl | simp)), .fzE rfl (.nil) (by first | rfl | simp), rfl⟩
  · have h1 := g1; (try simp only [cmpB, decide_eq_true_eq, decide_eq_false_iff_not, beq_iff_eq, beq_eq_false_iff_ne, bne_iff_ne, ne_eq, bne_eq_false_iff_eq, Bool.not_eq_true', Bool.not_eq_false', Int.not_lt, Int.not_le] at h1)
    refine W_exit ?_
    refine thenK_e ?_
    refine thenK_e ?_
    refine blockK_hit ?_
    refine thenK_n ?_
    refine W_seq ?_
    refine W_seqK (b' := 34) rfl rfl ?_
    refine k_op0 (d := 4) (b := 18) (j' := 1) rfl rfl rfl rfl (.plain rfl) (T_assign rfl rfl) rfl ?_
    refine k_done rfl ?_
    refine thenK_n ?_
    refine W_ret ?_
    -- end 1
    exact .mk [] (.inr rfl) (.tmp rfl (.nil)) (by simp only [resLV, LV.ren, LV.v.injEq, Value.int.injEq, true_and]; exact (fstIdx_none _ _ (fun i hi => hJ.2 i (by omega))).symm) (.nil) rfl

theorem body113 : (Try.prog.funcs[113]?).map (fun fn => (fn.name == "runtime.NumGoroutine" || fn.body.isNone)) = some false := by kernel_rfl
theorem follow_spec (by_ : List Int) (hb : by_.length ≤ 1000000) : ∀ (m : Nat) (p q : List Int), 1 ≤ p.length → follow by_ m p = some q → p.length + m ≤ 1000000 →  Spec Try.prog 113 [.r 1, .p 2 0, .p 3 0] 5 [(1, .row 3 1 (p.map eI)), (2, .box 52 [.r 4]), (3, .box 144 [.fn 113 [.p 2 0, .p 3 0]]), (4, .fz 1 (by_.map eI))] (.r 5) 6 [(1, .no), (2, .box 52 [.r 4]), (3, .box 144 [.fn 113 [.p 2 0, .p 3 0]]), (5, .row 3 1 (q.map eI))] := by
  intro m
  induction m with
  | zero => intro p q _ h; cases h
  | succ m ih =>
    intro p q h0 hf hl
    refine spec_of D (fn := Try.f113) rfl rfl (Nat.le_of_ble_eq_true rfl) ?_
    refine W_seq ?_
    refine W_seqK (b' := 21) rfl rfl ?_
    refine k_op1 (d := 4) (b := 5) (j' := 1) rfl rfl rfl rfl (.plain rfl) (T_nils [(3, 1)] (T_assign rfl rfl) rfl (.inr ⟨rfl, rfl⟩) (.cons (.nil rfl) .nil) (lv' := .r 5) (upd' := [(5, .row 3 1 (List.map eI ([] : List (Int))))]) (nn' := 1) rfl rfl) rfl ?_
    refine k_done rfl ?_
    refine thenK_n ?_
    refine W_seq ?_
    refine W_seqK (b' := 133) rfl rfl ?_
    refine k_op0 (d := 7) (b := 21) (j' := 1) rfl rfl rfl rfl (.plain rfl) (T_move rfl rfl) rfl ?_
    refine k_op0 (d := 8) (b := 37) (j' := 2) rfl rfl rfl rfl (.plain rfl) (T_move rfl rfl) rfl ?_
    refine k_op0 (d := 9) (b := 53) (j' := 3) rfl rfl rfl rfl (.plain rfl) (T_len D rfl rfl rfl rfl rfl rfl) rfl ?_
    refine k_op0 (d := 10) (b := 69) (j' := 4) rfl rfl rfl rfl (.plain rfl) (T_sub64 rfl rfl rfl (by first | assumption | omega | (simp; omega))) rfl ?_
    first | refine k_op0 (d := 11) (b := 85) (j' := 5) rfl rfl rfl rfl (.plain rfl) (T_indexAddr D rfl rfl rfl rfl rfl rfl rfl rfl (by first | assumption | omega | (simp; omega))) rfl ?_ | refine k_op0 (d := 11) (b := 85) (j' := 5) rfl rfl rfl rfl (.plain rfl) (T_indexAddrZ D rfl rfl rfl rfl rfl rfl rfl rfl (by first | assumption | omega | (simp; omega)) (by first | assumption | omega | (simp; omega))) rfl ?_
    refine k_op0 (d := 12) (b := 101) (j' := 6) rfl rfl rfl rfl (.plain rfl) (T_ldE D (lv := .v _) (nn := 0) (upd := []) rfl rfl rfl rfl rfl (by first | assumption | omega | (simp; omega)) rfl rfl rfl rfl) rfl ?_
    refine k_op0 (d := 5) (b := 117) (j' := 7) rfl rfl rfl rfl (.plain rfl) (T_assign rfl rfl) rfl ?_
    refine k_done rfl ?_
    refine thenK_n ?_
    refine W_seq ?_
    refine W_seq ?_
    refine W_seqK (b' := 197) rfl rfl ?_
    refine k_op0 (d := 13) (b := 133) (j' := 1) rfl rfl rfl rfl (.plain rfl) (T_load_b D rfl rfl rfl rfl rfl rfl) rfl ?_
    refine k_op0 (d := 14) (b := 149) (j' := 2) rfl rfl rfl rfl (.plain rfl) (T_move rfl rfl) rfl ?_
    refine k_op0 (d := 15) (b := 165) (j' := 3) rfl rfl rfl rfl (.plain rfl) (T_callV (lvs := [_, _]) (L := [(1, 4)]) (index_spec _ _ (by omega)) body114 rfl rfl rfl rfl (.fz rfl (.nil)) rfl) rfl ?_
    refine k_op0 (d := 6) (b := 181) (j' := 4) rfl rfl rfl rfl (.plain rfl) (T_assign rfl rfl) rfl ?_
    refine k_done rfl ?_
    refine thenK_n ?_
    refine W_seq ?_
    refine W_seqK (b' := 229) rfl rfl ?_
    refine k_op0 (d := 16) (b := 197) (j' := 1) rfl rfl rfl rfl (.plain rfl) (T_move rfl rfl) rfl ?_
    refine k_op0 (d := 17) (b := 213) (j' := 2) rfl rfl rfl rfl (.plain rfl) (T_cmp rfl rfl rfl rfl) rfl ?_
    refine k_done rfl ?_
    refine thenK_n ?_
    refine W_cond rfl (fun g1 => ?_) (fun g1 => ?_)
    · have h1 := g1; (try simp only [cmpB, decide_eq_true_eq, decide_eq_false_iff_not, beq_iff_eq, beq_eq_false_iff_ne, bne_iff_ne, ne_eq, bne_eq_false_iff_eq, Bool.not_eq_true', Bool.not_eq_false', Int.not_lt, Int.not_le] at h1)
      refine W_seq ?_
      refine W_anyK (b' := 341) rfl rfl rfl ?_
      refine k_op0 (d := 18) (b := 229) (j' := 1) rfl rfl rfl rfl (.plain rfl) (T_load_b D rfl rfl rfl rfl rfl rfl) rfl ?_
      refine k_op0 (d := 19) (b := 245) (j' := 2) rfl rfl rfl rfl (.plain rfl) (T_move rfl rfl) rfl ?_
      refine k_op0 (d := 20) (b := 261) (j' := 3) rfl rfl rfl rfl (.plain rfl) (T_move rfl rfl) rfl ?_
      refine k_op1 (d := 21) (b := 277) (j' := 4) rfl rfl rfl rfl (.plain rfl) (T_bs D (ys := [_]) (enc := eI) (l := [_]) rfl rfl rfl rfl rfl rfl (.cons rfl (flat_v rfl) (.nil)) rfl rfl rfl rfl (.v rfl (.nil)) rfl rfl) rfl ?_
      refine k_opn (d := 22) (b := 293) (j' := 5) rfl rfl rfl rfl (.plain rfl) (T_append D rfl rfl rfl rfl rfl rfl rfl rfl rfl rfl rfl rfl (by (try simp only [ty3]); first | assumption | omega | (simp; omega)) (by (try simp only [ty3]); first | assumption | omega | (simp; omega))) rfl ?_
      refine k_opn (d := 23) (b := 309) (j' := 6) rfl rfl rfl rfl (.plain rfl) (T_call (lvs := [_]) (L := [(1, 293), (2, 2), (3, 3), (4, 4)]) (lv := .r 309) (upd := [(293, .no), (2, .box 52 [.r 4]), (3, .box 144 [.fn 113 [.p 2 0, .p 3 0]]), (309, .row 3 1 _)]) (nn := 1) false (ih (p ++ [fstIdx (fun y => y == lastOf p) by_]) q (by simp) (by rw [follow, if_pos (by exact h1)] at hf; exact hf) (by simp; omega)) body113 rfl rfl rfl rfl (.row rfl (.box rfl (.box rfl (.fz rfl (.nil))))) rfl (.inl rfl) rfl rfl rfl) rfl ?_
      refine k_op0 (d := 4) (b := 325) (j' := 7) rfl rfl rfl rfl (.plain rfl) (T_assign rfl rfl) rfl ?_
      refine k_done rfl ?_
      refine ⟨rfl, ?_⟩
      refine thenK_n ?_
      refine W_ret ?_
      refine thenK_r ?_
      -- end 0
      exact .mk [(5, 309)] (.inr rfl) (.tmp rfl (.nil)) rfl (.no (.box (by first | rfl | (rw [follow, if_neg (by have := h1; unfold lastOf; omega)] at hf; cases hf; rfl)) (.box (by first | rfl | (rw [follow, if_neg (by have := h1; unfold lastOf; omega)] at hf; cases hf; rfl)) (.rowE rfl (.nil) (by first | rfl | (rw [follow, if_neg (by have := h1; unfold lastOf; omega)] at hf; cases hf; rfl)))))) rfl
    · have h1 := g1; (try simp only [cmpB, decide_eq_true_eq, decide_eq_false_iff_not, beq_iff_eq, beq_eq_false_iff_ne, bne_iff_ne, ne_eq, bne_eq_false_iff_eq, Bool.not_eq_true', Bool.not_eq_false', Int.not_lt, Int.not_le] at h1)
      refine W_skip ?_
      refine thenK_n ?_
      refine W_seq ?_
      refine W_seqK (b' := 261) rfl rfl ?_
      refine k_op0 (d := 24) (b := 229) (j' := 1) rfl rfl rfl rfl (.plain rfl) (T_move rfl rfl) rfl ?_
      refine k_op0 (d := 4) (b := 245) (j' := 2) rfl rfl rfl rfl (.plain rfl) (T_assign rfl rfl) rfl ?_
      refine k_done rfl ?_
      refine thenK_n ?_
      refine W_ret ?_
      -- end 1
      exact .mk [(5, 1)] (.inr rfl) (.tmp rfl (.nil)) rfl (.no (.box (by first | rfl | (rw [follow, if_neg (by have := h1; unfold lastOf; omega)] at hf; cases hf; rfl)) (.box (by first | rfl | (rw [follow, if_neg (by have := h1; unfold lastOf; omega)] at hf; cases hf; rfl)) (.rowE rfl (.nil) (by first | rfl | (rw [follow, if_neg (by have := h1; unfold lastOf; omega)] at hf; cases hf; rfl)))))) rfl
end Lg
end Go.Proofs.Ytpfhmodjjljpjaa

namespace Go.Proofs.Ytpfhmodjjljpjaa
open Go.RowKit
namespace Lg
set_option maxRecDepth 100000
set_option linter.unusedVariables false
set_option linter.unusedSimpArgs false



theorem body69 : (Try.prog.funcs[69]?).map (fun fn => (fn.name == "runtime.NumGoroutine" || fn.body.isNone)) = some false := by kernel_rfl
theorem begins_spec (p : List Int) (old : Int) (hp : 1 ≤ p.length) : Spec Try.prog 69 [.r 1, .p 2 0] 3 [(1, .fz 1 (p.map eI)), (2, .box 3 [.v (.int .i64 old)])] (.v (.bool (p.getD 0 default == old))) 3 [(2, .box 3 [.v (.int .i64 old)])] := by
  refine spec_of D (fn := Try.f69) rfl rfl (Nat.le_of_ble_eq_true rfl) ?_
  refine W_seq ?_
  refine W_seqK (b' := 19) rfl rfl ?_
  refine k_op0 (d := 3) (b := 3) (j' := 1) rfl rfl rfl rfl (.plain rfl) (T_assign rfl rfl) rfl ?_
  refine k_done rfl ?_
  refine thenK_n ?_
  refine W_seq ?_
  refine W_anyK (b' := 115) rfl rfl rfl ?_
  refine k_op0 (d := 4) (b := 19) (j' := 1) rfl rfl rfl rfl (.plain rfl) (T_move rfl rfl) rfl ?_
  first | refine k_op0 (d := 5) (b := 35) (j' := 2) rfl rfl rfl rfl (.plain rfl) (T_indexAddr D rfl rfl rfl rfl rfl rfl rfl rfl (by first | assumption | omega | (simp; omega))) rfl ?_ | refine k_op0 (d := 5) (b := 35) (j' := 2) rfl rfl rfl rfl (.plain rfl) (T_indexAddrZ D rfl rfl rfl rfl rfl rfl rfl rfl (by first | assumption | omega | (simp; omega)) (by first | assumption | omega | (simp; omega))) rfl ?_
  refine k_op0 (d := 6) (b := 51) (j' := 3) rfl rfl rfl rfl (.plain rfl) (T_ldE D (lv := .v _) (nn := 0) (upd := []) rfl rfl rfl rfl rfl (by first | assumption | omega | (simp; omega)) rfl rfl rfl rfl) rfl ?_
  refine k_op0 (d := 7) (b := 67) (j' := 4) rfl rfl rfl rfl (.plain rfl) (T_load_b D rfl rfl rfl rfl rfl rfl) rfl ?_
  refine k_op0 (d := 8) (b := 83) (j' := 5) rfl rfl rfl rfl (.plain rfl) (T_cmp rfl rfl rfl rfl) rfl ?_
  refine k_op0 (d := 3) (b := 99) (j' := 6) rfl rfl rfl rfl (.plain rfl) (T_assign rfl rfl) rfl ?_
  refine k_done rfl ?_
  refine ⟨rfl, ?_⟩
  refine thenK_n ?_
  refine W_ret ?_
  -- end 0
  exact .mk [] (.inr rfl) (.tmp rfl (.nil)) (by first | rfl | simp) (.box (by first | rfl | simp) (.nil)) rfl

theorem body68 : (Try.prog.funcs[68]?).map (fun fn => (fn.name == "runtime.NumGoroutine" || fn.body.isNone)) = some false := by kernel_rfl
theorem head_spec (ps : List (List Int)) (old : Int) (hl : ps.length ≤ 1000000000) (hps : ∀ p ∈ ps, 1 ≤ p.length) : Spec Try.prog 68 [.r 1, .fn 69 [.p 2 0]] 3 [(1, .fz 1 (ps.map eIs)), (2, .box 3 [.v (.int .i64 old)])] (.v (.int .i64 (fstIdx (fun p => p.getD 0 default == old) ps))) 3 [(2, .box 3 [.v (.int .i64 old)])] := by
  refine spec_of D (fn := Try.f68) rfl rfl (Nat.le_of_ble_eq_true rfl) ?_
  refine W_seq ?_
  refine W_seqK (b' := 19) rfl rfl ?_
  refine k_op0 (d := 4) (b := 3) (j' := 1) rfl rfl rfl rfl (.plain rfl) (T_assign rfl rfl) rfl ?_
  refine k_done rfl ?_
  refine thenK_n ?_
  refine W_seq ?_
  refine W_seq ?_
  refine W_seqK (b' := 67) rfl rfl ?_
  refine k_op0 (d := 6) (b := 19) (j' := 1) rfl rfl rfl rfl (.plain rfl) (T_move rfl rfl) rfl ?_
  refine k_op0 (d := 7) (b := 35) (j' := 2) rfl rfl rfl rfl (.plain rfl) (T_len D rfl rfl rfl rfl rfl rfl) rfl ?_
  refine k_op0 (d := 8) (b := 51) (j' := 3) rfl rfl rfl rfl (.plain rfl) (T_move rfl rfl) rfl ?_
  refine k_done rfl ?_
  refine thenK_n ?_
  refine W_block ?_
  refine W_loop (ι := Nat) 3 (fun j => ⟨[(0, .r 1), (1, .fn 69 [.p 2 0]), (7, .v (.int .i64 (ps.length : Int))), (8, .v (.int .i64 (j : Int)))], [(1, .fz 1 (ps.map eIs)), (2, .box 3 [.v (.int .i64 old)])]⟩) (fun j => j ≤ ps.length ∧ ∀ i, i < j → ((ps.getD i default).getD 0 default == old) = false) (fun j => ps.length - j) (0) (by exact ⟨Nat.zero_le _, fun i h => absurd h (Nat.not_lt_zero _)⟩) ?_ (fun j hJ => ?_)
  · exact ⟨[], .same rfl rfl (.same rfl rfl (.eq rfl (.eq rfl (.nil) (by first | rfl | simp)) (by first | rfl | simp))), .fzE rfl (.box (by first | rfl | simp) (.nil)) (by first | rfl | simp), rfl⟩
  refine W_seq ?_
  refine W_seqK (b' := 19) rfl rfl ?_
  refine k_op0 (d := 9) (b := 3) (j' := 1) rfl rfl rfl rfl (.plain rfl) (T_cmp rfl rfl rfl rfl) rfl ?_
  refine k_done rfl ?_
  refine thenK_n ?_
  refine W_seq ?_
  refine W_cond rfl (fun g1 => ?_) (fun g1 => ?_)
  · have h1 := g1; (try simp only [cmpB, decide_eq_true_eq, decide_eq_false_iff_not, beq_iff_eq, beq_eq_false_iff_ne, bne_iff_ne, ne_eq, bne_eq_false_iff_eq, Bool.not_eq_true', Bool.not_eq_false', Int.not_lt, Int.not_le] at h1)
    refine W_skip ?_
    refine thenK_n ?_
    refine W_seq ?_
    refine W_block ?_
    refine W_seq ?_
    refine W_seqK (b' := 51) rfl rfl ?_
    refine k_op0 (d := 10) (b := 19) (j' := 1) rfl rfl rfl rfl (.plain rfl) (T_move rfl rfl) rfl ?_
    refine k_op0 (d := 5) (b := 35) (j' := 2) rfl rfl rfl rfl (.plain rfl) (T_assign rfl rfl) rfl ?_
    refine k_done rfl ?_
    refine thenK_n ?_
    refine W_seq ?_
    refine W_seqK (b' := 147) rfl rfl ?_
    refine k_op0 (d := 11) (b := 51) (j' := 1) rfl rfl rfl rfl (.plain rfl) (T_move rfl rfl) rfl ?_
    refine k_op0 (d := 12) (b := 67) (j' := 2) rfl rfl rfl rfl (.plain rfl) (T_move rfl rfl) rfl ?_
    refine k_op0 (d := 13) (b := 83) (j' := 3) rfl rfl rfl rfl (.plain rfl) (T_move rfl rfl) rfl ?_
    first | refine k_op0 (d := 14) (b := 99) (j' := 4) rfl rfl rfl rfl (.plain rfl) (T_indexAddr D rfl rfl rfl rfl rfl rfl rfl rfl (by first | assumption | omega | (simp; omega))) rfl ?_ | refine k_op0 (d := 14) (b := 99) (j' := 4) rfl rfl rfl rfl (.plain rfl) (T_indexAddrZ D rfl rfl rfl rfl rfl rfl rfl rfl (by first | assumption | omega | (simp; omega)) (by first | assumption | omega | (simp; omega))) rfl ?_
    refine k_op1 (d := 15) (b := 115) (j' := 5) rfl rfl rfl rfl (.plain rfl) (T_ldE D (lv := .r 115) (nn := 1) (upd := [(115, .fz 1 _)]) rfl rfl rfl rfl rfl (by first | assumption | omega | (simp; omega)) rfl rfl rfl rfl) rfl ?_
    refine k_op1 (d := 16) (b := 131) (j' := 6) rfl rfl rfl rfl (.plain rfl) (T_call (lvs := [_]) (L := [(1, 115), (2, 2)]) (lv := .v _) (upd := [(2, .box 3 [.v _])]) (nn := 0) false (begins_spec _ _ (hps _ (getD_mem (by omega)))) body69 rfl rfl rfl rfl (.fz rfl (.box rfl (.nil))) rfl (.inl rfl) rfl rfl rfl) rfl ?_
    refine k_done rfl ?_
    refine thenK_n ?_
    refine W_cond rfl (fun g2 => ?_) (fun g2 => ?_)
    · have h2 := g2; (try simp only [cmpB, decide_eq_true_eq, decide_eq_false_iff_not, beq_iff_eq, beq_eq_false_iff_ne, bne_iff_ne, ne_eq, bne_eq_false_iff_eq, Bool.not_eq_true', Bool.not_eq_false', Int.not_lt, Int.not_le] at h2)
      refine W_seq ?_
      refine W_seqK (b' := 179) rfl rfl ?_
      refine k_op0 (d := 17) (b := 147) (j' := 1) rfl rfl rfl rfl (.plain rfl) (T_move rfl rfl) rfl ?_
      refine k_op0 (d := 4) (b := 163) (j' := 2) rfl rfl rfl rfl (.plain rfl) (T_assign rfl rfl) rfl ?_
      refine k_done rfl ?_
      refine thenK_n ?_
      refine W_ret ?_
      refine blockK_r ?_
      refine thenK_r ?_
      refine thenK_r ?_
      refine blockK_r ?_
      refine thenK_r ?_
      -- end 0
      exact .mk [] (.inr rfl) (.tmp rfl (.nil)) (by first | rfl | (simp only [resLV, LV.ren, LV.v.injEq, Value.int.injEq, true_and]; exact (fstIdx_hit (fun p : List Int => p.getD 0 default == old) _ (by omega) g2 (fun i hi => hJ.2 i hi)).symm)) (.box (by first | rfl | (simp only [resLV, LV.ren, LV.v.injEq, Value.int.injEq, true_and]; exact (fstIdx_hit (fun p : List Int => p.getD 0 default == old) _ (by omega) g2 (fun i hi => hJ.2 i hi)).symm)) (.nil)) rfl
    · have h2 := g2; (try simp only [cmpB, decide_eq_true_eq, decide_eq_false_iff_not, beq_iff_eq, beq_eq_false_iff_ne, bne_iff_ne, ne_eq, bne_eq_false_iff_eq, Bool.not_eq_true', Bool.not_eq_false', Int.not_lt, Int.not_le] at h2)
      refine W_skip ?_
      refine blockK_n ?_
      refine thenK_n ?_
      refine W_seqK (b' := 179) rfl rfl ?_
      refine k_op0 (d := 18) (b := 147) (j' := 1) rfl rfl rfl rfl (.plain rfl) (T_add64 rfl rfl rfl (by first | assumption | omega | (simp; omega))) rfl ?_
      refine k_op0 (d := 8) (b := 163) (j' := 2) rfl rfl rfl rfl (.plain rfl) (T_move rfl rfl) rfl ?_
      refine k_done rfl ?_
      refine thenK_n ?_
      refine ⟨j + 1, by (try dsimp only); exact ⟨by omega, fun i hi => by rcases Nat.lt_or_ge i j with h | h; exact hJ.2 i h; rw [show i = j by omega]; exact g2⟩, by (try dsimp only); omega, ?_⟩
      exact ⟨[], .same rfl rfl (.same rfl rfl (.eq rfl (.eq rfl (.nil) (by first | rfl | simp)) (by first | rfl | simp))), .fzE rfl (.box (by first | rfl | simp) (.nil)) (by first | rfl | simp), rfl⟩
  · have h1 := g1; (try simp only [cmpB, decide_eq_true_eq, decide_eq_false_iff_not, beq_iff_eq, beq_eq_false_iff_ne, bne_iff_ne, ne_eq, bne_eq_false_iff_eq, Bool.not_eq_true', Bool.not_eq_false', Int.not_lt, Int.not_le] at h1)
    refine W_exit ?_
    refine thenK_e ?_
    refine thenK_e ?_
    refine blockK_hit ?_
    refine thenK_n ?_
    refine W_seq ?_
    refine W_seqK (b' := 35) rfl rfl ?_
    refine k_op0 (d := 4) (b := 19) (j' := 1) rfl rfl rfl rfl (.plain rfl) (T_assign rfl rfl) rfl ?_
    refine k_done rfl ?_
    refine thenK_n ?_
    refine W_ret ?_
    -- end 1
    exact .mk [] (.inr rfl) (.tmp rfl (.nil)) (by first | rfl | (simp only [resLV, LV.ren, LV.v.injEq, Value.int.injEq, true_and]; exact (fstIdx_none (fun p : List Int => p.getD 0 default == old) _ (fun i hi => hJ.2 i (by omega))).symm)) (.box (by first | rfl | (simp only [resLV, LV.ren, LV.v.injEq, Value.int.injEq, true_and]; exact (fstIdx_none (fun p : List Int => p.getD 0 default == old) _ (fun i hi => hJ.2 i (by omega))).symm)) (.nil)) rfl

theorem body67 : (Try.prog.funcs[67]?).map (fun fn => (fn.name == "runtime.NumGoroutine" || fn.body.isNone)) = some false := by kernel_rfl
theorem of1_spec (ps : List (List Int)) (old : Int) (hl : ps.length ≤ 1000000000) (hps : ∀ p ∈ ps, 1 ≤ p.length) : Spec Try.prog 67 [.v (.int .i64 old), .p 1 0] 3 [(1, .box 30 [.r 2]), (2, .fz 1 (ps.map eIs))] (.v (.int .i64 (fstIdx (fun p => p.getD 0 default == old) ps))) 3 [(1, .box 30 [.r 2])] := by
  refine spec_of D (fn := Try.f67) rfl rfl (Nat.le_of_ble_eq_true rfl) ?_
  refine W_seq ?_
  refine W_seqK (b' := 35) rfl rfl ?_
  refine k_op1 (d := 2) (b := 3) (j' := 1) rfl rfl rfl rfl (.plain rfl) (T_box rfl rfl (flat_v rfl)) rfl ?_
  refine k_op0 (d := 3) (b := 19) (j' := 2) rfl rfl rfl rfl (.plain rfl) (T_assign rfl rfl) rfl ?_
  refine k_done rfl ?_
  refine thenK_n ?_
  refine W_seq ?_
  refine W_seqK (b' := 99) rfl rfl ?_
  refine k_op0 (d := 4) (b := 35) (j' := 1) rfl rfl rfl rfl (.plain rfl) (T_load_b D rfl rfl rfl rfl rfl rfl) rfl ?_
  refine k_op0 (d := 5) (b := 51) (j' := 2) rfl rfl rfl rfl (.plain rfl) (T_makeFunc (l := [_]) rfl rfl) rfl ?_
  refine k_op1 (d := 6) (b := 67) (j' := 3) rfl rfl rfl rfl (.plain rfl) (T_call (lvs := [_, _]) (L := [(1, 2), (2, 3)]) (lv := .v _) (upd := [(3, .box 3 [.v _])]) (nn := 0) false (head_spec _ _ hl hps) body68 rfl rfl rfl rfl (.fz rfl (.box rfl (.nil))) rfl (.inl rfl) rfl rfl rfl) rfl ?_
  refine k_op0 (d := 3) (b := 83) (j' := 4) rfl rfl rfl rfl (.plain rfl) (T_assign rfl rfl) rfl ?_
  refine k_done rfl ?_
  refine thenK_n ?_
  refine W_ret ?_
  -- end 0
  exact .mk [] (.inr rfl) (.tmp rfl (.nil)) (by first | rfl | simp) (.box (by first | rfl | simp) (.nil)) rfl
end Lg
end Go.Proofs.Ytpfhmodjjljpjaa

namespace Go.Proofs.Ytpfhmodjjljpjaa
open Go.RowKit
namespace Lg
set_option maxRecDepth 100000
set_option linter.unusedVariables false
set_option linter.unusedSimpArgs false



theorem body28 : (Try.prog.funcs[28]?).map (fun fn => (fn.name == "runtime.NumGoroutine" || fn.body.isNone)) = some false := by kernel_rfl
theorem same_spec (f g : GFn) (hf : f.blocks.length ≤ 1000000000) (hi : ∀ b ∈ f.blocks, b.ins.length ≤ 1000000000) : Spec Try.prog 28 [.agg [.v (.int .i64 f.regs), .r 1], .agg [.v (.int .i64 g.regs), .r 2]] 3 [(1, .fz 5 (f.blocks.map eBlock)), (2, .fz 5 (g.blocks.map eBlock))] (.v (.bool (decide (f = g)))) 3 [] := by
  refine spec_of D (fn := Try.f28) rfl rfl (Nat.le_of_ble_eq_true rfl) ?_
  refine W_seq ?_
  refine W_seqK (b' := 51) rfl rfl ?_
  refine k_op1 (d := 2) (b := 3) (j' := 1) rfl rfl rfl rfl (.plain rfl) (T_box rfl rfl flat_agg) rfl ?_
  refine k_op1 (d := 3) (b := 19) (j' := 2) rfl rfl rfl rfl (.plain rfl) (T_box rfl rfl flat_agg) rfl ?_
  refine k_op0 (d := 4) (b := 35) (j' := 3) rfl rfl rfl rfl (.plain rfl) (T_assign rfl rfl) rfl ?_
  refine k_done rfl ?_
  refine thenK_n ?_
  refine W_seq ?_
  refine W_seq ?_
  refine W_seqK (b' := 275) rfl rfl ?_
  refine k_op0 (d := 9) (b := 51) (j' := 1) rfl rfl rfl rfl (.plain rfl) (T_fa D (m := 0) rfl rfl rfl rfl rfl rfl) rfl ?_
  refine k_op0 (d := 10) (b := 67) (j' := 2) rfl rfl rfl rfl (.plain rfl) (T_load_b D rfl rfl rfl rfl rfl rfl) rfl ?_
  refine k_op0 (d := 11) (b := 83) (j' := 3) rfl rfl rfl rfl (.plain rfl) (T_fa D (m := 0) rfl rfl rfl rfl rfl rfl) rfl ?_
  refine k_op0 (d := 12) (b := 99) (j' := 4) rfl rfl rfl rfl (.plain rfl) (T_load_b D rfl rfl rfl rfl rfl rfl) rfl ?_
  refine k_op0 (d := 13) (b := 115) (j' := 5) rfl rfl rfl rfl (.plain rfl) (T_cmp rfl rfl rfl rfl) rfl ?_
  refine k_op0 (d := 14) (b := 131) (j' := 6) rfl rfl rfl rfl (.plain rfl) (T_move rfl rfl) rfl ?_
  refine k_split (d := 14) rfl (fun g1 => ?_) (fun g1 => ?_)
  · have h1 := g1; (try simp only [cmpB, decide_eq_true_eq, decide_eq_false_iff_not, beq_iff_eq, beq_eq_false_iff_ne, bne_iff_ne, ne_eq, bne_eq_false_iff_eq, Bool.not_eq_true', Bool.not_eq_false', Int.not_lt, Int.not_le] at h1)
    refine k_no (d := 15) (j' := 7) rfl rfl rfl (g_ft rfl rfl rfl g1) ?_
    refine k_no (d := 16) (j' := 8) rfl rfl rfl (g_ft rfl rfl rfl g1) ?_
    refine k_no (d := 17) (j' := 9) rfl rfl rfl (g_ft rfl rfl rfl g1) ?_
    refine k_no (d := 18) (j' := 10) rfl rfl rfl (g_ft rfl rfl rfl g1) ?_
    refine k_no (d := 19) (j' := 11) rfl rfl rfl (g_ft rfl rfl rfl g1) ?_
    refine k_no (d := 20) (j' := 12) rfl rfl rfl (g_ft rfl rfl rfl g1) ?_
    refine k_no (d := 21) (j' := 13) rfl rfl rfl (g_ft rfl rfl rfl g1) ?_
    refine k_op0 (d := 22) (b := 259) (j' := 14) rfl rfl rfl rfl (.plain rfl) (T_pick_t rfl rfl rfl g1) rfl ?_
    refine k_done rfl ?_
    refine thenK_n ?_
    refine W_cond rfl (fun g2 => ?_) (fun g2 => ?_)
    · skip
      refine W_seq ?_
      refine W_seqK (b' := 291) rfl rfl ?_
      refine k_op0 (d := 4) (b := 275) (j' := 1) rfl rfl rfl rfl (.plain rfl) (T_assign rfl rfl) rfl ?_
      refine k_done rfl ?_
      refine thenK_n ?_
      refine W_ret ?_
      refine thenK_r ?_
      -- end 0
      exact .mk [] (.inr rfl) (.tmp rfl (.nil)) (by simp only [resLV, LV.ren, LV.v.injEq, Value.bool.injEq]; exact fn_ne (.inl h1)) (.nil) rfl
    · exact absurd (g2.symm.trans rfl) (by decide)
  · have h1 := g1; (try simp only [cmpB, decide_eq_true_eq, decide_eq_false_iff_not, beq_iff_eq, beq_eq_false_iff_ne, bne_iff_ne, ne_eq, bne_eq_false_iff_eq, Bool.not_eq_true', Bool.not_eq_false', Int.not_lt, Int.not_le] at h1)
    refine k_op0 (d := 15) (b := 147) (j' := 7) rfl rfl rfl rfl (g_ff rfl rfl rfl g1) (T_fa D (m := 1) rfl rfl rfl rfl rfl rfl) rfl ?_
    refine k_op0 (d := 16) (b := 163) (j' := 8) rfl rfl rfl rfl (g_ff rfl rfl rfl g1) (T_load_b D rfl rfl rfl rfl rfl rfl) rfl ?_
    refine k_op0 (d := 17) (b := 179) (j' := 9) rfl rfl rfl rfl (g_ff rfl rfl rfl g1) (T_len D rfl rfl rfl rfl rfl rfl) rfl ?_
    refine k_op0 (d := 18) (b := 195) (j' := 10) rfl rfl rfl rfl (g_ff rfl rfl rfl g1) (T_fa D (m := 1) rfl rfl rfl rfl rfl rfl) rfl ?_
    refine k_op0 (d := 19) (b := 211) (j' := 11) rfl rfl rfl rfl (g_ff rfl rfl rfl g1) (T_load_b D rfl rfl rfl rfl rfl rfl) rfl ?_
    refine k_op0 (d := 20) (b := 227) (j' := 12) rfl rfl rfl rfl (g_ff rfl rfl rfl g1) (T_len D rfl rfl rfl rfl rfl rfl) rfl ?_
    refine k_op0 (d := 21) (b := 243) (j' := 13) rfl rfl rfl rfl (g_ff rfl rfl rfl g1) (T_cmp rfl rfl rfl rfl) rfl ?_
    refine k_op0 (d := 22) (b := 259) (j' := 14) rfl rfl rfl rfl (.plain rfl) (T_pick_f rfl rfl rfl g1) rfl ?_
    refine k_done rfl ?_
    refine thenK_n ?_
    refine W_cond rfl (fun g3 => ?_) (fun g3 => ?_)
    · have h3 := g3; (try simp only [cmpB, decide_eq_true_eq, decide_eq_false_iff_not, beq_iff_eq, beq_eq_false_iff_ne, bne_iff_ne, ne_eq, bne_eq_false_iff_eq, Bool.not_eq_true', Bool.not_eq_false', Int.not_lt, Int.not_le] at h3)
      refine W_seq ?_
      refine W_seqK (b' := 291) rfl rfl ?_
      refine k_op0 (d := 4) (b := 275) (j' := 1) rfl rfl rfl rfl (.plain rfl) (T_assign rfl rfl) rfl ?_
      refine k_done rfl ?_
      refine thenK_n ?_
      refine W_ret ?_
      refine thenK_r ?_
      -- end 1
      exact .mk [] (.inr rfl) (.tmp rfl (.nil)) (by simp only [resLV, LV.ren, LV.v.injEq, Value.bool.injEq]; exact fn_ne (.inr (.inl h3))) (.nil) rfl
    · have h3 := g3; (try simp only [cmpB, decide_eq_true_eq, decide_eq_false_iff_not, beq_iff_eq, beq_eq_false_iff_ne, bne_iff_ne, ne_eq, bne_eq_false_iff_eq, Bool.not_eq_true', Bool.not_eq_false', Int.not_lt, Int.not_le] at h3)
      refine W_skip ?_
      refine thenK_n ?_
      refine W_seq ?_
      refine W_seq ?_
      refine W_seqK (b' := 291) rfl rfl ?_
      refine k_op0 (d := 5) (b := 275) (j' := 1) rfl rfl rfl rfl (.plain rfl) (T_assign rfl rfl) rfl ?_
      refine k_done rfl ?_
      refine thenK_n ?_
      refine W_block ?_
      refine W_loop (ι := Nat) 5 (fun j => ⟨[(2, .p 3 0), (3, .p 4 0), (5, .v (.int .i64 (j : Int)))], [(1, .fz 5 (f.blocks.map eBlock)), (2, .fz 5 (g.blocks.map eBlock)), (3, .box 29 [.v (.int .i64 f.regs), .r 1]), (4, .box 29 [.v (.int .i64 g.regs), .r 2])]⟩) (fun j => j ≤ f.blocks.length ∧ ∀ i, i < j → f.blocks.getD i default = g.blocks.getD i default) (fun j => f.blocks.length - j) (0) (by exact ⟨Nat.zero_le _, fun i h => absurd h (Nat.not_lt_zero _)⟩) ?_ (fun j hJ => ?_)
      · exact ⟨[(3, 3), (4, 19)], .same rfl rfl (.same rfl rfl (.eq rfl (.nil) (by first | rfl | simp))), .fzE rfl (.fzE rfl (.box (by first | rfl | simp) (.box (by first | rfl | simp) (.nil))) (by first | rfl | simp)) (by first | rfl | simp), rfl⟩
      refine W_seq ?_
      refine W_seq ?_
      refine W_seqK (b' := 85) rfl rfl ?_
      refine k_op0 (d := 23) (b := 5) (j' := 1) rfl rfl rfl rfl (.plain rfl) (T_move rfl rfl) rfl ?_
      refine k_op0 (d := 24) (b := 21) (j' := 2) rfl rfl rfl rfl (.plain rfl) (T_fa D (m := 1) rfl rfl rfl rfl rfl rfl) rfl ?_
      refine k_op0 (d := 25) (b := 37) (j' := 3) rfl rfl rfl rfl (.plain rfl) (T_load_b D rfl rfl rfl rfl rfl rfl) rfl ?_
      refine k_op0 (d := 26) (b := 53) (j' := 4) rfl rfl rfl rfl (.plain rfl) (T_len D rfl rfl rfl rfl rfl rfl) rfl ?_
      refine k_op0 (d := 27) (b := 69) (j' := 5) rfl rfl rfl rfl (.plain rfl) (T_cmp rfl rfl rfl rfl) rfl ?_
      refine k_done rfl ?_
      refine thenK_n ?_
      refine W_cond rfl (fun g4 => ?_) (fun g4 => ?_)
      · have h4 := g4; (try simp only [cmpB, decide_eq_true_eq, decide_eq_false_iff_not, beq_iff_eq, beq_eq_false_iff_ne, bne_iff_ne, ne_eq, bne_eq_false_iff_eq, Bool.not_eq_true', Bool.not_eq_false', Int.not_lt, Int.not_le] at h4)
        refine W_skip ?_
        refine thenK_n ?_
        refine W_seq ?_
        refine W_block ?_
        refine W_seq ?_
        refine W_seqK (b' := 197) rfl rfl ?_
        refine k_op0 (d := 30) (b := 85) (j' := 1) rfl rfl rfl rfl (.plain rfl) (T_fa D (m := 1) rfl rfl rfl rfl rfl rfl) rfl ?_
        refine k_op0 (d := 31) (b := 101) (j' := 2) rfl rfl rfl rfl (.plain rfl) (T_load_b D rfl rfl rfl rfl rfl rfl) rfl ?_
        refine k_op0 (d := 32) (b := 117) (j' := 3) rfl rfl rfl rfl (.plain rfl) (T_move rfl rfl) rfl ?_
        first | refine k_op0 (d := 33) (b := 133) (j' := 4) rfl rfl rfl rfl (.plain rfl) (T_indexAddr D rfl rfl rfl rfl rfl rfl rfl rfl (by first | assumption | omega | (simp; omega))) rfl ?_ | refine k_op0 (d := 33) (b := 133) (j' := 4) rfl rfl rfl rfl (.plain rfl) (T_indexAddrZ D rfl rfl rfl rfl rfl rfl rfl rfl (by first | assumption | omega | (simp; omega)) (by first | assumption | omega | (simp; omega))) rfl ?_
        refine k_op1 (d := 34) (b := 149) (j' := 5) rfl rfl rfl rfl (.plain rfl) (T_ldEA D (l := [.r 149, .v _, .v _, .v _, .v _]) (nn := 1) (upd := [(149, .fz 8 _)]) rfl rfl rfl rfl rfl (by first | assumption | omega | (simp; omega)) rfl rfl rfl rfl rfl) rfl ?_
        refine k_opn (d := 6) (b := 165) (j' := 6) rfl rfl rfl rfl (.plain rfl) (T_nilbox [(70, 8)] (T_alloc D rfl rfl rfl) rfl (.cons (.nil rfl) <| .cons (.same _) <| .cons (.same _) <| .cons (.same _) <| .cons (.same _) <| .nil) (upd' := [(165, .box 72 [.r 166, .v (.int .i64 0), .v (.int .i64 0), .v (.int .i64 0), .v (.int .i64 0)]), (166, .row 70 8 (List.map eTac ([] : List (GTac))))]) (nn' := 2) rfl rfl) rfl ?_
        refine k_st1 (b := 181) (j' := 7) rfl rfl rfl rfl (.plain rfl) (T_stB D (cs' := [_, _, _, _, _]) rfl rfl rfl rfl flat_agg rfl rfl (Nat.le_of_ble_eq_true rfl) rfl) rfl ?_
        refine k_done rfl ?_
        refine thenK_n ?_
        refine W_seq ?_
        refine W_seqK (b' := 309) rfl rfl ?_
        refine k_op0 (d := 35) (b := 197) (j' := 1) rfl rfl rfl rfl (.plain rfl) (T_fa D (m := 1) rfl rfl rfl rfl rfl rfl) rfl ?_
        refine k_op0 (d := 36) (b := 213) (j' := 2) rfl rfl rfl rfl (.plain rfl) (T_load_b D rfl rfl rfl rfl rfl rfl) rfl ?_
        refine k_op0 (d := 37) (b := 229) (j' := 3) rfl rfl rfl rfl (.plain rfl) (T_move rfl rfl) rfl ?_
        first | refine k_op0 (d := 38) (b := 245) (j' := 4) rfl rfl rfl rfl (.plain rfl) (T_indexAddr D rfl rfl rfl rfl rfl rfl rfl rfl (by first | assumption | omega | (simp; omega))) rfl ?_ | refine k_op0 (d := 38) (b := 245) (j' := 4) rfl rfl rfl rfl (.plain rfl) (T_indexAddrZ D rfl rfl rfl rfl rfl rfl rfl rfl (by first | assumption | omega | (simp; omega)) (by first | assumption | omega | (simp; omega))) rfl ?_
        refine k_op1 (d := 39) (b := 261) (j' := 5) rfl rfl rfl rfl (.plain rfl) (T_ldEA D (l := [.r 261, .v _, .v _, .v _, .v _]) (nn := 1) (upd := [(261, .fz 8 _)]) rfl rfl rfl rfl rfl (by first | assumption | omega | (simp; omega)) rfl rfl rfl rfl rfl) rfl ?_
        refine k_opn (d := 7) (b := 277) (j' := 6) rfl rfl rfl rfl (.plain rfl) (T_nilbox [(70, 8)] (T_alloc D rfl rfl rfl) rfl (.cons (.nil rfl) <| .cons (.same _) <| .cons (.same _) <| .cons (.same _) <| .cons (.same _) <| .nil) (upd' := [(277, .box 72 [.r 278, .v (.int .i64 0), .v (.int .i64 0), .v (.int .i64 0), .v (.int .i64 0)]), (278, .row 70 8 (List.map eTac ([] : List (GTac))))]) (nn' := 2) rfl rfl) rfl ?_
        refine k_st1 (b := 293) (j' := 7) rfl rfl rfl rfl (.plain rfl) (T_stB D (cs' := [_, _, _, _, _]) rfl rfl rfl rfl flat_agg rfl rfl (Nat.le_of_ble_eq_true rfl) rfl) rfl ?_
        refine k_done rfl ?_
        refine thenK_n ?_
        refine W_seq ?_
        refine W_seq ?_
        refine W_seqK (b' := 869) rfl rfl ?_
        refine k_op0 (d := 40) (b := 309) (j' := 1) rfl rfl rfl rfl (.plain rfl) (T_fa D (m := 1) rfl rfl rfl rfl rfl rfl) rfl ?_
        refine k_op0 (d := 41) (b := 325) (j' := 2) rfl rfl rfl rfl (.plain rfl) (T_load_b D rfl rfl rfl rfl rfl rfl) rfl ?_
        refine k_op0 (d := 42) (b := 341) (j' := 3) rfl rfl rfl rfl (.plain rfl) (T_fa D (m := 1) rfl rfl rfl rfl rfl rfl) rfl ?_
        refine k_op0 (d := 43) (b := 357) (j' := 4) rfl rfl rfl rfl (.plain rfl) (T_load_b D rfl rfl rfl rfl rfl rfl) rfl ?_
        refine k_op0 (d := 44) (b := 373) (j' := 5) rfl rfl rfl rfl (.plain rfl) (T_cmp rfl rfl rfl rfl) rfl ?_
        refine k_op0 (d := 45) (b := 389) (j' := 6) rfl rfl rfl rfl (.plain rfl) (T_move rfl rfl) rfl ?_
        refine k_split (d := 45) rfl (fun g5 => ?_) (fun g5 => ?_)
        · have h5 := g5; (try simp only [cmpB, decide_eq_true_eq, decide_eq_false_iff_not, beq_iff_eq, beq_eq_false_iff_ne, bne_iff_ne, ne_eq, bne_eq_false_iff_eq, Bool.not_eq_true', Bool.not_eq_false', Int.not_lt, Int.not_le] at h5)
          refine k_no (d := 46) (j' := 7) rfl rfl rfl (g_ft rfl rfl rfl g5) ?_
          refine k_no (d := 47) (j' := 8) rfl rfl rfl (g_ft rfl rfl rfl g5) ?_
          refine k_no (d := 48) (j' := 9) rfl rfl rfl (g_ft rfl rfl rfl g5) ?_
          refine k_no (d := 49) (j' := 10) rfl rfl rfl (g_ft rfl rfl rfl g5) ?_
          refine k_no (d := 50) (j' := 11) rfl rfl rfl (g_ft rfl rfl rfl g5) ?_
          refine k_op0 (d := 51) (b := 485) (j' := 12) rfl rfl rfl rfl (.plain rfl) (T_pick_t rfl rfl rfl g5) rfl ?_
          refine k_op0 (d := 52) (b := 501) (j' := 13) rfl rfl rfl rfl (.plain rfl) (T_move rfl rfl) rfl ?_
          refine k_no (d := 53) (j' := 14) rfl rfl rfl (g_ft rfl rfl rfl rfl) ?_
          refine k_no (d := 54) (j' := 15) rfl rfl rfl (g_ft rfl rfl rfl rfl) ?_
          refine k_no (d := 55) (j' := 16) rfl rfl rfl (g_ft rfl rfl rfl rfl) ?_
          refine k_no (d := 56) (j' := 17) rfl rfl rfl (g_ft rfl rfl rfl rfl) ?_
          refine k_no (d := 57) (j' := 18) rfl rfl rfl (g_ft rfl rfl rfl rfl) ?_
          refine k_op0 (d := 58) (b := 597) (j' := 19) rfl rfl rfl rfl (.plain rfl) (T_pick_t rfl rfl rfl rfl) rfl ?_
          refine k_op0 (d := 59) (b := 613) (j' := 20) rfl rfl rfl rfl (.plain rfl) (T_move rfl rfl) rfl ?_
          refine k_no (d := 60) (j' := 21) rfl rfl rfl (g_ft rfl rfl rfl rfl) ?_
          refine k_no (d := 61) (j' := 22) rfl rfl rfl (g_ft rfl rfl rfl rfl) ?_
          refine k_no (d := 62) (j' := 23) rfl rfl rfl (g_ft rfl rfl rfl rfl) ?_
          refine k_no (d := 63) (j' := 24) rfl rfl rfl (g_ft rfl rfl rfl rfl) ?_
          refine k_no (d := 64) (j' := 25) rfl rfl rfl (g_ft rfl rfl rfl rfl) ?_
          refine k_op0 (d := 65) (b := 709) (j' := 26) rfl rfl rfl rfl (.plain rfl) (T_pick_t rfl rfl rfl rfl) rfl ?_
          refine k_op0 (d := 66) (b := 725) (j' := 27) rfl rfl rfl rfl (.plain rfl) (T_move rfl rfl) rfl ?_
          refine k_no (d := 67) (j' := 28) rfl rfl rfl (g_ft rfl rfl rfl rfl) ?_
          refine k_no (d := 68) (j' := 29) rfl rfl rfl (g_ft rfl rfl rfl rfl) ?_
          refine k_no (d := 69) (j' := 30) rfl rfl rfl (g_ft rfl rfl rfl rfl) ?_
          refine k_no (d := 70) (j' := 31) rfl rfl rfl (g_ft rfl rfl rfl rfl) ?_
          refine k_no (d := 71) (j' := 32) rfl rfl rfl (g_ft rfl rfl rfl rfl) ?_
          refine k_no (d := 72) (j' := 33) rfl rfl rfl (g_ft rfl rfl rfl rfl) ?_
          refine k_no (d := 73) (j' := 34) rfl rfl rfl (g_ft rfl rfl rfl rfl) ?_
          refine k_op0 (d := 74) (b := 853) (j' := 35) rfl rfl rfl rfl (.plain rfl) (T_pick_t rfl rfl rfl rfl) rfl ?_
          refine k_done rfl ?_
          refine thenK_n ?_
          refine W_cond rfl (fun g6 => ?_) (fun g6 => ?_)
          · skip
            refine W_seq ?_
            refine W_seqK (b' := 885) rfl rfl ?_
            refine k_op0 (d := 4) (b := 869) (j' := 1) rfl rfl rfl rfl (.plain rfl) (T_assign rfl rfl) rfl ?_
            refine k_done rfl ?_
            refine thenK_n ?_
            refine W_ret ?_
            refine thenK_r ?_
            refine blockK_r ?_
            refine thenK_r ?_
            refine thenK_r ?_
            refine blockK_r ?_
            refine thenK_r ?_
            -- end 2
            exact .mk [] (.inr rfl) (.tmp rfl (.nil)) (by simp only [resLV, LV.ren, LV.v.injEq, Value.bool.injEq]; exact fn_ne (.inr (.inr ⟨j, fun e => h5 (by rw [e])⟩))) (.nil) rfl
          · exact absurd (g6.symm.trans rfl) (by decide)
        · have h5 := g5; (try simp only [cmpB, decide_eq_true_eq, decide_eq_false_iff_not, beq_iff_eq, beq_eq_false_iff_ne, bne_iff_ne, ne_eq, bne_eq_false_iff_eq, Bool.not_eq_true', Bool.not_eq_false', Int.not_lt, Int.not_le] at h5)
          refine k_op0 (d := 46) (b := 405) (j' := 7) rfl rfl rfl rfl (g_ff rfl rfl rfl g5) (T_fa D (m := 2) rfl rfl rfl rfl rfl rfl) rfl ?_
          refine k_op0 (d := 47) (b := 421) (j' := 8) rfl rfl rfl rfl (g_ff rfl rfl rfl g5) (T_load_b D rfl rfl rfl rfl rfl rfl) rfl ?_
          refine k_op0 (d := 48) (b := 437) (j' := 9) rfl rfl rfl rfl (g_ff rfl rfl rfl g5) (T_fa D (m := 2) rfl rfl rfl rfl rfl rfl) rfl ?_
          refine k_op0 (d := 49) (b := 453) (j' := 10) rfl rfl rfl rfl (g_ff rfl rfl rfl g5) (T_load_b D rfl rfl rfl rfl rfl rfl) rfl ?_
          refine k_op0 (d := 50) (b := 469) (j' := 11) rfl rfl rfl rfl (g_ff rfl rfl rfl g5) (T_cmp rfl rfl rfl rfl) rfl ?_
          refine k_op0 (d := 51) (b := 485) (j' := 12) rfl rfl rfl rfl (.plain rfl) (T_pick_f rfl rfl rfl g5) rfl ?_
          refine k_op0 (d := 52) (b := 501) (j' := 13) rfl rfl rfl rfl (.plain rfl) (T_move rfl rfl) rfl ?_
          refine k_split (d := 52) rfl (fun g7 => ?_) (fun g7 => ?_)
          · have h7 := g7; (try simp only [cmpB, decide_eq_true_eq, decide_eq_false_iff_not, beq_iff_eq, beq_eq_false_iff_ne, bne_iff_ne, ne_eq, bne_eq_false_iff_eq, Bool.not_eq_true', Bool.not_eq_false', Int.not_lt, Int.not_le] at h7)
            refine k_no (d := 53) (j' := 14) rfl rfl rfl (g_ft rfl rfl rfl g7) ?_
            refine k_no (d := 54) (j' := 15) rfl rfl rfl (g_ft rfl rfl rfl g7) ?_
            refine k_no (d := 55) (j' := 16) rfl rfl rfl (g_ft rfl rfl rfl g7) ?_
            refine k_no (d := 56) (j' := 17) rfl rfl rfl (g_ft rfl rfl rfl g7) ?_
            refine k_no (d := 57) (j' := 18) rfl rfl rfl (g_ft rfl rfl rfl g7) ?_
            refine k_op0 (d := 58) (b := 597) (j' := 19) rfl rfl rfl rfl (.plain rfl) (T_pick_t rfl rfl rfl g7) rfl ?_
            refine k_op0 (d := 59) (b := 613) (j' := 20) rfl rfl rfl rfl (.plain rfl) (T_move rfl rfl) rfl ?_
            refine k_no (d := 60) (j' := 21) rfl rfl rfl (g_ft rfl rfl rfl rfl) ?_
            refine k_no (d := 61) (j' := 22) rfl rfl rfl (g_ft rfl rfl rfl rfl) ?_
            refine k_no (d := 62) (j' := 23) rfl rfl rfl (g_ft rfl rfl rfl rfl) ?_
            refine k_no (d := 63) (j' := 24) rfl rfl rfl (g_ft rfl rfl rfl rfl) ?_
            refine k_no (d := 64) (j' := 25) rfl rfl rfl (g_ft rfl rfl rfl rfl) ?_
            refine k_op0 (d := 65) (b := 709) (j' := 26) rfl rfl rfl rfl (.plain rfl) (T_pick_t rfl rfl rfl rfl) rfl ?_
            refine k_op0 (d := 66) (b := 725) (j' := 27) rfl rfl rfl rfl (.plain rfl) (T_move rfl rfl) rfl ?_
            refine k_no (d := 67) (j' := 28) rfl rfl rfl (g_ft rfl rfl rfl rfl) ?_
            refine k_no (d := 68) (j' := 29) rfl rfl rfl (g_ft rfl rfl rfl rfl) ?_
            refine k_no (d := 69) (j' := 30) rfl rfl rfl (g_ft rfl rfl rfl rfl) ?_
            refine k_no (d := 70) (j' := 31) rfl rfl rfl (g_ft rfl rfl rfl rfl) ?_
            refine k_no (d := 71) (j' := 32) rfl rfl rfl (g_ft rfl rfl rfl rfl) ?_
            refine k_no (d := 72) (j' := 33) rfl rfl rfl (g_ft rfl rfl rfl rfl) ?_
            refine k_no (d := 73) (j' := 34) rfl rfl rfl (g_ft rfl rfl rfl rfl) ?_
            refine k_op0 (d := 74) (b := 853) (j' := 35) rfl rfl rfl rfl (.plain rfl) (T_pick_t rfl rfl rfl rfl) rfl ?_
            refine k_done rfl ?_
            refine thenK_n ?_
            refine W_cond rfl (fun g8 => ?_) (fun g8 => ?_)
            · skip
              refine W_seq ?_
              refine W_seqK (b' := 885) rfl rfl ?_
              refine k_op0 (d := 4) (b := 869) (j' := 1) rfl rfl rfl rfl (.plain rfl) (T_assign rfl rfl) rfl ?_
              refine k_done rfl ?_
              refine thenK_n ?_
              refine W_ret ?_
              refine thenK_r ?_
              refine blockK_r ?_
              refine thenK_r ?_
              refine thenK_r ?_
              refine blockK_r ?_
              refine thenK_r ?_
              -- end 3
              exact .mk [] (.inr rfl) (.tmp rfl (.nil)) (by simp only [resLV, LV.ren, LV.v.injEq, Value.bool.injEq]; exact fn_ne (.inr (.inr ⟨j, fun e => h7 (by rw [e])⟩))) (.nil) rfl
            · exact absurd (g8.symm.trans rfl) (by decide)
          · have h7 := g7; (try simp only [cmpB, decide_eq_true_eq, decide_eq_false_iff_not, beq_iff_eq, beq_eq_false_iff_ne, bne_iff_ne, ne_eq, bne_eq_false_iff_eq, Bool.not_eq_true', Bool.not_eq_false', Int.not_lt, Int.not_le] at h7)
            refine k_op0 (d := 53) (b := 517) (j' := 14) rfl rfl rfl rfl (g_ff rfl rfl rfl g7) (T_fa D (m := 3) rfl rfl rfl rfl rfl rfl) rfl ?_
            refine k_op0 (d := 54) (b := 533) (j' := 15) rfl rfl rfl rfl (g_ff rfl rfl rfl g7) (T_load_b D rfl rfl rfl rfl rfl rfl) rfl ?_
            refine k_op0 (d := 55) (b := 549) (j' := 16) rfl rfl rfl rfl (g_ff rfl rfl rfl g7) (T_fa D (m := 3) rfl rfl rfl rfl rfl rfl) rfl ?_
            refine k_op0 (d := 56) (b := 565) (j' := 17) rfl rfl rfl rfl (g_ff rfl rfl rfl g7) (T_load_b D rfl rfl rfl rfl rfl rfl) rfl ?_
            refine k_op0 (d := 57) (b := 581) (j' := 18) rfl rfl rfl rfl (g_ff rfl rfl rfl g7) (T_cmp rfl rfl rfl rfl) rfl ?_
            refine k_op0 (d := 58) (b := 597) (j' := 19) rfl rfl rfl rfl (.plain rfl) (T_pick_f rfl rfl rfl g7) rfl ?_
            refine k_op0 (d := 59) (b := 613) (j' := 20) rfl rfl rfl rfl (.plain rfl) (T_move rfl rfl) rfl ?_
            refine k_split (d := 59) rfl (fun g9 => ?_) (fun g9 => ?_)
            · have h9 := g9; (try simp only [cmpB, decide_eq_true_eq, decide_eq_false_iff_not, beq_iff_eq, beq_eq_false_iff_ne, bne_iff_ne, ne_eq, bne_eq_false_iff_eq, Bool.not_eq_true', Bool.not_eq_false', Int.not_lt, Int.not_le] at h9)
              refine k_no (d := 60) (j' := 21) rfl rfl rfl (g_ft rfl rfl rfl g9) ?_
              refine k_no (d := 61) (j' := 22) rfl rfl rfl (g_ft rfl rfl rfl g9) ?_
              refine k_no (d := 62) (j' := 23) rfl rfl rfl (g_ft rfl rfl rfl g9) ?_
              refine k_no (d := 63) (j' := 24) rfl rfl rfl (g_ft rfl rfl rfl g9) ?_
              refine k_no (d := 64) (j' := 25) rfl rfl rfl (g_ft rfl rfl rfl g9) ?_
              refine k_op0 (d := 65) (b := 709) (j' := 26) rfl rfl rfl rfl (.plain rfl) (T_pick_t rfl rfl rfl g9) rfl ?_
              refine k_op0 (d := 66) (b := 725) (j' := 27) rfl rfl rfl rfl (.plain rfl) (T_move rfl rfl) rfl ?_
              refine k_no (d := 67) (j' := 28) rfl rfl rfl (g_ft rfl rfl rfl rfl) ?_
              refine k_no (d := 68) (j' := 29) rfl rfl rfl (g_ft rfl rfl rfl rfl) ?_
              refine k_no (d := 69) (j' := 30) rfl rfl rfl (g_ft rfl rfl rfl rfl) ?_
              refine k_no (d := 70) (j' := 31) rfl rfl rfl (g_ft rfl rfl rfl rfl) ?_
              refine k_no (d := 71) (j' := 32) rfl rfl rfl (g_ft rfl rfl rfl rfl) ?_
              refine k_no (d := 72) (j' := 33) rfl rfl rfl (g_ft rfl rfl rfl rfl) ?_
              refine k_no (d := 73) (j' := 34) rfl rfl rfl (g_ft rfl rfl rfl rfl) ?_
              refine k_op0 (d := 74) (b := 853) (j' := 35) rfl rfl rfl rfl (.plain rfl) (T_pick_t rfl rfl rfl rfl) rfl ?_
              refine k_done rfl ?_
              refine thenK_n ?_
              refine W_cond rfl (fun g10 => ?_) (fun g10 => ?_)
              · skip
                refine W_seq ?_
                refine W_seqK (b' := 885) rfl rfl ?_
                refine k_op0 (d := 4) (b := 869) (j' := 1) rfl rfl rfl rfl (.plain rfl) (T_assign rfl rfl) rfl ?_
                refine k_done rfl ?_
                refine thenK_n ?_
                refine W_ret ?_
                refine thenK_r ?_
                refine blockK_r ?_
                refine thenK_r ?_
                refine thenK_r ?_
                refine blockK_r ?_
                refine thenK_r ?_
                -- end 4
                exact .mk [] (.inr rfl) (.tmp rfl (.nil)) (by simp only [resLV, LV.ren, LV.v.injEq, Value.bool.injEq]; exact fn_ne (.inr (.inr ⟨j, fun e => h9 (by rw [e])⟩))) (.nil) rfl
              · exact absurd (g10.symm.trans rfl) (by decide)
            · have h9 := g9; (try simp only [cmpB, decide_eq_true_eq, decide_eq_false_iff_not, beq_iff_eq, beq_eq_false_iff_ne, bne_iff_ne, ne_eq, bne_eq_false_iff_eq, Bool.not_eq_true', Bool.not_eq_false', Int.not_lt, Int.not_le] at h9)
              refine k_op0 (d := 60) (b := 629) (j' := 21) rfl rfl rfl rfl (g_ff rfl rfl rfl g9) (T_fa D (m := 4) rfl rfl rfl rfl rfl rfl) rfl ?_
              refine k_op0 (d := 61) (b := 645) (j' := 22) rfl rfl rfl rfl (g_ff rfl rfl rfl g9) (T_load_b D rfl rfl rfl rfl rfl rfl) rfl ?_
              refine k_op0 (d := 62) (b := 661) (j' := 23) rfl rfl rfl rfl (g_ff rfl rfl rfl g9) (T_fa D (m := 4) rfl rfl rfl rfl rfl rfl) rfl ?_
              refine k_op0 (d := 63) (b := 677) (j' := 24) rfl rfl rfl rfl (g_ff rfl rfl rfl g9) (T_load_b D rfl rfl rfl rfl rfl rfl) rfl ?_
              refine k_op0 (d := 64) (b := 693) (j' := 25) rfl rfl rfl rfl (g_ff rfl rfl rfl g9) (T_cmp rfl rfl rfl rfl) rfl ?_
              refine k_op0 (d := 65) (b := 709) (j' := 26) rfl rfl rfl rfl (.plain rfl) (T_pick_f rfl rfl rfl g9) rfl ?_
              refine k_op0 (d := 66) (b := 725) (j' := 27) rfl rfl rfl rfl (.plain rfl) (T_move rfl rfl) rfl ?_
              refine k_split (d := 66) rfl (fun g11 => ?_) (fun g11 => ?_)
              · have h11 := g11; (try simp only [cmpB, decide_eq_true_eq, decide_eq_false_iff_not, beq_iff_eq, beq_eq_false_iff_ne, bne_iff_ne, ne_eq, bne_eq_false_iff_eq, Bool.not_eq_true', Bool.not_eq_false', Int.not_lt, Int.not_le] at h11)
                refine k_no (d := 67) (j' := 28) rfl rfl rfl (g_ft rfl rfl rfl g11) ?_
                refine k_no (d := 68) (j' := 29) rfl rfl rfl (g_ft rfl rfl rfl g11) ?_
                refine k_no (d := 69) (j' := 30) rfl rfl rfl (g_ft rfl rfl rfl g11) ?_
                refine k_no (d := 70) (j' := 31) rfl rfl rfl (g_ft rfl rfl rfl g11) ?_
                refine k_no (d := 71) (j' := 32) rfl rfl rfl (g_ft rfl rfl rfl g11) ?_
                refine k_no (d := 72) (j' := 33) rfl rfl rfl (g_ft rfl rfl rfl g11) ?_
                refine k_no (d := 73) (j' := 34) rfl rfl rfl (g_ft rfl rfl rfl g11) ?_
                refine k_op0 (d := 74) (b := 853) (j' := 35) rfl rfl rfl rfl (.plain rfl) (T_pick_t rfl rfl rfl g11) rfl ?_
                refine k_done rfl ?_
                refine thenK_n ?_
                refine W_cond rfl (fun g12 => ?_) (fun g12 => ?_)
                · skip
                  refine W_seq ?_
                  refine W_seqK (b' := 885) rfl rfl ?_
                  refine k_op0 (d := 4) (b := 869) (j' := 1) rfl rfl rfl rfl (.plain rfl) (T_assign rfl rfl) rfl ?_
                  refine k_done rfl ?_
                  refine thenK_n ?_
                  refine W_ret ?_
                  refine thenK_r ?_
                  refine blockK_r ?_
                  refine thenK_r ?_
                  refine thenK_r ?_
                  refine blockK_r ?_
                  refine thenK_r ?_
                  -- end 5
                  exact .mk [] (.inr rfl) (.tmp rfl (.nil)) (by simp only [resLV, LV.ren, LV.v.injEq, Value.bool.injEq]; exact fn_ne (.inr (.inr ⟨j, fun e => h11 (by rw [e])⟩))) (.nil) rfl
                · exact absurd (g12.symm.trans rfl) (by decide)
              · have h11 := g11; (try simp only [cmpB, decide_eq_true_eq, decide_eq_false_iff_not, beq_iff_eq, beq_eq_false_iff_ne, bne_iff_ne, ne_eq, bne_eq_false_iff_eq, Bool.not_eq_true', Bool.not_eq_false', Int.not_lt, Int.not_le] at h11)
                refine k_op0 (d := 67) (b := 741) (j' := 28) rfl rfl rfl rfl (g_ff rfl rfl rfl g11) (T_fa D (m := 0) rfl rfl rfl rfl rfl rfl) rfl ?_
                refine k_op0 (d := 68) (b := 757) (j' := 29) rfl rfl rfl rfl (g_ff rfl rfl rfl g11) (T_load_b D rfl rfl rfl rfl rfl rfl) rfl ?_
                refine k_op0 (d := 69) (b := 773) (j' := 30) rfl rfl rfl rfl (g_ff rfl rfl rfl g11) (T_len D rfl rfl rfl rfl rfl rfl) rfl ?_
                refine k_op0 (d := 70) (b := 789) (j' := 31) rfl rfl rfl rfl (g_ff rfl rfl rfl g11) (T_fa D (m := 0) rfl rfl rfl rfl rfl rfl) rfl ?_
                refine k_op0 (d := 71) (b := 805) (j' := 32) rfl rfl rfl rfl (g_ff rfl rfl rfl g11) (T_load_b D rfl rfl rfl rfl rfl rfl) rfl ?_
                refine k_op0 (d := 72) (b := 821) (j' := 33) rfl rfl rfl rfl (g_ff rfl rfl rfl g11) (T_len D rfl rfl rfl rfl rfl rfl) rfl ?_
                refine k_op0 (d := 73) (b := 837) (j' := 34) rfl rfl rfl rfl (g_ff rfl rfl rfl g11) (T_cmp rfl rfl rfl rfl) rfl ?_
                refine k_op0 (d := 74) (b := 853) (j' := 35) rfl rfl rfl rfl (.plain rfl) (T_pick_f rfl rfl rfl g11) rfl ?_
                refine k_done rfl ?_
                refine thenK_n ?_
                refine W_cond rfl (fun g13 => ?_) (fun g13 => ?_)
                · have h13 := g13; (try simp only [cmpB, decide_eq_true_eq, decide_eq_false_iff_not, beq_iff_eq, beq_eq_false_iff_ne, bne_iff_ne, ne_eq, bne_eq_false_iff_eq, Bool.not_eq_true', Bool.not_eq_false', Int.not_lt, Int.not_le] at h13)
                  refine W_seq ?_
                  refine W_seqK (b' := 885) rfl rfl ?_
                  refine k_op0 (d := 4) (b := 869) (j' := 1) rfl rfl rfl rfl (.plain rfl) (T_assign rfl rfl) rfl ?_
                  refine k_done rfl ?_
                  refine thenK_n ?_
                  refine W_ret ?_
                  refine thenK_r ?_
                  refine blockK_r ?_
                  refine thenK_r ?_
                  refine thenK_r ?_
                  refine blockK_r ?_
                  refine thenK_r ?_
                  -- end 6
                  exact .mk [] (.inr rfl) (.tmp rfl (.nil)) (by simp only [resLV, LV.ren, LV.v.injEq, Value.bool.injEq]; exact fn_ne (.inr (.inr ⟨j, fun e => h13 (by rw [e])⟩))) (.nil) rfl
                · have h13 := g13; (try simp only [cmpB, decide_eq_true_eq, decide_eq_false_iff_not, beq_iff_eq, beq_eq_false_iff_ne, bne_iff_ne, ne_eq, bne_eq_false_iff_eq, Bool.not_eq_true', Bool.not_eq_false', Int.not_lt, Int.not_le] at h13)
                  refine W_skip ?_
                  refine thenK_n ?_
                  refine W_seq ?_
                  refine W_seqK (b' := 885) rfl rfl ?_
                  refine k_op0 (d := 8) (b := 869) (j' := 1) rfl rfl rfl rfl (.plain rfl) (T_assign rfl rfl) rfl ?_
                  refine k_done rfl ?_
                  refine thenK_n ?_
                  refine W_block ?_
                  have hij := hi (f.blocks.getD j default) (getD_mem (by omega))
                  refine W_loop (ι := Nat) 9 (fun i => ⟨[(2, .p 3 0), (3, .p 4 0), (5, .v (.int .i64 (j : Int))), (6, .p 5 0), (7, .p 7 0), (8, .v (.int .i64 (i : Int)))], [(1, .fz 5 (f.blocks.map eBlock)), (2, .fz 5 (g.blocks.map eBlock)), (3, .box 29 [.v (.int .i64 f.regs), .r 1]), (4, .box 29 [.v (.int .i64 g.regs), .r 2]), (5, .box 72 [.r 6, .v (.int .i64 (f.blocks.getD j default).fin), .v (.int .i64 (f.blocks.getD j default).v), .v (.int .i64 (f.blocks.getD j default).to), .v (.int .i64 (f.blocks.getD j default).els)]), (6, .fz 8 ((f.blocks.getD j default).ins.map eTac)), (7, .box 72 [.r 8, .v (.int .i64 (g.blocks.getD j default).fin), .v (.int .i64 (g.blocks.getD j default).v), .v (.int .i64 (g.blocks.getD j default).to), .v (.int .i64 (g.blocks.getD j default).els)]), (8, .fz 8 ((g.blocks.getD j default).ins.map eTac))]⟩) (fun i => i ≤ (f.blocks.getD j default).ins.length ∧ ∀ m, m < i → (f.blocks.getD j default).ins.getD m default = (g.blocks.getD j default).ins.getD m default) (fun i => (f.blocks.getD j default).ins.length - i) (0) (by exact ⟨Nat.zero_le _, fun m h => absurd h (Nat.not_lt_zero _)⟩) ?_ (fun i hI => ?_)
                  · exact ⟨[(3, 3), (4, 4), (5, 165), (6, 149), (7, 277), (8, 261)], .same rfl rfl (.same rfl rfl (.eq rfl (.same rfl rfl (.same rfl rfl (.eq rfl (.nil) (by first | rfl | simp)))) (by first | rfl | simp))), .fzE rfl (.fzE rfl (.box (by first | rfl | simp) (.box (by first | rfl | simp) (.box (by first | rfl | simp) (.fzE rfl (.box (by first | rfl | simp) (.fzE rfl (.nil) (by first | rfl | simp))) (by first | rfl | simp))))) (by first | rfl | simp)) (by first | rfl | simp), rfl⟩
                  refine W_seq ?_
                  refine W_seq ?_
                  refine W_seqK (b' := 89) rfl rfl ?_
                  refine k_op0 (d := 75) (b := 9) (j' := 1) rfl rfl rfl rfl (.plain rfl) (T_move rfl rfl) rfl ?_
                  refine k_op0 (d := 76) (b := 25) (j' := 2) rfl rfl rfl rfl (.plain rfl) (T_fa D (m := 0) rfl rfl rfl rfl rfl rfl) rfl ?_
                  refine k_op0 (d := 77) (b := 41) (j' := 3) rfl rfl rfl rfl (.plain rfl) (T_load_b D rfl rfl rfl rfl rfl rfl) rfl ?_
                  refine k_op0 (d := 78) (b := 57) (j' := 4) rfl rfl rfl rfl (.plain rfl) (T_len D rfl rfl rfl rfl rfl rfl) rfl ?_
                  refine k_op0 (d := 79) (b := 73) (j' := 5) rfl rfl rfl rfl (.plain rfl) (T_cmp rfl rfl rfl rfl) rfl ?_
                  refine k_done rfl ?_
                  refine thenK_n ?_
                  refine W_cond rfl (fun g14 => ?_) (fun g14 => ?_)
                  · have h14 := g14; (try simp only [cmpB, decide_eq_true_eq, decide_eq_false_iff_not, beq_iff_eq, beq_eq_false_iff_ne, bne_iff_ne, ne_eq, bne_eq_false_iff_eq, Bool.not_eq_true', Bool.not_eq_false', Int.not_lt, Int.not_le] at h14)
                    refine W_skip ?_
                    refine thenK_n ?_
                    refine W_seq ?_
                    refine W_block ?_
                    refine W_seq ?_
                    refine W_anyK (b' := 265) rfl rfl rfl ?_
                    refine k_op0 (d := 82) (b := 89) (j' := 1) rfl rfl rfl rfl (.plain rfl) (T_fa D (m := 0) rfl rfl rfl rfl rfl rfl) rfl ?_
                    refine k_op0 (d := 83) (b := 105) (j' := 2) rfl rfl rfl rfl (.plain rfl) (T_load_b D rfl rfl rfl rfl rfl rfl) rfl ?_
                    refine k_op0 (d := 84) (b := 121) (j' := 3) rfl rfl rfl rfl (.plain rfl) (T_move rfl rfl) rfl ?_
                    first | refine k_op0 (d := 85) (b := 137) (j' := 4) rfl rfl rfl rfl (.plain rfl) (T_indexAddr D rfl rfl rfl rfl rfl rfl rfl rfl (by first | assumption | omega | (simp; omega))) rfl ?_ | refine k_op0 (d := 85) (b := 137) (j' := 4) rfl rfl rfl rfl (.plain rfl) (T_indexAddrZ D rfl rfl rfl rfl rfl rfl rfl rfl (by first | assumption | omega | (simp; omega)) (by first | assumption | omega | (simp; omega))) rfl ?_
                    refine k_op0 (d := 86) (b := 153) (j' := 5) rfl rfl rfl rfl (.plain rfl) (T_ldEA D (l := [.v _, .v _, .v _, .v _, .v _, .v _, .v _, .v _]) (nn := 0) (upd := []) rfl rfl rfl rfl rfl (by first | assumption | omega | (simp; omega)) rfl rfl rfl rfl rfl) rfl ?_
                    refine k_op0 (d := 87) (b := 169) (j' := 6) rfl rfl rfl rfl (.plain rfl) (T_fa D (m := 0) rfl rfl rfl rfl rfl rfl) rfl ?_
                    refine k_op0 (d := 88) (b := 185) (j' := 7) rfl rfl rfl rfl (.plain rfl) (T_load_b D rfl rfl rfl rfl rfl rfl) rfl ?_
                    refine k_op0 (d := 89) (b := 201) (j' := 8) rfl rfl rfl rfl (.plain rfl) (T_move rfl rfl) rfl ?_
                    first | refine k_op0 (d := 90) (b := 217) (j' := 9) rfl rfl rfl rfl (.plain rfl) (T_indexAddr D rfl rfl rfl rfl rfl rfl rfl rfl (by first | assumption | omega | (simp; omega))) rfl ?_ | refine k_op0 (d := 90) (b := 217) (j' := 9) rfl rfl rfl rfl (.plain rfl) (T_indexAddrZ D rfl rfl rfl rfl rfl rfl rfl rfl (by first | assumption | omega | (simp; omega)) (by first | assumption | omega | (simp; omega))) rfl ?_
                    refine k_op0 (d := 91) (b := 233) (j' := 10) rfl rfl rfl rfl (.plain rfl) (T_ldEA D (l := [.v _, .v _, .v _, .v _, .v _, .v _, .v _, .v _]) (nn := 0) (upd := []) rfl rfl rfl rfl rfl (by first | assumption | omega | (simp; omega)) rfl rfl rfl rfl rfl) rfl ?_
                    refine k_op0 (d := 92) (b := 249) (j' := 11) rfl rfl rfl rfl (.plain rfl) (T_eqTacN ((f.blocks.getD j default).ins.getD i default) ((g.blocks.getD j default).ins.getD i default) rfl rfl rfl) rfl ?_
                    refine k_done rfl ?_
                    refine ⟨rfl, ?_⟩
                    refine thenK_n ?_
                    refine W_cond rfl (fun g15 => ?_) (fun g15 => ?_)
                    · have h15 := g15; (try simp only [cmpB, decide_eq_true_eq, decide_eq_false_iff_not, beq_iff_eq, beq_eq_false_iff_ne, bne_iff_ne, ne_eq, bne_eq_false_iff_eq, Bool.not_eq_true', Bool.not_eq_false', Int.not_lt, Int.not_le] at h15)
                      refine W_seq ?_
                      refine W_seqK (b' := 281) rfl rfl ?_
                      refine k_op0 (d := 4) (b := 265) (j' := 1) rfl rfl rfl rfl (.plain rfl) (T_assign rfl rfl) rfl ?_
                      refine k_done rfl ?_
                      refine thenK_n ?_
                      refine W_ret ?_
                      refine blockK_r ?_
                      refine thenK_r ?_
                      refine thenK_r ?_
                      refine blockK_r ?_
                      refine blockK_r ?_
                      refine thenK_r ?_
                      refine thenK_r ?_
                      refine blockK_r ?_
                      refine thenK_r ?_
                      -- end 7
                      exact .mk [] (.inr rfl) (.tmp rfl (.nil)) (by simp only [resLV, LV.ren, LV.v.injEq, Value.bool.injEq]; exact fn_ne (.inr (.inr ⟨j, fun e => h15 (by rw [e])⟩))) (.nil) rfl
                    · have h15 := g15; (try simp only [cmpB, decide_eq_true_eq, decide_eq_false_iff_not, beq_iff_eq, beq_eq_false_iff_ne, bne_iff_ne, ne_eq, bne_eq_false_iff_eq, Bool.not_eq_true', Bool.not_eq_false', Int.not_lt, Int.not_le] at h15)
                      refine W_skip ?_
                      refine blockK_n ?_
                      refine thenK_n ?_
                      refine W_seqK (b' := 313) rfl rfl ?_
                      refine k_op0 (d := 80) (b := 265) (j' := 1) rfl rfl rfl rfl (.plain rfl) (T_move rfl rfl) rfl ?_
                      refine k_op0 (d := 81) (b := 281) (j' := 2) rfl rfl rfl rfl (.plain rfl) (T_add64 rfl rfl rfl (by first | assumption | omega | (simp; omega))) rfl ?_
                      refine k_op0 (d := 8) (b := 297) (j' := 3) rfl rfl rfl rfl (.plain rfl) (T_assign rfl rfl) rfl ?_
                      refine k_done rfl ?_
                      refine thenK_n ?_
                      refine ⟨i + 1, by (try dsimp only); exact ⟨by omega, fun m hm => by rcases Nat.lt_or_ge m i with h | h; exact hI.2 m h; rw [show m = i by omega]; assumption⟩, by (try dsimp only); omega, ?_⟩
                      exact ⟨[(3, 3), (4, 4), (5, 5), (6, 6), (7, 7), (8, 8)], .same rfl rfl (.same rfl rfl (.eq rfl (.same rfl rfl (.same rfl rfl (.eq rfl (.nil) (by first | rfl | simp)))) (by first | rfl | simp))), .fzE rfl (.fzE rfl (.box (by first | rfl | simp) (.box (by first | rfl | simp) (.box (by first | rfl | simp) (.fzE rfl (.box (by first | rfl | simp) (.fzE rfl (.nil) (by first | rfl | simp))) (by first | rfl | simp))))) (by first | rfl | simp)) (by first | rfl | simp), rfl⟩
                  · have h14 := g14; (try simp only [cmpB, decide_eq_true_eq, decide_eq_false_iff_not, beq_iff_eq, beq_eq_false_iff_ne, bne_iff_ne, ne_eq, bne_eq_false_iff_eq, Bool.not_eq_true', Bool.not_eq_false', Int.not_lt, Int.not_le] at h14)
                    refine W_exit ?_
                    refine thenK_e ?_
                    refine thenK_e ?_
                    refine blockK_hit ?_
                    refine blockK_n ?_
                    refine thenK_n ?_
                    refine W_seqK (b' := 137) rfl rfl ?_
                    refine k_op0 (d := 28) (b := 89) (j' := 1) rfl rfl rfl rfl (.plain rfl) (T_move rfl rfl) rfl ?_
                    refine k_op0 (d := 29) (b := 105) (j' := 2) rfl rfl rfl rfl (.plain rfl) (T_add64 rfl rfl rfl (by first | assumption | omega | (simp; omega))) rfl ?_
                    refine k_op0 (d := 5) (b := 121) (j' := 3) rfl rfl rfl rfl (.plain rfl) (T_assign rfl rfl) rfl ?_
                    refine k_done rfl ?_
                    refine thenK_n ?_
                    refine ⟨j + 1, by (try dsimp only); exact ⟨by omega, fun i1 h => by rcases Nat.lt_or_ge i1 j with h0 | h0; exact hJ.2 i1 h0; rw [show i1 = j by omega]; exact block_ext (by omega) (by omega) (by omega) (by omega) (ext_getD (by omega) (fun m hm => hI.2 m (by omega)))⟩, by (try dsimp only); omega, ?_⟩
                    exact ⟨[(3, 3), (4, 4)], .same rfl rfl (.same rfl rfl (.eq rfl (.nil) (by first | rfl | simp))), .fzE rfl (.fzE rfl (.box (by first | rfl | simp) (.box (by first | rfl | simp) (.nil))) (by first | rfl | simp)) (by first | rfl | simp), rfl⟩
      · have h4 := g4; (try simp only [cmpB, decide_eq_true_eq, decide_eq_false_iff_not, beq_iff_eq, beq_eq_false_iff_ne, bne_iff_ne, ne_eq, bne_eq_false_iff_eq, Bool.not_eq_true', Bool.not_eq_false', Int.not_lt, Int.not_le] at h4)
        refine W_exit ?_
        refine thenK_e ?_
        refine thenK_e ?_
        refine blockK_hit ?_
        refine thenK_n ?_
        refine W_seq ?_
        refine W_seqK (b' := 101) rfl rfl ?_
        refine k_op0 (d := 4) (b := 85) (j' := 1) rfl rfl rfl rfl (.plain rfl) (T_assign rfl rfl) rfl ?_
        refine k_done rfl ?_
        refine thenK_n ?_
        refine W_ret ?_
        -- end 8
        exact .mk [] (.inr rfl) (.tmp rfl (.nil)) (by simp only [resLV, LV.ren, LV.v.injEq, Value.bool.injEq]; exact fn_eq h1 (by omega) (fun j1 h => hJ.2 j1 (by omega))) (.nil) rfl
end Lg
end Go.Proofs.Ytpfhmodjjljpjaa

namespace Go.Proofs.Ytpfhmodjjljpjaa
open Go.RowKit
namespace Lg

/-- Depth first from b on: what was seen, what was gone out of; in m calls' depth at most. -/
def visit (next : List (List Int)) (bar : Int) : Nat → Int → List Bool × List Bool → Option (List Bool × List Bool)
  | 0, _, _ => none
  | m + 1, b, st => if b < 0 ∨ b ≥ (next.length : Int) ∨ st.1.getD b.toNat default = true ∨ b = bar then some st
    else ((next.getD b.toNat default).foldlM (fun st n => visit next bar m n st) (st.1.set b.toNat true, st.2)).map fun st => (st.1, st.2.set b.toNat true)

theorem foldlM_take {α β : Type} [Inhabited β] (f : α → β → Option α) : ∀ (l : List β) (a r : α), l.foldlM f a = some r → ∀ j, j ≤ l.length → ∃ st, (l.take j).foldlM f a = some st ∧ (j < l.length → ∃ st', f st (l.getD j default) = some st' ∧ (l.take (j + 1)).foldlM f a = some st')
  | [], a, r, h, j, hj => ⟨a, by simp, fun hj => by simp at hj⟩
  | b :: l, a, r, h, 0, hj => by
    simp only [List.foldlM_cons] at h
    cases hb : f a b with
    | none => rw [hb] at h; cases h
    | some a' => exact ⟨a, by simp, fun _ => ⟨a', by simpa using hb, by simp [hb]⟩⟩
  | b :: l, a, r, h, j + 1, hj => by
    simp only [List.foldlM_cons] at h
    cases hb : f a b with
    | none => rw [hb] at h; cases h
    | some a' =>
      rw [hb] at h
      obtain ⟨st, h1, h2⟩ := foldlM_take f l a' r h j (by simpa using hj)
      refine ⟨st, by simp [hb, h1], fun hj2 => ?_⟩
      obtain ⟨st', h3, h4⟩ := h2 (by simpa using hj2)
      exact ⟨st', by simpa using h3, by simpa [hb] using h4⟩

theorem foldlM_len {β : Type} (f : List Bool × List Bool → β → Option (List Bool × List Bool)) (n : Nat) (hf : ∀ st x st', f st x = some st' → st.1.length = n → st.2.length = n → st'.1.length = n ∧ st'.2.length = n) : ∀ (l : List β) (a r : List Bool × List Bool), l.foldlM f a = some r → a.1.length = n → a.2.length = n → r.1.length = n ∧ r.2.length = n
  | [], a, r, h, h1, h2 => by cases h; exact ⟨h1, h2⟩
  | b :: l, a, r, h, h1, h2 => by
    simp only [List.foldlM_cons] at h
    cases hb : f a b with
    | none => rw [hb] at h; cases h
    | some a' =>
      rw [hb] at h
      obtain ⟨h3, h4⟩ := hf a b a' hb h1 h2
      exact foldlM_len f n hf l a' r h h3 h4

theorem visit_len (next : List (List Int)) (bar : Int) (n : Nat) : ∀ (m : Nat) (b : Int) (st st' : List Bool × List Bool), visit next bar m b st = some st' → st.1.length = n → st.2.length = n → st'.1.length = n ∧ st'.2.length = n
  | 0, b, st, st', h, _, _ => by cases h
  | m + 1, b, st, st', h, h1, h2 => by
    rw [visit] at h
    split at h
    · cases h; exact ⟨h1, h2⟩
    · obtain ⟨r, hr, rfl⟩ := Option.map_eq_some_iff.1 h
      obtain ⟨h3, h4⟩ := foldlM_len _ n (fun st x st' h => visit_len next bar n m x st st' h) _ _ _ hr (by simpa using h1) h2
      exact ⟨h3, by simpa using h4⟩

/-- A step of the fold: what a call of visit hands on. -/
def vnext (next : List (List Int)) (bar : Int) (m : Nat) (b : Int) (st : List Bool × List Bool) : List Bool × List Bool := (visit next bar m b st).getD st
theorem vstep {next : List (List Int)} {bar : Int} {m : Nat} {l : List Int} {a r st : List Bool × List Bool} (h : l.foldlM (fun st n => visit next bar m n st) a = some r) {j : Nat} (hj : j < l.length) (hst : (l.take j).foldlM (fun st n => visit next bar m n st) a = some st) :
    visit next bar m (l.getD j default) st = some (vnext next bar m (l.getD j default) st) ∧ (l.take (j + 1)).foldlM (fun st n => visit next bar m n st) a = some (vnext next bar m (l.getD j default) st) := by
  obtain ⟨st1, h1, h2⟩ := foldlM_take _ l a r h j (by omega)
  obtain ⟨st', h3, h4⟩ := h2 hj
  rw [hst] at h1
  cases h1
  unfold vnext
  rw [h3]
  exact ⟨rfl, h4⟩
theorem flat_eB {e : Nat} (l : List Bool) : FlatOb (.row e 1 (l.map eB)) := fun r hr cl hc => by
  obtain ⟨x, _, rfl⟩ := List.mem_map.1 hr
  simp [eB] at hc
  exact ⟨_, hc⟩
theorem flat_eI {e : Nat} (l : List Int) : FlatOb (.row e 1 (l.map eI)) := fun r hr cl hc => by
  obtain ⟨x, _, rfl⟩ := List.mem_map.1 hr
  simp [eI] at hc
  exact ⟨_, hc⟩
end Lg
end Go.Proofs.Ytpfhmodjjljpjaa
