import Derived.Test.YtpfhmodjjljpjaaF3
namespace Go.Proofs.Ytpfhmodjjljpjaa
open Go.RowKit
namespace Lg
set_option maxRecDepth 100000
set_option linter.unusedVariables false
set_option linter.unusedSimpArgs false



theorem body30 : (Try.prog.funcs[30]?).map (fun fn => (fn.name == "runtime.NumGoroutine" || fn.body.isNone)) = some false := by kernel_rfl
theorem tcheck_spec (f g : GFn) (ps : List (List Int)) (hl : ps.length ≤ 1000000000) (hpl : ∀ p ∈ ps, p.length ≤ 1000000000) (hgi : ∀ b ∈ g.blocks, b.ins.length ≤ 1000000) (hI : ∀ p ∈ ps, ∀ j, (instrs f (p.take j)).length ≤ 1000000000) : Spec Try.prog 30 [.agg [.v (.int .i64 f.regs), .r 1], .agg [.v (.int .i64 g.regs), .r 2], .r 3] 4 [(1, .fz 5 (f.blocks.map eBlock)), (2, .fz 5 (g.blocks.map eBlock)), (3, .fz 1 (ps.map eIs))] (.v (.bool (tcheck f g ps))) 4 [] := by
  refine spec_of D (fn := Try.f30) rfl rfl (Nat.le_of_ble_eq_true rfl) ?_
  refine W_seq ?_
  refine W_seqK (b' := 52) rfl rfl ?_
  refine k_op1 (d := 3) (b := 4) (j' := 1) rfl rfl rfl rfl (.plain rfl) (T_box rfl rfl flat_agg) rfl ?_
  refine k_op1 (d := 4) (b := 20) (j' := 2) rfl rfl rfl rfl (.plain rfl) (T_box rfl rfl flat_agg) rfl ?_
  refine k_op0 (d := 6) (b := 36) (j' := 3) rfl rfl rfl rfl (.plain rfl) (T_assign rfl rfl) rfl ?_
  refine k_done rfl ?_
  refine thenK_n ?_
  refine W_seq ?_
  refine W_seq ?_
  refine W_seqK (b' := 340) rfl rfl ?_
  refine k_op0 (d := 11) (b := 52) (j' := 1) rfl rfl rfl rfl (.plain rfl) (T_move rfl rfl) rfl ?_
  refine k_op0 (d := 12) (b := 68) (j' := 2) rfl rfl rfl rfl (.plain rfl) (T_len D rfl rfl rfl rfl rfl rfl) rfl ?_
  refine k_op0 (d := 13) (b := 84) (j' := 3) rfl rfl rfl rfl (.plain rfl) (T_fa D (m := 1) rfl rfl rfl rfl rfl rfl) rfl ?_
  refine k_op0 (d := 14) (b := 100) (j' := 4) rfl rfl rfl rfl (.plain rfl) (T_load_b D rfl rfl rfl rfl rfl rfl) rfl ?_
  refine k_op0 (d := 15) (b := 116) (j' := 5) rfl rfl rfl rfl (.plain rfl) (T_len D rfl rfl rfl rfl rfl rfl) rfl ?_
  refine k_op0 (d := 16) (b := 132) (j' := 6) rfl rfl rfl rfl (.plain rfl) (T_cmp rfl rfl rfl rfl) rfl ?_
  refine k_op0 (d := 17) (b := 148) (j' := 7) rfl rfl rfl rfl (.plain rfl) (T_move rfl rfl) rfl ?_
  refine k_split (d := 17) rfl (fun g1 => ?_) (fun g1 => ?_)
  · have h1 := g1; (try simp only [cmpB, decide_eq_true_eq, decide_eq_false_iff_not, beq_iff_eq, beq_eq_false_iff_ne, bne_iff_ne, ne_eq, bne_eq_false_iff_eq, Bool.not_eq_true', Bool.not_eq_false', Int.not_lt, Int.not_le] at h1)
    refine k_no (d := 18) (j' := 8) rfl rfl rfl (g_ft rfl rfl rfl g1) ?_
    refine k_no (d := 19) (j' := 9) rfl rfl rfl (g_ft rfl rfl rfl g1) ?_
    refine k_no (d := 20) (j' := 10) rfl rfl rfl (g_ft rfl rfl rfl g1) ?_
    refine k_op0 (d := 21) (b := 212) (j' := 11) rfl rfl rfl rfl (.plain rfl) (T_pick_t rfl rfl rfl g1) rfl ?_
    refine k_op0 (d := 22) (b := 228) (j' := 12) rfl rfl rfl rfl (.plain rfl) (T_move rfl rfl) rfl ?_
    refine k_no (d := 23) (j' := 13) rfl rfl rfl (g_ft rfl rfl rfl rfl) ?_
    refine k_no (d := 24) (j' := 14) rfl rfl rfl (g_ft rfl rfl rfl rfl) ?_
    refine k_no (d := 25) (j' := 15) rfl rfl rfl (g_ft rfl rfl rfl rfl) ?_
    refine k_no (d := 26) (j' := 16) rfl rfl rfl (g_ft rfl rfl rfl rfl) ?_
    refine k_no (d := 27) (j' := 17) rfl rfl rfl (g_ft rfl rfl rfl rfl) ?_
    refine k_op0 (d := 28) (b := 324) (j' := 18) rfl rfl rfl rfl (.plain rfl) (T_pick_t rfl rfl rfl rfl) rfl ?_
    refine k_done rfl ?_
    refine thenK_n ?_
    refine W_cond rfl (fun g2 => ?_) (fun g2 => ?_)
    · skip
      refine W_seq ?_
      refine W_seqK (b' := 356) rfl rfl ?_
      refine k_op0 (d := 6) (b := 340) (j' := 1) rfl rfl rfl rfl (.plain rfl) (T_assign rfl rfl) rfl ?_
      refine k_done rfl ?_
      refine thenK_n ?_
      refine W_ret ?_
      refine thenK_r ?_
      -- end 0
      exact .mk [] (.inr rfl) (.tmp rfl (.nil)) (by simp only [resLV, LV.ren, LV.v.injEq, Value.bool.injEq]; rw [tcheck, if_pos (by omega)]) (.nil) rfl
    · exact absurd (g2.symm.trans rfl) (by decide)
  · have h1 := g1; (try simp only [cmpB, decide_eq_true_eq, decide_eq_false_iff_not, beq_iff_eq, beq_eq_false_iff_ne, bne_iff_ne, ne_eq, bne_eq_false_iff_eq, Bool.not_eq_true', Bool.not_eq_false', Int.not_lt, Int.not_le] at h1)
    refine k_op0 (d := 18) (b := 164) (j' := 8) rfl rfl rfl rfl (g_ff rfl rfl rfl g1) (T_move rfl rfl) rfl ?_
    refine k_op0 (d := 19) (b := 180) (j' := 9) rfl rfl rfl rfl (g_ff rfl rfl rfl g1) (T_len D rfl rfl rfl rfl rfl rfl) rfl ?_
    refine k_op0 (d := 20) (b := 196) (j' := 10) rfl rfl rfl rfl (g_ff rfl rfl rfl g1) (T_cmp rfl rfl rfl rfl) rfl ?_
    refine k_op0 (d := 21) (b := 212) (j' := 11) rfl rfl rfl rfl (.plain rfl) (T_pick_f rfl rfl rfl g1) rfl ?_
    refine k_op0 (d := 22) (b := 228) (j' := 12) rfl rfl rfl rfl (.plain rfl) (T_move rfl rfl) rfl ?_
    refine k_split (d := 22) rfl (fun g3 => ?_) (fun g3 => ?_)
    · have h3 := g3; (try simp only [cmpB, decide_eq_true_eq, decide_eq_false_iff_not, beq_iff_eq, beq_eq_false_iff_ne, bne_iff_ne, ne_eq, bne_eq_false_iff_eq, Bool.not_eq_true', Bool.not_eq_false', Int.not_lt, Int.not_le] at h3)
      refine k_no (d := 23) (j' := 13) rfl rfl rfl (g_ft rfl rfl rfl g3) ?_
      refine k_no (d := 24) (j' := 14) rfl rfl rfl (g_ft rfl rfl rfl g3) ?_
      refine k_no (d := 25) (j' := 15) rfl rfl rfl (g_ft rfl rfl rfl g3) ?_
      refine k_no (d := 26) (j' := 16) rfl rfl rfl (g_ft rfl rfl rfl g3) ?_
      refine k_no (d := 27) (j' := 17) rfl rfl rfl (g_ft rfl rfl rfl g3) ?_
      refine k_op0 (d := 28) (b := 324) (j' := 18) rfl rfl rfl rfl (.plain rfl) (T_pick_t rfl rfl rfl g3) rfl ?_
      refine k_done rfl ?_
      refine thenK_n ?_
      refine W_cond rfl (fun g4 => ?_) (fun g4 => ?_)
      · skip
        refine W_seq ?_
        refine W_seqK (b' := 356) rfl rfl ?_
        refine k_op0 (d := 6) (b := 340) (j' := 1) rfl rfl rfl rfl (.plain rfl) (T_assign rfl rfl) rfl ?_
        refine k_done rfl ?_
        refine thenK_n ?_
        refine W_ret ?_
        refine thenK_r ?_
        -- end 1
        exact .mk [] (.inr rfl) (.tmp rfl (.nil)) (by simp only [resLV, LV.ren, LV.v.injEq, Value.bool.injEq]; rw [tcheck, if_pos (by omega)]) (.nil) rfl
      · exact absurd (g4.symm.trans rfl) (by decide)
    · have h3 := g3; (try simp only [cmpB, decide_eq_true_eq, decide_eq_false_iff_not, beq_iff_eq, beq_eq_false_iff_ne, bne_iff_ne, ne_eq, bne_eq_false_iff_eq, Bool.not_eq_true', Bool.not_eq_false', Int.not_lt, Int.not_le] at h3)
      refine k_op0 (d := 23) (b := 244) (j' := 13) rfl rfl rfl rfl (g_ff rfl rfl rfl g3) (T_fa D (m := 0) rfl rfl rfl rfl rfl rfl) rfl ?_
      refine k_op0 (d := 24) (b := 260) (j' := 14) rfl rfl rfl rfl (g_ff rfl rfl rfl g3) (T_load_b D rfl rfl rfl rfl rfl rfl) rfl ?_
      refine k_op0 (d := 25) (b := 276) (j' := 15) rfl rfl rfl rfl (g_ff rfl rfl rfl g3) (T_fa D (m := 0) rfl rfl rfl rfl rfl rfl) rfl ?_
      refine k_op0 (d := 26) (b := 292) (j' := 16) rfl rfl rfl rfl (g_ff rfl rfl rfl g3) (T_load_b D rfl rfl rfl rfl rfl rfl) rfl ?_
      refine k_op0 (d := 27) (b := 308) (j' := 17) rfl rfl rfl rfl (g_ff rfl rfl rfl g3) (T_cmp rfl rfl rfl rfl) rfl ?_
      refine k_op0 (d := 28) (b := 324) (j' := 18) rfl rfl rfl rfl (.plain rfl) (T_pick_f rfl rfl rfl g3) rfl ?_
      refine k_done rfl ?_
      refine thenK_n ?_
      refine W_cond rfl (fun g5 => ?_) (fun g5 => ?_)
      · have h5 := g5; (try simp only [cmpB, decide_eq_true_eq, decide_eq_false_iff_not, beq_iff_eq, beq_eq_false_iff_ne, bne_iff_ne, ne_eq, bne_eq_false_iff_eq, Bool.not_eq_true', Bool.not_eq_false', Int.not_lt, Int.not_le] at h5)
        refine W_seq ?_
        refine W_seqK (b' := 356) rfl rfl ?_
        refine k_op0 (d := 6) (b := 340) (j' := 1) rfl rfl rfl rfl (.plain rfl) (T_assign rfl rfl) rfl ?_
        refine k_done rfl ?_
        refine thenK_n ?_
        refine W_ret ?_
        refine thenK_r ?_
        -- end 2
        exact .mk [] (.inr rfl) (.tmp rfl (.nil)) (by simp only [resLV, LV.ren, LV.v.injEq, Value.bool.injEq]; rw [tcheck, if_pos (by omega)]) (.nil) rfl
      · have h5 := g5; (try simp only [cmpB, decide_eq_true_eq, decide_eq_false_iff_not, beq_iff_eq, beq_eq_false_iff_ne, bne_iff_ne, ne_eq, bne_eq_false_iff_eq, Bool.not_eq_true', Bool.not_eq_false', Int.not_lt, Int.not_le] at h5)
        refine W_skip ?_
        refine thenK_n ?_
        refine W_seq ?_
        refine W_seq ?_
        refine W_seqK (b' := 388) rfl rfl ?_
        refine k_op0 (d := 29) (b := 340) (j' := 1) rfl rfl rfl rfl (.plain rfl) (T_move rfl rfl) rfl ?_
        refine k_op0 (d := 30) (b := 356) (j' := 2) rfl rfl rfl rfl (.plain rfl) (T_len D rfl rfl rfl rfl rfl rfl) rfl ?_
        refine k_op0 (d := 31) (b := 372) (j' := 3) rfl rfl rfl rfl (.plain rfl) (T_move rfl rfl) rfl ?_
        refine k_done rfl ?_
        refine thenK_n ?_
        refine W_block ?_
        refine W_loop (ι := Nat) 6 (fun j => ⟨[(2, .r 3), (3, .p 4 0), (4, .p 5 0), (29, .r 3), (30, .v (.int .i64 (ps.length : Int))), (31, .v (.int .i64 (j : Int)))], [(1, .fz 5 (f.blocks.map eBlock)), (2, .fz 5 (g.blocks.map eBlock)), (3, .fz 1 (ps.map eIs)), (4, .box 29 [.v (.int .i64 f.regs), .r 1]), (5, .box 29 [.v (.int .i64 g.regs), .r 2])]⟩) (fun j => j ≤ ps.length ∧ ∀ i, i < j → okPath f (ps.getD i default) = true) (fun j => ps.length - j) (0) (by exact ⟨Nat.zero_le _, fun i h => absurd h (Nat.not_lt_zero _)⟩) ?_ (fun j hJ => ?_)
        · exact ⟨[(4, 4), (5, 20)], .same rfl rfl (.same rfl rfl (.same rfl rfl (.same rfl rfl (.eq rfl (.eq rfl (.nil) (by first | rfl | simp)) (by first | rfl | simp))))), .fzE rfl (.fzE rfl (.fzE rfl (.box (by first | rfl | simp) (.box (by first | rfl | simp) (.nil))) (by first | rfl | simp)) (by first | rfl | simp)) (by first | rfl | simp), rfl⟩
        refine W_seq ?_
        refine W_seqK (b' := 22) rfl rfl ?_
        refine k_op0 (d := 32) (b := 6) (j' := 1) rfl rfl rfl rfl (.plain rfl) (T_cmp rfl rfl rfl rfl) rfl ?_
        refine k_done rfl ?_
        refine thenK_n ?_
        refine W_seq ?_
        refine W_cond rfl (fun g6 => ?_) (fun g6 => ?_)
        · have h6 := g6; (try simp only [cmpB, decide_eq_true_eq, decide_eq_false_iff_not, beq_iff_eq, beq_eq_false_iff_ne, bne_iff_ne, ne_eq, bne_eq_false_iff_eq, Bool.not_eq_true', Bool.not_eq_false', Int.not_lt, Int.not_le] at h6)
          refine W_skip ?_
          refine thenK_n ?_
          refine W_seq ?_
          refine W_block ?_
          refine W_seq ?_
          refine W_seqK (b' := 70) rfl rfl ?_
          first | refine k_op0 (d := 33) (b := 22) (j' := 1) rfl rfl rfl rfl (.plain rfl) (T_indexAddr D rfl rfl rfl rfl rfl rfl rfl rfl (by first | assumption | omega | exact okPath_len (hJ.2 0 (by omega)) | (simp; omega))) rfl ?_ | refine k_op0 (d := 33) (b := 22) (j' := 1) rfl rfl rfl rfl (.plain rfl) (T_indexAddrZ D rfl rfl rfl rfl rfl rfl rfl rfl (by first | assumption | omega | exact okPath_len (hJ.2 0 (by omega)) | (simp; omega)) (by first | assumption | omega | exact okPath_len (hJ.2 0 (by omega)) | (simp; omega))) rfl ?_
          refine k_op1 (d := 34) (b := 38) (j' := 2) rfl rfl rfl rfl (.plain rfl) (T_ldE D (lv := .r 38) (nn := 1) (upd := [(38, .fz 1 _)]) rfl rfl rfl rfl rfl (by first | assumption | omega | exact okPath_len (hJ.2 0 (by omega)) | (simp; omega)) rfl rfl rfl rfl) rfl ?_
          refine k_op0 (d := 8) (b := 54) (j' := 3) rfl rfl rfl rfl (.plain rfl) (T_assign rfl rfl) rfl ?_
          refine k_done rfl ?_
          refine thenK_n ?_
          refine W_seq ?_
          refine W_seqK (b' := 198) rfl rfl ?_
          refine k_op0 (d := 35) (b := 70) (j' := 1) rfl rfl rfl rfl (.plain rfl) (T_move rfl rfl) rfl ?_
          refine k_op0 (d := 36) (b := 86) (j' := 2) rfl rfl rfl rfl (.plain rfl) (T_len D rfl rfl rfl rfl rfl rfl) rfl ?_
          refine k_op0 (d := 37) (b := 102) (j' := 3) rfl rfl rfl rfl (.plain rfl) (T_cmp rfl rfl rfl rfl) rfl ?_
          refine k_op0 (d := 38) (b := 118) (j' := 4) rfl rfl rfl rfl (.plain rfl) (T_move rfl rfl) rfl ?_
          refine k_split (d := 38) rfl (fun g7 => ?_) (fun g7 => ?_)
          · have h7 := g7; (try simp only [cmpB, decide_eq_true_eq, decide_eq_false_iff_not, beq_iff_eq, beq_eq_false_iff_ne, bne_iff_ne, ne_eq, bne_eq_false_iff_eq, Bool.not_eq_true', Bool.not_eq_false', Int.not_lt, Int.not_le] at h7)
            refine k_no (d := 39) (j' := 5) rfl rfl rfl (g_ft rfl rfl rfl g7) ?_
            refine k_no (d := 40) (j' := 6) rfl rfl rfl (g_ft rfl rfl rfl g7) ?_
            refine k_no (d := 41) (j' := 7) rfl rfl rfl (g_ft rfl rfl rfl g7) ?_
            refine k_op0 (d := 42) (b := 182) (j' := 8) rfl rfl rfl rfl (.plain rfl) (T_pick_t rfl rfl rfl g7) rfl ?_
            refine k_done rfl ?_
            refine thenK_n ?_
            refine W_cond rfl (fun g8 => ?_) (fun g8 => ?_)
            · skip
              refine W_seq ?_
              refine W_seqK (b' := 214) rfl rfl ?_
              refine k_op0 (d := 6) (b := 198) (j' := 1) rfl rfl rfl rfl (.plain rfl) (T_assign rfl rfl) rfl ?_
              refine k_done rfl ?_
              refine thenK_n ?_
              refine W_ret ?_
              refine blockK_r ?_
              refine thenK_r ?_
              refine thenK_r ?_
              refine blockK_r ?_
              refine thenK_r ?_
              -- end 3
              exact .mk [] (.inr rfl) (.tmp rfl (.nil)) (by simp only [resLV, LV.ren, LV.v.injEq, Value.bool.injEq]; rw [tcheck, if_neg (by omega), if_pos (all_false_at (i := j) (by omega) (by simp only [okPath, decide_eq_true (p := (ps.getD j default).length = 0) (by omega)]; rfl))]) (.nil) rfl
            · exact absurd (g8.symm.trans rfl) (by decide)
          · have h7 := g7; (try simp only [cmpB, decide_eq_true_eq, decide_eq_false_iff_not, beq_iff_eq, beq_eq_false_iff_ne, bne_iff_ne, ne_eq, bne_eq_false_iff_eq, Bool.not_eq_true', Bool.not_eq_false', Int.not_lt, Int.not_le] at h7)
            refine k_op0 (d := 39) (b := 134) (j' := 5) rfl rfl rfl rfl (g_ff rfl rfl rfl g7) (T_move rfl rfl) rfl ?_
            refine k_op0 (d := 40) (b := 150) (j' := 6) rfl rfl rfl rfl (g_ff rfl rfl rfl g7) (T_makeFunc (l := [_]) rfl rfl) rfl ?_
            refine k_op1 (d := 41) (b := 166) (j' := 7) rfl rfl rfl rfl (g_ff rfl rfl rfl g7) (T_call (lvs := [_, _]) (L := [(1, 38), (2, 4), (3, 1)]) (lv := .v _) (upd := [(4, .box 29 [.v _, .r 1])]) (nn := 0) false (contains_spec _ _ (hpl _ (getD_mem (by omega)))) body73 rfl rfl rfl rfl (.fz rfl (.box rfl (.fz rfl (.nil)))) rfl (.inl rfl) rfl rfl rfl) rfl ?_
            refine k_op0 (d := 42) (b := 182) (j' := 8) rfl rfl rfl rfl (.plain rfl) (T_pick_f rfl rfl rfl g7) rfl ?_
            refine k_done rfl ?_
            refine thenK_n ?_
            refine W_cond rfl (fun g9 => ?_) (fun g9 => ?_)
            · have h9 := g9; (try simp only [cmpB, decide_eq_true_eq, decide_eq_false_iff_not, beq_iff_eq, beq_eq_false_iff_ne, bne_iff_ne, ne_eq, bne_eq_false_iff_eq, Bool.not_eq_true', Bool.not_eq_false', Int.not_lt, Int.not_le] at h9)
              refine W_seq ?_
              refine W_seqK (b' := 214) rfl rfl ?_
              refine k_op0 (d := 6) (b := 198) (j' := 1) rfl rfl rfl rfl (.plain rfl) (T_assign rfl rfl) rfl ?_
              refine k_done rfl ?_
              refine thenK_n ?_
              refine W_ret ?_
              refine blockK_r ?_
              refine thenK_r ?_
              refine thenK_r ?_
              refine blockK_r ?_
              refine thenK_r ?_
              -- end 4
              exact .mk [] (.inr rfl) (.tmp rfl (.nil)) (by simp only [resLV, LV.ren, LV.v.injEq, Value.bool.injEq]; rw [tcheck, if_neg (by omega), if_pos (all_false_at (i := j) (by omega) (by rw [okPath, h9]; simp))]) (.nil) rfl
            · have h9 := g9; (try simp only [cmpB, decide_eq_true_eq, decide_eq_false_iff_not, beq_iff_eq, beq_eq_false_iff_ne, bne_iff_ne, ne_eq, bne_eq_false_iff_eq, Bool.not_eq_true', Bool.not_eq_false', Int.not_lt, Int.not_le] at h9)
              refine W_skip ?_
              refine blockK_n ?_
              refine thenK_n ?_
              refine W_seqK (b' := 230) rfl rfl ?_
              refine k_op0 (d := 43) (b := 198) (j' := 1) rfl rfl rfl rfl (.plain rfl) (T_add64 rfl rfl rfl (by first | assumption | omega | exact okPath_len (hJ.2 0 (by omega)) | (simp; omega))) rfl ?_
              refine k_op0 (d := 31) (b := 214) (j' := 2) rfl rfl rfl rfl (.plain rfl) (T_move rfl rfl) rfl ?_
              refine k_done rfl ?_
              refine thenK_n ?_
              refine ⟨j + 1, by (try dsimp only); exact ⟨by omega, fun i hi => by rcases Nat.lt_or_ge i j with h | h; exact hJ.2 i h; rw [show i = j by omega]; exact okPath_t (by omega) (by assumption)⟩, by (try dsimp only); omega, ?_⟩
              exact ⟨[(4, 4), (5, 5)], .same rfl rfl (.same rfl rfl (.same rfl rfl (.same rfl rfl (.eq rfl (.eq rfl (.nil) (by first | rfl | simp)) (by first | rfl | simp))))), .fzE rfl (.fzE rfl (.fzE rfl (.box (by first | rfl | simp) (.box (by first | rfl | simp) (.nil))) (by first | rfl | simp)) (by first | rfl | simp)) (by first | rfl | simp), rfl⟩
        · have h6 := g6; (try simp only [cmpB, decide_eq_true_eq, decide_eq_false_iff_not, beq_iff_eq, beq_eq_false_iff_ne, bne_iff_ne, ne_eq, bne_eq_false_iff_eq, Bool.not_eq_true', Bool.not_eq_false', Int.not_lt, Int.not_le] at h6)
          refine W_exit ?_
          refine thenK_e ?_
          refine thenK_e ?_
          refine blockK_hit ?_
          refine thenK_n ?_
          refine W_seq ?_
          refine W_seq ?_
          refine W_seqK (b' := 118) rfl rfl ?_
          refine k_op0 (d := 44) (b := 22) (j' := 1) rfl rfl rfl rfl (.plain rfl) (T_move rfl rfl) rfl ?_
          first | refine k_op0 (d := 45) (b := 38) (j' := 2) rfl rfl rfl rfl (.plain rfl) (T_indexAddr D rfl rfl rfl rfl rfl rfl rfl rfl (by first | assumption | omega | exact okPath_len (hJ.2 0 (by omega)) | (simp; omega))) rfl ?_ | refine k_op0 (d := 45) (b := 38) (j' := 2) rfl rfl rfl rfl (.plain rfl) (T_indexAddrZ D rfl rfl rfl rfl rfl rfl rfl rfl (by first | assumption | omega | exact okPath_len (hJ.2 0 (by omega)) | (simp; omega)) (by first | assumption | omega | exact okPath_len (hJ.2 0 (by omega)) | (simp; omega))) rfl ?_
          refine k_op1 (d := 46) (b := 54) (j' := 3) rfl rfl rfl rfl (.plain rfl) (T_ldE D (lv := .r 54) (nn := 1) (upd := [(54, .fz 1 _)]) rfl rfl rfl rfl rfl (by first | assumption | omega | exact okPath_len (hJ.2 0 (by omega)) | (simp; omega)) rfl rfl rfl rfl) rfl ?_
          first | refine k_op0 (d := 47) (b := 70) (j' := 4) rfl rfl rfl rfl (.plain rfl) (T_indexAddr D rfl rfl rfl rfl rfl rfl rfl rfl (by first | assumption | omega | exact okPath_len (hJ.2 0 (by omega)) | (simp; omega))) rfl ?_ | refine k_op0 (d := 47) (b := 70) (j' := 4) rfl rfl rfl rfl (.plain rfl) (T_indexAddrZ D rfl rfl rfl rfl rfl rfl rfl rfl (by first | assumption | omega | exact okPath_len (hJ.2 0 (by omega)) | (simp; omega)) (by first | assumption | omega | exact okPath_len (hJ.2 0 (by omega)) | (simp; omega))) rfl ?_
          refine k_op0 (d := 48) (b := 86) (j' := 5) rfl rfl rfl rfl (.plain rfl) (T_ldE D (lv := .v _) (nn := 0) (upd := []) rfl rfl rfl rfl rfl (by first | assumption | omega | exact okPath_len (hJ.2 0 (by omega)) | (simp; omega)) rfl rfl rfl rfl) rfl ?_
          refine k_op0 (d := 49) (b := 102) (j' := 6) rfl rfl rfl rfl (.plain rfl) (T_cmp rfl rfl rfl rfl) rfl ?_
          refine k_done rfl ?_
          refine thenK_n ?_
          refine W_cond rfl (fun g10 => ?_) (fun g10 => ?_)
          · have h10 := g10; (try simp only [cmpB, decide_eq_true_eq, decide_eq_false_iff_not, beq_iff_eq, beq_eq_false_iff_ne, bne_iff_ne, ne_eq, bne_eq_false_iff_eq, Bool.not_eq_true', Bool.not_eq_false', Int.not_lt, Int.not_le] at h10)
            refine W_seq ?_
            refine W_seqK (b' := 134) rfl rfl ?_
            refine k_op0 (d := 6) (b := 118) (j' := 1) rfl rfl rfl rfl (.plain rfl) (T_assign rfl rfl) rfl ?_
            refine k_done rfl ?_
            refine thenK_n ?_
            refine W_ret ?_
            refine thenK_r ?_
            -- end 5
            exact .mk [] (.inr rfl) (.tmp rfl (.nil)) (by simp only [resLV, LV.ren, LV.v.injEq, Value.bool.injEq]; rw [tcheck, if_neg (by omega), if_neg (by simp only [Bool.not_eq_false]; exact all_iff_getD.2 (fun i hi => hJ.2 i (by omega))), if_pos (by assumption)]) (.nil) rfl
          · have h10 := g10; (try simp only [cmpB, decide_eq_true_eq, decide_eq_false_iff_not, beq_iff_eq, beq_eq_false_iff_ne, bne_iff_ne, ne_eq, bne_eq_false_iff_eq, Bool.not_eq_true', Bool.not_eq_false', Int.not_lt, Int.not_le] at h10)
            refine W_skip ?_
            refine thenK_n ?_
            refine W_seq ?_
            refine W_seq ?_
            refine W_seqK (b' := 166) rfl rfl ?_
            refine k_op0 (d := 50) (b := 118) (j' := 1) rfl rfl rfl rfl (.plain rfl) (T_move rfl rfl) rfl ?_
            refine k_op0 (d := 51) (b := 134) (j' := 2) rfl rfl rfl rfl (.plain rfl) (T_len D rfl rfl rfl rfl rfl rfl) rfl ?_
            refine k_op0 (d := 52) (b := 150) (j' := 3) rfl rfl rfl rfl (.plain rfl) (T_move rfl rfl) rfl ?_
            refine k_done rfl ?_
            refine thenK_n ?_
            refine W_block ?_
            have ok1 : ∀ i, i < ps.length → okPath f (ps.getD i default) = true := fun i hi => hJ.2 i (by omega)
            have hall : ps.all (okPath f) = true := all_iff_getD.2 ok1
            have hps : ∀ q ∈ ps, 0 < q.length := fun q hq => okPath_len (List.all_eq_true.1 hall q hq)
            clear hJ
            refine W_loop (ι := Nat) 6 (fun j => ⟨[(2, .r 3), (3, .p 4 0), (4, .p 5 0), (50, .r 3), (51, .v (.int .i64 (ps.length : Int))), (52, .v (.int .i64 (j : Int)))], [(1, .fz 5 (f.blocks.map eBlock)), (2, .fz 5 (g.blocks.map eBlock)), (3, .fz 1 (ps.map eIs)), (4, .box 29 [.v (.int .i64 f.regs), .r 1]), (5, .box 29 [.v (.int .i64 g.regs), .r 2])]⟩) (fun j => j ≤ ps.length ∧ ∀ i, i < j → made f (g.blocks.getD i default) (ps.getD i default) ps = true) (fun j => ps.length - j) (0) (by exact ⟨Nat.zero_le _, fun i h => absurd h (Nat.not_lt_zero _)⟩) ?_ (fun j hJ => ?_)
            · exact ⟨[(4, 4), (5, 5)], .same rfl rfl (.same rfl rfl (.same rfl rfl (.same rfl rfl (.eq rfl (.eq rfl (.nil) (by first | rfl | simp)) (by first | rfl | simp))))), .fzE rfl (.fzE rfl (.fzE rfl (.box (by first | rfl | simp) (.box (by first | rfl | simp) (.nil))) (by first | rfl | simp)) (by first | rfl | simp)) (by first | rfl | simp), rfl⟩
            refine W_seq ?_
            refine W_seqK (b' := 22) rfl rfl ?_
            refine k_op0 (d := 53) (b := 6) (j' := 1) rfl rfl rfl rfl (.plain rfl) (T_cmp rfl rfl rfl rfl) rfl ?_
            refine k_done rfl ?_
            refine thenK_n ?_
            refine W_seq ?_
            refine W_cond rfl (fun g11 => ?_) (fun g11 => ?_)
            · have h11 := g11; (try simp only [cmpB, decide_eq_true_eq, decide_eq_false_iff_not, beq_iff_eq, beq_eq_false_iff_ne, bne_iff_ne, ne_eq, bne_eq_false_iff_eq, Bool.not_eq_true', Bool.not_eq_false', Int.not_lt, Int.not_le] at h11)
              refine W_skip ?_
              refine thenK_n ?_
              refine W_seq ?_
              refine W_block ?_
              refine W_seq ?_
              refine W_seqK (b' := 102) rfl rfl ?_
              refine k_op0 (d := 54) (b := 22) (j' := 1) rfl rfl rfl rfl (.plain rfl) (T_move rfl rfl) rfl ?_
              first | refine k_op0 (d := 55) (b := 38) (j' := 2) rfl rfl rfl rfl (.plain rfl) (T_indexAddr D rfl rfl rfl rfl rfl rfl rfl rfl (by first | assumption | omega | exact okPath_len (hJ.2 0 (by omega)) | (simp; omega))) rfl ?_ | refine k_op0 (d := 55) (b := 38) (j' := 2) rfl rfl rfl rfl (.plain rfl) (T_indexAddrZ D rfl rfl rfl rfl rfl rfl rfl rfl (by first | assumption | omega | exact okPath_len (hJ.2 0 (by omega)) | (simp; omega)) (by first | assumption | omega | exact okPath_len (hJ.2 0 (by omega)) | (simp; omega))) rfl ?_
              refine k_op1 (d := 56) (b := 54) (j' := 3) rfl rfl rfl rfl (.plain rfl) (T_ldE D (lv := .r 54) (nn := 1) (upd := [(54, .fz 1 _)]) rfl rfl rfl rfl rfl (by first | assumption | omega | exact okPath_len (hJ.2 0 (by omega)) | (simp; omega)) rfl rfl rfl rfl) rfl ?_
              refine k_op0 (d := 9) (b := 70) (j' := 4) rfl rfl rfl rfl (.plain rfl) (T_assign rfl rfl) rfl ?_
              refine k_op0 (d := 10) (b := 86) (j' := 5) rfl rfl rfl rfl (.plain rfl) (T_assign rfl rfl) rfl ?_
              refine k_done rfl ?_
              refine thenK_n ?_
              refine W_seq ?_
              refine W_anyK (b' := 262) rfl rfl rfl ?_
              refine k_op0 (d := 57) (b := 102) (j' := 1) rfl rfl rfl rfl (.plain rfl) (T_load_bA D (l := [_, _]) rfl rfl rfl rfl rfl rfl rfl) rfl ?_
              refine k_op0 (d := 58) (b := 118) (j' := 2) rfl rfl rfl rfl (.plain rfl) (T_fa D (m := 1) rfl rfl rfl rfl rfl rfl) rfl ?_
              refine k_op0 (d := 59) (b := 134) (j' := 3) rfl rfl rfl rfl (.plain rfl) (T_load_b D rfl rfl rfl rfl rfl rfl) rfl ?_
              refine k_op0 (d := 60) (b := 150) (j' := 4) rfl rfl rfl rfl (.plain rfl) (T_move rfl rfl) rfl ?_
              first | refine k_op0 (d := 61) (b := 166) (j' := 5) rfl rfl rfl rfl (.plain rfl) (T_indexAddr D rfl rfl rfl rfl rfl rfl rfl rfl (by first | assumption | omega | exact okPath_len (hJ.2 0 (by omega)) | (simp; omega))) rfl ?_ | refine k_op0 (d := 61) (b := 166) (j' := 5) rfl rfl rfl rfl (.plain rfl) (T_indexAddrZ D rfl rfl rfl rfl rfl rfl rfl rfl (by first | assumption | omega | exact okPath_len (hJ.2 0 (by omega)) | (simp; omega)) (by first | assumption | omega | exact okPath_len (hJ.2 0 (by omega)) | (simp; omega))) rfl ?_
              refine k_op1 (d := 62) (b := 182) (j' := 6) rfl rfl rfl rfl (.plain rfl) (T_ldEA D (l := [.r 182, .v _, .v _, .v _, .v _]) (nn := 1) (upd := [(182, .fz 8 _)]) rfl rfl rfl rfl rfl (by first | assumption | omega | exact okPath_len (hJ.2 0 (by omega)) | (simp; omega)) rfl rfl rfl rfl rfl) rfl ?_
              refine k_op0 (d := 63) (b := 198) (j' := 7) rfl rfl rfl rfl (.plain rfl) (T_move rfl rfl) rfl ?_
              refine k_op0 (d := 64) (b := 214) (j' := 8) rfl rfl rfl rfl (.plain rfl) (T_move rfl rfl) rfl ?_
              refine k_op0 (d := 65) (b := 230) (j' := 9) rfl rfl rfl rfl (.plain rfl) (T_callV (lvs := [_, _, _, _]) (L := [(1, 1), (2, 182), (3, 54), (4, 3)]) (made_spec _ _ _ _ (hgi _ (getD_mem (by omega))) (okPath_len (ok1 _ (by omega))) ⟨hpl _ (getD_mem (by omega)), okPath_in (ok1 _ (by omega))⟩ (hI _ (getD_mem (by omega))) hps) body75 rfl rfl rfl rfl (.fz rfl (.fz rfl (.fz rfl (.fz rfl (.nil))))) rfl) rfl ?_
              refine k_op0 (d := 66) (b := 246) (j' := 10) rfl rfl rfl rfl (.plain rfl) (T_not rfl rfl) rfl ?_
              refine k_done rfl ?_
              refine ⟨rfl, ?_⟩
              refine thenK_n ?_
              refine W_cond rfl (fun g12 => ?_) (fun g12 => ?_)
              · have h12 := g12; (try simp only [cmpB, decide_eq_true_eq, decide_eq_false_iff_not, beq_iff_eq, beq_eq_false_iff_ne, bne_iff_ne, ne_eq, bne_eq_false_iff_eq, Bool.not_eq_true', Bool.not_eq_false', Int.not_lt, Int.not_le] at h12)
                refine W_seq ?_
                refine W_seqK (b' := 278) rfl rfl ?_
                refine k_op0 (d := 6) (b := 262) (j' := 1) rfl rfl rfl rfl (.plain rfl) (T_assign rfl rfl) rfl ?_
                refine k_done rfl ?_
                refine thenK_n ?_
                refine W_ret ?_
                refine blockK_r ?_
                refine thenK_r ?_
                refine thenK_r ?_
                refine blockK_r ?_
                refine thenK_r ?_
                -- end 6
                exact .mk [] (.inr rfl) (.tmp rfl (.nil)) (by simp only [resLV, LV.ren, LV.v.injEq, Value.bool.injEq]; rw [tcheck, if_neg (by omega), if_neg (by simp only [Bool.not_eq_false]; exact hall), if_neg (by omega)]; exact (range_all_false (i := j) (by omega) (by simpa using h12)).symm) (.nil) rfl
              · have h12 := g12; (try simp only [cmpB, decide_eq_true_eq, decide_eq_false_iff_not, beq_iff_eq, beq_eq_false_iff_ne, bne_iff_ne, ne_eq, bne_eq_false_iff_eq, Bool.not_eq_true', Bool.not_eq_false', Int.not_lt, Int.not_le] at h12)
                refine W_skip ?_
                refine blockK_n ?_
                refine thenK_n ?_
                refine W_seqK (b' := 294) rfl rfl ?_
                refine k_op0 (d := 67) (b := 262) (j' := 1) rfl rfl rfl rfl (.plain rfl) (T_add64 rfl rfl rfl (by first | assumption | omega | exact okPath_len (hJ.2 0 (by omega)) | (simp; omega))) rfl ?_
                refine k_op0 (d := 52) (b := 278) (j' := 2) rfl rfl rfl rfl (.plain rfl) (T_move rfl rfl) rfl ?_
                refine k_done rfl ?_
                refine thenK_n ?_
                refine ⟨j + 1, by (try dsimp only); exact ⟨by omega, fun i hi => by rcases Nat.lt_or_ge i j with h | h; exact hJ.2 i h; rw [show i = j by omega]; simpa using h12⟩, by (try dsimp only); omega, ?_⟩
                exact ⟨[(4, 4), (5, 5)], .same rfl rfl (.same rfl rfl (.same rfl rfl (.same rfl rfl (.eq rfl (.eq rfl (.nil) (by first | rfl | simp)) (by first | rfl | simp))))), .fzE rfl (.fzE rfl (.fzE rfl (.box (by first | rfl | simp) (.box (by first | rfl | simp) (.nil))) (by first | rfl | simp)) (by first | rfl | simp)) (by first | rfl | simp), rfl⟩
            · have h11 := g11; (try simp only [cmpB, decide_eq_true_eq, decide_eq_false_iff_not, beq_iff_eq, beq_eq_false_iff_ne, bne_iff_ne, ne_eq, bne_eq_false_iff_eq, Bool.not_eq_true', Bool.not_eq_false', Int.not_lt, Int.not_le] at h11)
              refine W_exit ?_
              refine thenK_e ?_
              refine thenK_e ?_
              refine blockK_hit ?_
              refine thenK_n ?_
              refine W_seq ?_
              refine W_seqK (b' := 38) rfl rfl ?_
              refine k_op0 (d := 6) (b := 22) (j' := 1) rfl rfl rfl rfl (.plain rfl) (T_assign rfl rfl) rfl ?_
              refine k_done rfl ?_
              refine thenK_n ?_
              refine W_ret ?_
              -- end 7
              exact .mk [] (.inr rfl) (.tmp rfl (.nil)) (by simp only [resLV, LV.ren, LV.v.injEq, Value.bool.injEq]; rw [tcheck, if_neg (by omega), if_neg (by simp only [Bool.not_eq_false]; exact hall), if_neg (by omega)]; exact (range_all_true (fun i hi => hJ.2 i (by omega))).symm) (.nil) rfl
end Lg
end Go.Proofs.Ytpfhmodjjljpjaa
