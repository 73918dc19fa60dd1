import Derived.Test.YtpfhmodjjljpjaaF8
namespace Go.Proofs.Ytpfhmodjjljpjaa
open Go.RowKit
namespace Lg
set_option maxRecDepth 100000
set_option linter.unusedVariables false
set_option linter.unusedSimpArgs false



theorem body28 : (Try.prog.funcs[28]?).map (fun fn => (fn.name == "runtime.NumGoroutine" || fn.body.isNone)) = some false := by kernel_rfl
theorem same_spec (f g : GFn) (hf : f.blocks.length ≤ 1000000000) (hi : ∀ b ∈ f.blocks, b.ins.length ≤ 1000000000) : Spec Try.prog 28 [.agg [.v (.int .i64 f.regs), .r 1], .agg [.v (.int .i64 g.regs), .r 2]] 3 [(1, .fz 5 (f.blocks.map eBlock)), (2, .fz 5 (g.blocks.map eBlock))] (.v (.bool (decide (f = g)))) 3 [] := by
  refine spec_of D (fn := Try.f28) rfl rfl (Nat.le_of_ble_eq_true rfl) ?_
  refine W_seq ?_
  refine W_seqK (b' := 51) rfl rfl ?_
  refine k_op1 (d := 2) (b := 3) (j' := 1) rfl rfl rfl rfl (.plain rfl) (T_box rfl rfl flat_agg) rfl ?_
  refine k_op1 (d := 3) (b := 19) (j' := 2) rfl rfl rfl rfl (.plain rfl) (T_box rfl rfl flat_agg) rfl ?_
  refine k_op0 (d := 4) (b := 35) (j' := 3) rfl rfl rfl rfl (.plain rfl) (T_assign rfl rfl) rfl ?_
  refine k_done rfl ?_
  refine thenK_n ?_
  refine W_seq ?_
  refine W_seq ?_
  refine W_seqK (b' := 275) rfl rfl ?_
  refine k_op0 (d := 9) (b := 51) (j' := 1) rfl rfl rfl rfl (.plain rfl) (T_fa D (m := 0) rfl rfl rfl rfl rfl rfl) rfl ?_
  refine k_op0 (d := 10) (b := 67) (j' := 2) rfl rfl rfl rfl (.plain rfl) (T_load_b D rfl rfl rfl rfl rfl rfl) rfl ?_
  refine k_op0 (d := 11) (b := 83) (j' := 3) rfl rfl rfl rfl (.plain rfl) (T_fa D (m := 0) rfl rfl rfl rfl rfl rfl) rfl ?_
  refine k_op0 (d := 12) (b := 99) (j' := 4) rfl rfl rfl rfl (.plain rfl) (T_load_b D rfl rfl rfl rfl rfl rfl) rfl ?_
  refine k_op0 (d := 13) (b := 115) (j' := 5) rfl rfl rfl rfl (.plain rfl) (T_cmp rfl rfl rfl rfl) rfl ?_
  refine k_op0 (d := 14) (b := 131) (j' := 6) rfl rfl rfl rfl (.plain rfl) (T_move rfl rfl) rfl ?_
  refine k_split (d := 14) rfl (fun g1 => ?_) (fun g1 => ?_)
  · have h1 := g1; (try simp only [cmpB, decide_eq_true_eq, decide_eq_false_iff_not, beq_iff_eq, beq_eq_false_iff_ne, bne_iff_ne, ne_eq, bne_eq_false_iff_eq, Bool.not_eq_true', Bool.not_eq_false', Int.not_lt, Int.not_le] at h1)
    refine k_no (d := 15) (j' := 7) rfl rfl rfl (g_ft rfl rfl rfl g1) ?_
    refine k_no (d := 16) (j' := 8) rfl rfl rfl (g_ft rfl rfl rfl g1) ?_
    refine k_no (d := 17) (j' := 9) rfl rfl rfl (g_ft rfl rfl rfl g1) ?_
    refine k_no (d := 18) (j' := 10) rfl rfl rfl (g_ft rfl rfl rfl g1) ?_
    refine k_no (d := 19) (j' := 11) rfl rfl rfl (g_ft rfl rfl rfl g1) ?_
    refine k_no (d := 20) (j' := 12) rfl rfl rfl (g_ft rfl rfl rfl g1) ?_
    refine k_no (d := 21) (j' := 13) rfl rfl rfl (g_ft rfl rfl rfl g1) ?_
    refine k_op0 (d := 22) (b := 259) (j' := 14) rfl rfl rfl rfl (.plain rfl) (T_pick_t rfl rfl rfl g1) rfl ?_
    refine k_done rfl ?_
    refine thenK_n ?_
    refine W_cond rfl (fun g2 => ?_) (fun g2 => ?_)
    · skip
      refine W_seq ?_
      refine W_seqK (b' := 291) rfl rfl ?_
      refine k_op0 (d := 4) (b := 275) (j' := 1) rfl rfl rfl rfl (.plain rfl) (T_assign rfl rfl) rfl ?_
      refine k_done rfl ?_
      refine thenK_n ?_
      refine W_ret ?_
      refine thenK_r ?_
      -- end 0
      exact .mk [] (.inr rfl) (.tmp rfl (.nil)) (by simp only [resLV, LV.ren, LV.v.injEq, Value.bool.injEq]; exact fn_ne (.inl h1)) (.nil) rfl
    · exact absurd (g2.symm.trans rfl) (by decide)
  · have h1 := g1; (try simp only [cmpB, decide_eq_true_eq, decide_eq_false_iff_not, beq_iff_eq, beq_eq_false_iff_ne, bne_iff_ne, ne_eq, bne_eq_false_iff_eq, Bool.not_eq_true', Bool.not_eq_false', Int.not_lt, Int.not_le] at h1)
    refine k_op0 (d := 15) (b := 147) (j' := 7) rfl rfl rfl rfl (g_ff rfl rfl rfl g1) (T_fa D (m := 1) rfl rfl rfl rfl rfl rfl) rfl ?_
    refine k_op0 (d := 16) (b := 163) (j' := 8) rfl rfl rfl rfl (g_ff rfl rfl rfl g1) (T_load_b D rfl rfl rfl rfl rfl rfl) rfl ?_
    refine k_op0 (d := 17) (b := 179) (j' := 9) rfl rfl rfl rfl (g_ff rfl rfl rfl g1) (T_len D rfl rfl rfl rfl rfl rfl) rfl ?_
    refine k_op0 (d := 18) (b := 195) (j' := 10) rfl rfl rfl rfl (g_ff rfl rfl rfl g1) (T_fa D (m := 1) rfl rfl rfl rfl rfl rfl) rfl ?_
    refine k_op0 (d := 19) (b := 211) (j' := 11) rfl rfl rfl rfl (g_ff rfl rfl rfl g1) (T_load_b D rfl rfl rfl rfl rfl rfl) rfl ?_
    refine k_op0 (d := 20) (b := 227) (j' := 12) rfl rfl rfl rfl (g_ff rfl rfl rfl g1) (T_len D rfl rfl rfl rfl rfl rfl) rfl ?_
    refine k_op0 (d := 21) (b := 243) (j' := 13) rfl rfl rfl rfl (g_ff rfl rfl rfl g1) (T_cmp rfl rfl rfl rfl) rfl ?_
    refine k_op0 (d := 22) (b := 259) (j' := 14) rfl rfl rfl rfl (.plain rfl) (T_pick_f rfl rfl rfl g1) rfl ?_
    refine k_done rfl ?_
    refine thenK_n ?_
    refine W_cond rfl (fun g3 => ?_) (fun g3 => ?_)
    · have h3 := g3; (try simp only [cmpB, decide_eq_true_eq, decide_eq_false_iff_not, beq_iff_eq, beq_eq_false_iff_ne, bne_iff_ne, ne_eq, bne_eq_false_iff_eq, Bool.not_eq_true', Bool.not_eq_false', Int.not_lt, Int.not_le] at h3)
      refine W_seq ?_
      refine W_seqK (b' := 291) rfl rfl ?_
      refine k_op0 (d := 4) (b := 275) (j' := 1) rfl rfl rfl rfl (.plain rfl) (T_assign rfl rfl) rfl ?_
      refine k_done rfl ?_
      refine thenK_n ?_
      refine W_ret ?_
      refine thenK_r ?_
      -- end 1
      exact .mk [] (.inr rfl) (.tmp rfl (.nil)) (by simp only [resLV, LV.ren, LV.v.injEq, Value.bool.injEq]; exact fn_ne (.inr (.inl h3))) (.nil) rfl
    · have h3 := g3; (try simp only [cmpB, decide_eq_true_eq, decide_eq_false_iff_not, beq_iff_eq, beq_eq_false_iff_ne, bne_iff_ne, ne_eq, bne_eq_false_iff_eq, Bool.not_eq_true', Bool.not_eq_false', Int.not_lt, Int.not_le] at h3)
      refine W_skip ?_
      refine thenK_n ?_
      refine W_seq ?_
      refine W_seq ?_
      refine W_seqK (b' := 291) rfl rfl ?_
      refine k_op0 (d := 5) (b := 275) (j' := 1) rfl rfl rfl rfl (.plain rfl) (T_assign rfl rfl) rfl ?_
      refine k_done rfl ?_
      refine thenK_n ?_
      refine W_block ?_
      refine W_loop (ι := Nat) 5 (fun j => ⟨[(2, .p 3 0), (3, .p 4 0), (5, .v (.int .i64 (j : Int)))], [(1, .fz 5 (f.blocks.map eBlock)), (2, .fz 5 (g.blocks.map eBlock)), (3, .box 29 [.v (.int .i64 f.regs), .r 1]), (4, .box 29 [.v (.int .i64 g.regs), .r 2])]⟩) (fun j => j ≤ f.blocks.length ∧ ∀ i, i < j → f.blocks.getD i default = g.blocks.getD i default) (fun j => f.blocks.length - j) (0) (by exact ⟨Nat.zero_le _, fun i h => absurd h (Nat.not_lt_zero _)⟩) ?_ (fun j hJ => ?_)
      · exact ⟨[(3, 3), (4, 19)], .same rfl rfl (.same rfl rfl (.eq rfl (.nil) (by first | rfl | simp))), .fzE rfl (.fzE rfl (.box (by first | rfl | simp) (.box (by first | rfl | simp) (.nil))) (by first | rfl | simp)) (by first | rfl | simp), rfl⟩
      refine W_seq ?_
      refine W_seq ?_
      refine W_seqK (b' := 85) rfl rfl ?_
      refine k_op0 (d := 23) (b := 5) (j' := 1) rfl rfl rfl rfl (.plain rfl) (T_move rfl rfl) rfl ?_
      refine k_op0 (d := 24) (b := 21) (j' := 2) rfl rfl rfl rfl (.plain rfl) (T_fa D (m := 1) rfl rfl rfl rfl rfl rfl) rfl ?_
      refine k_op0 (d := 25) (b := 37) (j' := 3) rfl rfl rfl rfl (.plain rfl) (T_load_b D rfl rfl rfl rfl rfl rfl) rfl ?_
      refine k_op0 (d := 26) (b := 53) (j' := 4) rfl rfl rfl rfl (.plain rfl) (T_len D rfl rfl rfl rfl rfl rfl) rfl ?_
      refine k_op0 (d := 27) (b := 69) (j' := 5) rfl rfl rfl rfl (.plain rfl) (T_cmp rfl rfl rfl rfl) rfl ?_
      refine k_done rfl ?_
      refine thenK_n ?_
      refine W_cond rfl (fun g4 => ?_) (fun g4 => ?_)
      · have h4 := g4; (try simp only [cmpB, decide_eq_true_eq, decide_eq_false_iff_not, beq_iff_eq, beq_eq_false_iff_ne, bne_iff_ne, ne_eq, bne_eq_false_iff_eq, Bool.not_eq_true', Bool.not_eq_false', Int.not_lt, Int.not_le] at h4)
        refine W_skip ?_
        refine thenK_n ?_
        refine W_seq ?_
        refine W_block ?_
        refine W_seq ?_
        refine W_seqK (b' := 197) rfl rfl ?_
        refine k_op0 (d := 30) (b := 85) (j' := 1) rfl rfl rfl rfl (.plain rfl) (T_fa D (m := 1) rfl rfl rfl rfl rfl rfl) rfl ?_
        refine k_op0 (d := 31) (b := 101) (j' := 2) rfl rfl rfl rfl (.plain rfl) (T_load_b D rfl rfl rfl rfl rfl rfl) rfl ?_
        refine k_op0 (d := 32) (b := 117) (j' := 3) rfl rfl rfl rfl (.plain rfl) (T_move rfl rfl) rfl ?_
        first | refine k_op0 (d := 33) (b := 133) (j' := 4) rfl rfl rfl rfl (.plain rfl) (T_indexAddr D rfl rfl rfl rfl rfl rfl rfl rfl (by first | assumption | omega | (simp; omega))) rfl ?_ | refine k_op0 (d := 33) (b := 133) (j' := 4) rfl rfl rfl rfl (.plain rfl) (T_indexAddrZ D rfl rfl rfl rfl rfl rfl rfl rfl (by first | assumption | omega | (simp; omega)) (by first | assumption | omega | (simp; omega))) rfl ?_
        refine k_op1 (d := 34) (b := 149) (j' := 5) rfl rfl rfl rfl (.plain rfl) (T_ldEA D (l := [.r 149, .v _, .v _, .v _, .v _]) (nn := 1) (upd := [(149, .fz 8 _)]) rfl rfl rfl rfl rfl (by first | assumption | omega | (simp; omega)) rfl rfl rfl rfl rfl) rfl ?_
        refine k_opn (d := 6) (b := 165) (j' := 6) rfl rfl rfl rfl (.plain rfl) (T_nilbox [(70, 8)] (T_alloc D rfl rfl rfl) rfl (.cons (.nil rfl) <| .cons (.same _) <| .cons (.same _) <| .cons (.same _) <| .cons (.same _) <| .nil) (upd' := [(165, .box 72 [.r 166, .v (.int .i64 0), .v (.int .i64 0), .v (.int .i64 0), .v (.int .i64 0)]), (166, .row 70 8 (List.map eTac ([] : List (GTac))))]) (nn' := 2) rfl rfl) rfl ?_
        refine k_st1 (b := 181) (j' := 7) rfl rfl rfl rfl (.plain rfl) (T_stB D (cs' := [_, _, _, _, _]) rfl rfl rfl rfl flat_agg rfl rfl (Nat.le_of_ble_eq_true rfl) rfl) rfl ?_
        refine k_done rfl ?_
        refine thenK_n ?_
        refine W_seq ?_
        refine W_seqK (b' := 309) rfl rfl ?_
        refine k_op0 (d := 35) (b := 197) (j' := 1) rfl rfl rfl rfl (.plain rfl) (T_fa D (m := 1) rfl rfl rfl rfl rfl rfl) rfl ?_
        refine k_op0 (d := 36) (b := 213) (j' := 2) rfl rfl rfl rfl (.plain rfl) (T_load_b D rfl rfl rfl rfl rfl rfl) rfl ?_
        refine k_op0 (d := 37) (b := 229) (j' := 3) rfl rfl rfl rfl (.plain rfl) (T_move rfl rfl) rfl ?_
        first | refine k_op0 (d := 38) (b := 245) (j' := 4) rfl rfl rfl rfl (.plain rfl) (T_indexAddr D rfl rfl rfl rfl rfl rfl rfl rfl (by first | assumption | omega | (simp; omega))) rfl ?_ | refine k_op0 (d := 38) (b := 245) (j' := 4) rfl rfl rfl rfl (.plain rfl) (T_indexAddrZ D rfl rfl rfl rfl rfl rfl rfl rfl (by first | assumption | omega | (simp; omega)) (by first | assumption | omega | (simp; omega))) rfl ?_
        refine k_op1 (d := 39) (b := 261) (j' := 5) rfl rfl rfl rfl (.plain rfl) (T_ldEA D (l := [.r 261, .v _, .v _, .v _, .v _]) (nn := 1) (upd := [(261, .fz 8 _)]) rfl rfl rfl rfl rfl (by first | assumption | omega | (simp; omega)) rfl rfl rfl rfl rfl) rfl ?_
        refine k_opn (d := 7) (b := 277) (j' := 6) rfl rfl rfl rfl (.plain rfl) (T_nilbox [(70, 8)] (T_alloc D rfl rfl rfl) rfl (.cons (.nil rfl) <| .cons (.same _) <| .cons (.same _) <| .cons (.same _) <| .cons (.same _) <| .nil) (upd' := [(277, .box 72 [.r 278, .v (.int .i64 0), .v (.int .i64 0), .v (.int .i64 0), .v (.int .i64 0)]), (278, .row 70 8 (List.map eTac ([] : List (GTac))))]) (nn' := 2) rfl rfl) rfl ?_
        refine k_st1 (b := 293) (j' := 7) rfl rfl rfl rfl (.plain rfl) (T_stB D (cs' := [_, _, _, _, _]) rfl rfl rfl rfl flat_agg rfl rfl (Nat.le_of_ble_eq_true rfl) rfl) rfl ?_
        refine k_done rfl ?_
        refine thenK_n ?_
        refine W_seq ?_
        refine W_seq ?_
        refine W_seqK (b' := 869) rfl rfl ?_
        refine k_op0 (d := 40) (b := 309) (j' := 1) rfl rfl rfl rfl (.plain rfl) (T_fa D (m := 1) rfl rfl rfl rfl rfl rfl) rfl ?_
        refine k_op0 (d := 41) (b := 325) (j' := 2) rfl rfl rfl rfl (.plain rfl) (T_load_b D rfl rfl rfl rfl rfl rfl) rfl ?_
        refine k_op0 (d := 42) (b := 341) (j' := 3) rfl rfl rfl rfl (.plain rfl) (T_fa D (m := 1) rfl rfl rfl rfl rfl rfl) rfl ?_
        refine k_op0 (d := 43) (b := 357) (j' := 4) rfl rfl rfl rfl (.plain rfl) (T_load_b D rfl rfl rfl rfl rfl rfl) rfl ?_
        refine k_op0 (d := 44) (b := 373) (j' := 5) rfl rfl rfl rfl (.plain rfl) (T_cmp rfl rfl rfl rfl) rfl ?_
        refine k_op0 (d := 45) (b := 389) (j' := 6) rfl rfl rfl rfl (.plain rfl) (T_move rfl rfl) rfl ?_
        refine k_split (d := 45) rfl (fun g5 => ?_) (fun g5 => ?_)
        · have h5 := g5; (try simp only [cmpB, decide_eq_true_eq, decide_eq_false_iff_not, beq_iff_eq, beq_eq_false_iff_ne, bne_iff_ne, ne_eq, bne_eq_false_iff_eq, Bool.not_eq_true', Bool.not_eq_false', Int.not_lt, Int.not_le] at h5)
          refine k_no (d := 46) (j' := 7) rfl rfl rfl (g_ft rfl rfl rfl g5) ?_
          refine k_no (d := 47) (j' := 8) rfl rfl rfl (g_ft rfl rfl rfl g5) ?_
          refine k_no (d := 48) (j' := 9) rfl rfl rfl (g_ft rfl rfl rfl g5) ?_
          refine k_no (d := 49) (j' := 10) rfl rfl rfl (g_ft rfl rfl rfl g5) ?_
          refine k_no (d := 50) (j' := 11) rfl rfl rfl (g_ft rfl rfl rfl g5) ?_
          refine k_op0 (d := 51) (b := 485) (j' := 12) rfl rfl rfl rfl (.plain rfl) (T_pick_t rfl rfl rfl g5) rfl ?_
          refine k_op0 (d := 52) (b := 501) (j' := 13) rfl rfl rfl rfl (.plain rfl) (T_move rfl rfl) rfl ?_
          refine k_no (d := 53) (j' := 14) rfl rfl rfl (g_ft rfl rfl rfl rfl) ?_
          refine k_no (d := 54) (j' := 15) rfl rfl rfl (g_ft rfl rfl rfl rfl) ?_
          refine k_no (d := 55) (j' := 16) rfl rfl rfl (g_ft rfl rfl rfl rfl) ?_
          refine k_no (d := 56) (j' := 17) rfl rfl rfl (g_ft rfl rfl rfl rfl) ?_
          refine k_no (d := 57) (j' := 18) rfl rfl rfl (g_ft rfl rfl rfl rfl) ?_
          refine k_op0 (d := 58) (b := 597) (j' := 19) rfl rfl rfl rfl (.plain rfl) (T_pick_t rfl rfl rfl rfl) rfl ?_
          refine k_op0 (d := 59) (b := 613) (j' := 20) rfl rfl rfl rfl (.plain rfl) (T_move rfl rfl) rfl ?_
          refine k_no (d := 60) (j' := 21) rfl rfl rfl (g_ft rfl rfl rfl rfl) ?_
          refine k_no (d := 61) (j' := 22) rfl rfl rfl (g_ft rfl rfl rfl rfl) ?_
          refine k_no (d := 62) (j' := 23) rfl rfl rfl (g_ft rfl rfl rfl rfl) ?_
          refine k_no (d := 63) (j' := 24) rfl rfl rfl (g_ft rfl rfl rfl rfl) ?_
          refine k_no (d := 64) (j' := 25) rfl rfl rfl (g_ft rfl rfl rfl rfl) ?_
          refine k_op0 (d := 65) (b := 709) (j' := 26) rfl rfl rfl rfl (.plain rfl) (T_pick_t rfl rfl rfl rfl) rfl ?_
          refine k_op0 (d := 66) (b := 725) (j' := 27) rfl rfl rfl rfl (.plain rfl) (T_move rfl rfl) rfl ?_
          refine k_no (d := 67) (j' := 28) rfl rfl rfl (g_ft rfl rfl rfl rfl) ?_
          refine k_no (d := 68) (j' := 29) rfl rfl rfl (g_ft rfl rfl rfl rfl) ?_
          refine k_no (d := 69) (j' := 30) rfl rfl rfl (g_ft rfl rfl rfl rfl) ?_
          refine k_no (d := 70) (j' := 31) rfl rfl rfl (g_ft rfl rfl rfl rfl) ?_
          refine k_no (d := 71) (j' := 32) rfl rfl rfl (g_ft rfl rfl rfl rfl) ?_
          refine k_no (d := 72) (j' := 33) rfl rfl rfl (g_ft rfl rfl rfl rfl) ?_
          refine k_no (d := 73) (j' := 34) rfl rfl rfl (g_ft rfl rfl rfl rfl) ?_
          refine k_op0 (d := 74) (b := 853) (j' := 35) rfl rfl rfl rfl (.plain rfl) (T_pick_t rfl rfl rfl rfl) rfl ?_
          refine k_done rfl ?_
          refine thenK_n ?_
          refine W_cond rfl (fun g6 => ?_) (fun g6 => ?_)
          · skip
            refine W_seq ?_
            refine W_seqK (b' := 885) rfl rfl ?_
            refine k_op0 (d := 4) (b := 869) (j' := 1) rfl rfl rfl rfl (.plain rfl) (T_assign rfl rfl) rfl ?_
            refine k_done rfl ?_
            refine thenK_n ?_
            refine W_ret ?_
            refine thenK_r ?_
            refine blockK_r ?_
            refine thenK_r ?_
            refine thenK_r ?_
            refine blockK_r ?_
            refine thenK_r ?_
            -- end 2
            exact .mk [] (.inr rfl) (.tmp rfl (.nil)) (by simp only [resLV, LV.ren, LV.v.injEq, Value.bool.injEq]; exact fn_ne (.inr (.inr ⟨j, fun e => h5 (by rw [e])⟩))) (.nil) rfl
          · exact absurd (g6.symm.trans rfl) (by decide)
        · have h5 := g5; (try simp only [cmpB, decide_eq_true_eq, decide_eq_false_iff_not, beq_iff_eq, beq_eq_false_iff_ne, bne_iff_ne, ne_eq, bne_eq_false_iff_eq, Bool.not_eq_true', Bool.not_eq_false', Int.not_lt, Int.not_le] at h5)
          refine k_op0 (d := 46) (b := 405) (j' := 7) rfl rfl rfl rfl (g_ff rfl rfl rfl g5) (T_fa D (m := 2) rfl rfl rfl rfl rfl rfl) rfl ?_
          refine k_op0 (d := 47) (b := 421) (j' := 8) rfl rfl rfl rfl (g_ff rfl rfl rfl g5) (T_load_b D rfl rfl rfl rfl rfl rfl) rfl ?_
          refine k_op0 (d := 48) (b := 437) (j' := 9) rfl rfl rfl rfl (g_ff rfl rfl rfl g5) (T_fa D (m := 2) rfl rfl rfl rfl rfl rfl) rfl ?_
          refine k_op0 (d := 49) (b := 453) (j' := 10) rfl rfl rfl rfl (g_ff rfl rfl rfl g5) (T_load_b D rfl rfl rfl rfl rfl rfl) rfl ?_
          refine k_op0 (d := 50) (b := 469) (j' := 11) rfl rfl rfl rfl (g_ff rfl rfl rfl g5) (T_cmp rfl rfl rfl rfl) rfl ?_
          refine k_op0 (d := 51) (b := 485) (j' := 12) rfl rfl rfl rfl (.plain rfl) (T_pick_f rfl rfl rfl g5) rfl ?_
          refine k_op0 (d := 52) (b := 501) (j' := 13) rfl rfl rfl rfl (.plain rfl) (T_move rfl rfl) rfl ?_
          refine k_split (d := 52) rfl (fun g7 => ?_) (fun g7 => ?_)
          · have h7 := g7; (try simp only [cmpB, decide_eq_true_eq, decide_eq_false_iff_not, beq_iff_eq, beq_eq_false_iff_ne, bne_iff_ne, ne_eq, bne_eq_false_iff_eq, Bool.not_eq_true', Bool.not_eq_false', Int.not_lt, Int.not_le] at h7)
            refine k_no (d := 53) (j' := 14) rfl rfl rfl (g_ft rfl rfl rfl g7) ?_
            refine k_no (d := 54) (j' := 15) rfl rfl rfl (g_ft rfl rfl rfl g7) ?_
            refine k_no (d := 55) (j' := 16) rfl rfl rfl (g_ft rfl rfl rfl g7) ?_
            refine k_no (d := 56) (j' := 17) rfl rfl rfl (g_ft rfl rfl rfl g7) ?_
            refine k_no (d := 57) (j' := 18) rfl rfl rfl (g_ft rfl rfl rfl g7) ?_
            refine k_op0 (d := 58) (b := 597) (j' := 19) rfl rfl rfl rfl (.plain rfl) (T_pick_t rfl rfl rfl g7) rfl ?_
            refine k_op0 (d := 59) (b := 613) (j' := 20) rfl rfl rfl rfl (.plain rfl) (T_move rfl rfl) rfl ?_
            refine k_no (d := 60) (j' := 21) rfl rfl rfl (g_ft rfl rfl rfl rfl) ?_
            refine k_no (d := 61) (j' := 22) rfl rfl rfl (g_ft rfl rfl rfl rfl) ?_
            refine k_no (d := 62) (j' := 23) rfl rfl rfl (g_ft rfl rfl rfl rfl) ?_
            refine k_no (d := 63) (j' := 24) rfl rfl rfl (g_ft rfl rfl rfl rfl) ?_
            refine k_no (d := 64) (j' := 25) rfl rfl rfl (g_ft rfl rfl rfl rfl) ?_
            refine k_op0 (d := 65) (b := 709) (j' := 26) rfl rfl rfl rfl (.plain rfl) (T_pick_t rfl rfl rfl rfl) rfl ?_
            refine k_op0 (d := 66) (b := 725) (j' := 27) rfl rfl rfl rfl (.plain rfl) (T_move rfl rfl) rfl ?_
            refine k_no (d := 67) (j' := 28) rfl rfl rfl (g_ft rfl rfl rfl rfl) ?_
            refine k_no (d := 68) (j' := 29) rfl rfl rfl (g_ft rfl rfl rfl rfl) ?_
            refine k_no (d := 69) (j' := 30) rfl rfl rfl (g_ft rfl rfl rfl rfl) ?_
            refine k_no (d := 70) (j' := 31) rfl rfl rfl (g_ft rfl rfl rfl rfl) ?_
            refine k_no (d := 71) (j' := 32) rfl rfl rfl (g_ft rfl rfl rfl rfl) ?_
            refine k_no (d := 72) (j' := 33) rfl rfl rfl (g_ft rfl rfl rfl rfl) ?_
            refine k_no (d := 73) (j' := 34) rfl rfl rfl (g_ft rfl rfl rfl rfl) ?_
            refine k_op0 (d := 74) (b := 853) (j' := 35) rfl rfl rfl rfl (.plain rfl) (T_pick_t rfl rfl rfl rfl) rfl ?_
            refine k_done rfl ?_
            refine thenK_n ?_
            refine W_cond rfl (fun g8 => ?_) (fun g8 => ?_)
            · skip
              refine W_seq ?_
              refine W_seqK (b' := 885) rfl rfl ?_
              refine k_op0 (d := 4) (b := 869) (j' := 1) rfl rfl rfl rfl (.plain rfl) (T_assign rfl rfl) rfl ?_
              refine k_done rfl ?_
              refine thenK_n ?_
              refine W_ret ?_
              refine thenK_r ?_
              refine blockK_r ?_
              refine thenK_r ?_
              refine thenK_r ?_
              refine blockK_r ?_
              refine thenK_r ?_
              -- end 3
              exact .mk [] (.inr rfl) (.tmp rfl (.nil)) (by simp only [resLV, LV.ren, LV.v.injEq, Value.bool.injEq]; exact fn_ne (.inr (.inr ⟨j, fun e => h7 (by rw [e])⟩))) (.nil) rfl
            · exact absurd (g8.symm.trans rfl) (by decide)
          · have h7 := g7; (try simp only [cmpB, decide_eq_true_eq, decide_eq_false_iff_not, beq_iff_eq, beq_eq_false_iff_ne, bne_iff_ne, ne_eq, bne_eq_false_iff_eq, Bool.not_eq_true', Bool.not_eq_false', Int.not_lt, Int.not_le] at h7)
            refine k_op0 (d := 53) (b := 517) (j' := 14) rfl rfl rfl rfl (g_ff rfl rfl rfl g7) (T_fa D (m := 3) rfl rfl rfl rfl rfl rfl) rfl ?_
            refine k_op0 (d := 54) (b := 533) (j' := 15) rfl rfl rfl rfl (g_ff rfl rfl rfl g7) (T_load_b D rfl rfl rfl rfl rfl rfl) rfl ?_
            refine k_op0 (d := 55) (b := 549) (j' := 16) rfl rfl rfl rfl (g_ff rfl rfl rfl g7) (T_fa D (m := 3) rfl rfl rfl rfl rfl rfl) rfl ?_
            refine k_op0 (d := 56) (b := 565) (j' := 17) rfl rfl rfl rfl (g_ff rfl rfl rfl g7) (T_load_b D rfl rfl rfl rfl rfl rfl) rfl ?_
            refine k_op0 (d := 57) (b := 581) (j' := 18) rfl rfl rfl rfl (g_ff rfl rfl rfl g7) (T_cmp rfl rfl rfl rfl) rfl ?_
            refine k_op0 (d := 58) (b := 597) (j' := 19) rfl rfl rfl rfl (.plain rfl) (T_pick_f rfl rfl rfl g7) rfl ?_
            refine k_op0 (d := 59) (b := 613) (j' := 20) rfl rfl rfl rfl (.plain rfl) (T_move rfl rfl) rfl ?_
            refine k_split (d := 59) rfl (fun g9 => ?_) (fun g9 => ?_)
            · have h9 := g9; (try simp only [cmpB, decide_eq_true_eq, decide_eq_false_iff_not, beq_iff_eq, beq_eq_false_iff_ne, bne_iff_ne, ne_eq, bne_eq_false_iff_eq, Bool.not_eq_true', Bool.not_eq_false', Int.not_lt, Int.not_le] at h9)
              refine k_no (d := 60) (j' := 21) rfl rfl rfl (g_ft rfl rfl rfl g9) ?_
              refine k_no (d := 61) (j' := 22) rfl rfl rfl (g_ft rfl rfl rfl g9) ?_
              refine k_no (d := 62) (j' := 23) rfl rfl rfl (g_ft rfl rfl rfl g9) ?_
              refine k_no (d := 63) (j' := 24) rfl rfl rfl (g_ft rfl rfl rfl g9) ?_
              refine k_no (d := 64) (j' := 25) rfl rfl rfl (g_ft rfl rfl rfl g9) ?_
              refine k_op0 (d := 65) (b := 709) (j' := 26) rfl rfl rfl rfl (.plain rfl) (T_pick_t rfl rfl rfl g9) rfl ?_
              refine k_op0 (d := 66) (b := 725) (j' := 27) rfl rfl rfl rfl (.plain rfl) (T_move rfl rfl) rfl ?_
              refine k_no (d := 67) (j' := 28) rfl rfl rfl (g_ft rfl rfl rfl rfl) ?_
              refine k_no (d := 68) (j' := 29) rfl rfl rfl (g_ft rfl rfl rfl rfl) ?_
              refine k_no (d := 69) (j' := 30) rfl rfl rfl (g_ft rfl rfl rfl rfl) ?_
              refine k_no (d := 70) (j' := 31) rfl rfl rfl (g_ft rfl rfl rfl rfl) ?_
              refine k_no (d := 71) (j' := 32) rfl rfl rfl (g_ft rfl rfl rfl rfl) ?_
              refine k_no (d := 72) (j' := 33) rfl rfl rfl (g_ft rfl rfl rfl rfl) ?_
              refine k_no (d := 73) (j' := 34) rfl rfl rfl (g_ft rfl rfl rfl rfl) ?_
              refine k_op0 (d := 74) (b := 853) (j' := 35) rfl rfl rfl rfl (.plain rfl) (T_pick_t rfl rfl rfl rfl) rfl ?_
              refine k_done rfl ?_
              refine thenK_n ?_
              refine W_cond rfl (fun g10 => ?_) (fun g10 => ?_)
              · skip
                refine W_seq ?_
                refine W_seqK (b' := 885) rfl rfl ?_
                refine k_op0 (d := 4) (b := 869) (j' := 1) rfl rfl rfl rfl (.plain rfl) (T_assign rfl rfl) rfl ?_
                refine k_done rfl ?_
                refine thenK_n ?_
                refine W_ret ?_
                refine thenK_r ?_
                refine blockK_r ?_
                refine thenK_r ?_
                refine thenK_r ?_
                refine blockK_r ?_
                refine thenK_r ?_
                -- end 4
                exact .mk [] (.inr rfl) (.tmp rfl (.nil)) (by simp only [resLV, LV.ren, LV.v.injEq, Value.bool.injEq]; exact fn_ne (.inr (.inr ⟨j, fun e => h9 (by rw [e])⟩))) (.nil) rfl
              · exact absurd (g10.symm.trans rfl) (by decide)
            · have h9 := g9; (try simp only [cmpB, decide_eq_true_eq, decide_eq_false_iff_not, beq_iff_eq, beq_eq_false_iff_ne, bne_iff_ne, ne_eq, bne_eq_false_iff_eq, Bool.not_eq_true', Bool.not_eq_false', Int.not_lt, Int.not_le] at h9)
              refine k_op0 (d := 60) (b := 629) (j' := 21) rfl rfl rfl rfl (g_ff rfl rfl rfl g9) (T_fa D (m := 4) rfl rfl rfl rfl rfl rfl) rfl ?_
              refine k_op0 (d := 61) (b := 645) (j' := 22) rfl rfl rfl rfl (g_ff rfl rfl rfl g9) (T_load_b D rfl rfl rfl rfl rfl rfl) rfl ?_
              refine k_op0 (d := 62) (b := 661) (j' := 23) rfl rfl rfl rfl (g_ff rfl rfl rfl g9) (T_fa D (m := 4) rfl rfl rfl rfl rfl rfl) rfl ?_
              refine k_op0 (d := 63) (b := 677) (j' := 24) rfl rfl rfl rfl (g_ff rfl rfl rfl g9) (T_load_b D rfl rfl rfl rfl rfl rfl) rfl ?_
              refine k_op0 (d := 64) (b := 693) (j' := 25) rfl rfl rfl rfl (g_ff rfl rfl rfl g9) (T_cmp rfl rfl rfl rfl) rfl ?_
              refine k_op0 (d := 65) (b := 709) (j' := 26) rfl rfl rfl rfl (.plain rfl) (T_pick_f rfl rfl rfl g9) rfl ?_
              refine k_op0 (d := 66) (b := 725) (j' := 27) rfl rfl rfl rfl (.plain rfl) (T_move rfl rfl) rfl ?_
              refine k_split (d := 66) rfl (fun g11 => ?_) (fun g11 => ?_)
              · have h11 := g11; (try simp only [cmpB, decide_eq_true_eq, decide_eq_false_iff_not, beq_iff_eq, beq_eq_false_iff_ne, bne_iff_ne, ne_eq, bne_eq_false_iff_eq, Bool.not_eq_true', Bool.not_eq_false', Int.not_lt, Int.not_le] at h11)
                refine k_no (d := 67) (j' := 28) rfl rfl rfl (g_ft rfl rfl rfl g11) ?_
                refine k_no (d := 68) (j' := 29) rfl rfl rfl (g_ft rfl rfl rfl g11) ?_
                refine k_no (d := 69) (j' := 30) rfl rfl rfl (g_ft rfl rfl rfl g11) ?_
                refine k_no (d := 70) (j' := 31) rfl rfl rfl (g_ft rfl rfl rfl g11) ?_
                refine k_no (d := 71) (j' := 32) rfl rfl rfl (g_ft rfl rfl rfl g11) ?_
                refine k_no (d := 72) (j' := 33) rfl rfl rfl (g_ft rfl rfl rfl g11) ?_
                refine k_no (d := 73) (j' := 34) rfl rfl rfl (g_ft rfl rfl rfl g11) ?_
                refine k_op0 (d := 74) (b := 853) (j' := 35) rfl rfl rfl rfl (.plain rfl) (T_pick_t rfl rfl rfl g11) rfl ?_
                refine k_done rfl ?_
                refine thenK_n ?_
                refine W_cond rfl (fun g12 => ?_) (fun g12 => ?_)
                · skip
                  refine W_seq ?_
                  refine W_seqK (b' := 885) rfl rfl ?_
                  refine k_op0 (d := 4) (b := 869) (j' := 1) rfl rfl rfl rfl (.plain rfl) (T_assign rfl rfl) rfl ?_
                  refine k_done rfl ?_
                  refine thenK_n ?_
                  refine W_ret ?_
                  refine thenK_r ?_
                  refine blockK_r ?_
                  refine thenK_r ?_
                  refine thenK_r ?_
                  refine blockK_r ?_
                  refine thenK_r ?_
                  -- end 5
                  exact .mk [] (.inr rfl) (.tmp rfl (.nil)) (by simp only [resLV, LV.ren, LV.v.injEq, Value.bool.injEq]; exact fn_ne (.inr (.inr ⟨j, fun e => h11 (by rw [e])⟩))) (.nil) rfl
                · exact absurd (g12.symm.trans rfl) (by decide)
              · have h11 := g11; (try simp only [cmpB, decide_eq_true_eq, decide_eq_false_iff_not, beq_iff_eq, beq_eq_false_iff_ne, bne_iff_ne, ne_eq, bne_eq_false_iff_eq, Bool.not_eq_true', Bool.not_eq_false', Int.not_lt, Int.not_le] at h11)
                refine k_op0 (d := 67) (b := 741) (j' := 28) rfl rfl rfl rfl (g_ff rfl rfl rfl g11) (T_fa D (m := 0) rfl rfl rfl rfl rfl rfl) rfl ?_
                refine k_op0 (d := 68) (b := 757) (j' := 29) rfl rfl rfl rfl (g_ff rfl rfl rfl g11) (T_load_b D rfl rfl rfl rfl rfl rfl) rfl ?_
                refine k_op0 (d := 69) (b := 773) (j' := 30) rfl rfl rfl rfl (g_ff rfl rfl rfl g11) (T_len D rfl rfl rfl rfl rfl rfl) rfl ?_
                refine k_op0 (d := 70) (b := 789) (j' := 31) rfl rfl rfl rfl (g_ff rfl rfl rfl g11) (T_fa D (m := 0) rfl rfl rfl rfl rfl rfl) rfl ?_
                refine k_op0 (d := 71) (b := 805) (j' := 32) rfl rfl rfl rfl (g_ff rfl rfl rfl g11) (T_load_b D rfl rfl rfl rfl rfl rfl) rfl ?_
                refine k_op0 (d := 72) (b := 821) (j' := 33) rfl rfl rfl rfl (g_ff rfl rfl rfl g11) (T_len D rfl rfl rfl rfl rfl rfl) rfl ?_
                refine k_op0 (d := 73) (b := 837) (j' := 34) rfl rfl rfl rfl (g_ff rfl rfl rfl g11) (T_cmp rfl rfl rfl rfl) rfl ?_
                refine k_op0 (d := 74) (b := 853) (j' := 35) rfl rfl rfl rfl (.plain rfl) (T_pick_f rfl rfl rfl g11) rfl ?_
                refine k_done rfl ?_
                refine thenK_n ?_
                refine W_cond rfl (fun g13 => ?_) (fun g13 => ?_)
                · have h13 := g13; (try simp only [cmpB, decide_eq_true_eq, decide_eq_false_iff_not, beq_iff_eq, beq_eq_false_iff_ne, bne_iff_ne, ne_eq, bne_eq_false_iff_eq, Bool.not_eq_true', Bool.not_eq_false', Int.not_lt, Int.not_le] at h13)
                  refine W_seq ?_
                  refine W_seqK (b' := 885) rfl rfl ?_
                  refine k_op0 (d := 4) (b := 869) (j' := 1) rfl rfl rfl rfl (.plain rfl) (T_assign rfl rfl) rfl ?_
                  refine k_done rfl ?_
                  refine thenK_n ?_
                  refine W_ret ?_
                  refine thenK_r ?_
                  refine blockK_r ?_
                  refine thenK_r ?_
                  refine thenK_r ?_
                  refine blockK_r ?_
                  refine thenK_r ?_
                  -- end 6
                  exact .mk [] (.inr rfl) (.tmp rfl (.nil)) (by simp only [resLV, LV.ren, LV.v.injEq, Value.bool.injEq]; exact fn_ne (.inr (.inr ⟨j, fun e => h13 (by rw [e])⟩))) (.nil) rfl
                · have h13 := g13; (try simp only [cmpB, decide_eq_true_eq, decide_eq_false_iff_not, beq_iff_eq, beq_eq_false_iff_ne, bne_iff_ne, ne_eq, bne_eq_false_iff_eq, Bool.not_eq_true', Bool.not_eq_false', Int.not_lt, Int.not_le] at h13)
                  refine W_skip ?_
                  refine thenK_n ?_
                  refine W_seq ?_
                  refine W_seqK (b' := 885) rfl rfl ?_
                  refine k_op0 (d := 8) (b := 869) (j' := 1) rfl rfl rfl rfl (.plain rfl) (T_assign rfl rfl) rfl ?_
                  refine k_done rfl ?_
                  refine thenK_n ?_
                  refine W_block ?_
                  have hij := hi (f.blocks.getD j default) (getD_mem (by omega))
                  refine W_loop (ι := Nat) 9 (fun i => ⟨[(2, .p 3 0), (3, .p 4 0), (5, .v (.int .i64 (j : Int))), (6, .p 5 0), (7, .p 7 0), (8, .v (.int .i64 (i : Int)))], [(1, .fz 5 (f.blocks.map eBlock)), (2, .fz 5 (g.blocks.map eBlock)), (3, .box 29 [.v (.int .i64 f.regs), .r 1]), (4, .box 29 [.v (.int .i64 g.regs), .r 2]), (5, .box 72 [.r 6, .v (.int .i64 (f.blocks.getD j default).fin), .v (.int .i64 (f.blocks.getD j default).v), .v (.int .i64 (f.blocks.getD j default).to), .v (.int .i64 (f.blocks.getD j default).els)]), (6, .fz 8 ((f.blocks.getD j default).ins.map eTac)), (7, .box 72 [.r 8, .v (.int .i64 (g.blocks.getD j default).fin), .v (.int .i64 (g.blocks.getD j default).v), .v (.int .i64 (g.blocks.getD j default).to), .v (.int .i64 (g.blocks.getD j default).els)]), (8, .fz 8 ((g.blocks.getD j default).ins.map eTac))]⟩) (fun i => i ≤ (f.blocks.getD j default).ins.length ∧ ∀ m, m < i → (f.blocks.getD j default).ins.getD m default = (g.blocks.getD j default).ins.getD m default) (fun i => (f.blocks.getD j default).ins.length - i) (0) (by exact ⟨Nat.zero_le _, fun m h => absurd h (Nat.not_lt_zero _)⟩) ?_ (fun i hI => ?_)
                  · exact ⟨[(3, 3), (4, 4), (5, 165), (6, 149), (7, 277), (8, 261)], .same rfl rfl (.same rfl rfl (.eq rfl (.same rfl rfl (.same rfl rfl (.eq rfl (.nil) (by first | rfl | simp)))) (by first | rfl | simp))), .fzE rfl (.fzE rfl (.box (by first | rfl | simp) (.box (by first | rfl | simp) (.box (by first | rfl | simp) (.fzE rfl (.box (by first | rfl | simp) (.fzE rfl (.nil) (by first | rfl | simp))) (by first | rfl | simp))))) (by first | rfl | simp)) (by first | rfl | simp), rfl⟩
                  refine W_seq ?_
                  refine W_seq ?_
                  refine W_seqK (b' := 89) rfl rfl ?_
                  refine k_op0 (d := 75) (b := 9) (j' := 1) rfl rfl rfl rfl (.plain rfl) (T_move rfl rfl) rfl ?_
                  refine k_op0 (d := 76) (b := 25) (j' := 2) rfl rfl rfl rfl (.plain rfl) (T_fa D (m := 0) rfl rfl rfl rfl rfl rfl) rfl ?_
                  refine k_op0 (d := 77) (b := 41) (j' := 3) rfl rfl rfl rfl (.plain rfl) (T_load_b D rfl rfl rfl rfl rfl rfl) rfl ?_
                  refine k_op0 (d := 78) (b := 57) (j' := 4) rfl rfl rfl rfl (.plain rfl) (T_len D rfl rfl rfl rfl rfl rfl) rfl ?_
                  refine k_op0 (d := 79) (b := 73) (j' := 5) rfl rfl rfl rfl (.plain rfl) (T_cmp rfl rfl rfl rfl) rfl ?_
                  refine k_done rfl ?_
                  refine thenK_n ?_
                  refine W_cond rfl (fun g14 => ?_) (fun g14 => ?_)
                  · have h14 := g14; (try simp only [cmpB, decide_eq_true_eq, decide_eq_false_iff_not, beq_iff_eq, beq_eq_false_iff_ne, bne_iff_ne, ne_eq, bne_eq_false_iff_eq, Bool.not_eq_true', Bool.not_eq_false', Int.not_lt, Int.not_le] at h14)
                    refine W_skip ?_
                    refine thenK_n ?_
                    refine W_seq ?_
                    refine W_block ?_
                    refine W_seq ?_
                    refine W_anyK (b' := 265) rfl rfl rfl ?_
                    refine k_op0 (d := 82) (b := 89) (j' := 1) rfl rfl rfl rfl (.plain rfl) (T_fa D (m := 0) rfl rfl rfl rfl rfl rfl) rfl ?_
                    refine k_op0 (d := 83) (b := 105) (j' := 2) rfl rfl rfl rfl (.plain rfl) (T_load_b D rfl rfl rfl rfl rfl rfl) rfl ?_
                    refine k_op0 (d := 84) (b := 121) (j' := 3) rfl rfl rfl rfl (.plain rfl) (T_move rfl rfl) rfl ?_
                    first | refine k_op0 (d := 85) (b := 137) (j' := 4) rfl rfl rfl rfl (.plain rfl) (T_indexAddr D rfl rfl rfl rfl rfl rfl rfl rfl (by first | assumption | omega | (simp; omega))) rfl ?_ | refine k_op0 (d := 85) (b := 137) (j' := 4) rfl rfl rfl rfl (.plain rfl) (T_indexAddrZ D rfl rfl rfl rfl rfl rfl rfl rfl (by first | assumption | omega | (simp; omega)) (by first | assumption | omega | (simp; omega))) rfl ?_
                    refine k_op0 (d := 86) (b := 153) (j' := 5) rfl rfl rfl rfl (.plain rfl) (T_ldEA D (l := [.v _, .v _, .v _, .v _, .v _, .v _, .v _, .v _]) (nn := 0) (upd := []) rfl rfl rfl rfl rfl (by first | assumption | omega | (simp; omega)) rfl rfl rfl rfl rfl) rfl ?_
                    refine k_op0 (d := 87) (b := 169) (j' := 6) rfl rfl rfl rfl (.plain rfl) (T_fa D (m := 0) rfl rfl rfl rfl rfl rfl) rfl ?_
                    refine k_op0 (d := 88) (b := 185) (j' := 7) rfl rfl rfl rfl (.plain rfl) (T_load_b D rfl rfl rfl rfl rfl rfl) rfl ?_
                    refine k_op0 (d := 89) (b := 201) (j' := 8) rfl rfl rfl rfl (.plain rfl) (T_move rfl rfl) rfl ?_
                    first | refine k_op0 (d := 90) (b := 217) (j' := 9) rfl rfl rfl rfl (.plain rfl) (T_indexAddr D rfl rfl rfl rfl rfl rfl rfl rfl (by first | assumption | omega | (simp; omega))) rfl ?_ | refine k_op0 (d := 90) (b := 217) (j' := 9) rfl rfl rfl rfl (.plain rfl) (T_indexAddrZ D rfl rfl rfl rfl rfl rfl rfl rfl (by first | assumption | omega | (simp; omega)) (by first | assumption | omega | (simp; omega))) rfl ?_
                    refine k_op0 (d := 91) (b := 233) (j' := 10) rfl rfl rfl rfl (.plain rfl) (T_ldEA D (l := [.v _, .v _, .v _, .v _, .v _, .v _, .v _, .v _]) (nn := 0) (upd := []) rfl rfl rfl rfl rfl (by first | assumption | omega | (simp; omega)) rfl rfl rfl rfl rfl) rfl ?_
                    refine k_op0 (d := 92) (b := 249) (j' := 11) rfl rfl rfl rfl (.plain rfl) (T_eqTacN ((f.blocks.getD j default).ins.getD i default) ((g.blocks.getD j default).ins.getD i default) rfl rfl rfl) rfl ?_
                    refine k_done rfl ?_
                    refine ⟨rfl, ?_⟩
                    refine thenK_n ?_
                    refine W_cond rfl (fun g15 => ?_) (fun g15 => ?_)
                    · have h15 := g15; (try simp only [cmpB, decide_eq_true_eq, decide_eq_false_iff_not, beq_iff_eq, beq_eq_false_iff_ne, bne_iff_ne, ne_eq, bne_eq_false_iff_eq, Bool.not_eq_true', Bool.not_eq_false', Int.not_lt, Int.not_le] at h15)
                      refine W_seq ?_
                      refine W_seqK (b' := 281) rfl rfl ?_
                      refine k_op0 (d := 4) (b := 265) (j' := 1) rfl rfl rfl rfl (.plain rfl) (T_assign rfl rfl) rfl ?_
                      refine k_done rfl ?_
                      refine thenK_n ?_
                      refine W_ret ?_
                      refine blockK_r ?_
                      refine thenK_r ?_
                      refine thenK_r ?_
                      refine blockK_r ?_
                      refine blockK_r ?_
                      refine thenK_r ?_
                      refine thenK_r ?_
                      refine blockK_r ?_
                      refine thenK_r ?_
                      -- end 7
                      exact .mk [] (.inr rfl) (.tmp rfl (.nil)) (by simp only [resLV, LV.ren, LV.v.injEq, Value.bool.injEq]; exact fn_ne (.inr (.inr ⟨j, fun e => h15 (by rw [e])⟩))) (.nil) rfl
                    · have h15 := g15; (try simp only [cmpB, decide_eq_true_eq, decide_eq_false_iff_not, beq_iff_eq, beq_eq_false_iff_ne, bne_iff_ne, ne_eq, bne_eq_false_iff_eq, Bool.not_eq_true', Bool.not_eq_false', Int.not_lt, Int.not_le] at h15)
                      refine W_skip ?_
                      refine blockK_n ?_
                      refine thenK_n ?_
                      refine W_seqK (b' := 313) rfl rfl ?_
                      refine k_op0 (d := 80) (b := 265) (j' := 1) rfl rfl rfl rfl (.plain rfl) (T_move rfl rfl) rfl ?_
                      refine k_op0 (d := 81) (b := 281) (j' := 2) rfl rfl rfl rfl (.plain rfl) (T_add64 rfl rfl rfl (by first | assumption | omega | (simp; omega))) rfl ?_
                      refine k_op0 (d := 8) (b := 297) (j' := 3) rfl rfl rfl rfl (.plain rfl) (T_assign rfl rfl) rfl ?_
                      refine k_done rfl ?_
                      refine thenK_n ?_
                      refine ⟨i + 1, by (try dsimp only); exact ⟨by omega, fun m hm => by rcases Nat.lt_or_ge m i with h | h; exact hI.2 m h; rw [show m = i by omega]; assumption⟩, by (try dsimp only); omega, ?_⟩
                      exact ⟨[(3, 3), (4, 4), (5, 5), (6, 6), (7, 7), (8, 8)], .same rfl rfl (.same rfl rfl (.eq rfl (.same rfl rfl (.same rfl rfl (.eq rfl (.nil) (by first | rfl | simp)))) (by first | rfl | simp))), .fzE rfl (.fzE rfl (.box (by first | rfl | simp) (.box (by first | rfl | simp) (.box (by first | rfl | simp) (.fzE rfl (.box (by first | rfl | simp) (.fzE rfl (.nil) (by first | rfl | simp))) (by first | rfl | simp))))) (by first | rfl | simp)) (by first | rfl | simp), rfl⟩
                  · have h14 := g14; (try simp only [cmpB, decide_eq_true_eq, decide_eq_false_iff_not, beq_iff_eq, beq_eq_false_iff_ne, bne_iff_ne, ne_eq, bne_eq_false_iff_eq, Bool.not_eq_true', Bool.not_eq_false', Int.not_lt, Int.not_le] at h14)
                    refine W_exit ?_
                    refine thenK_e ?_
                    refine thenK_e ?_
                    refine blockK_hit ?_
                    refine blockK_n ?_
                    refine thenK_n ?_
                    refine W_seqK (b' := 137) rfl rfl ?_
                    refine k_op0 (d := 28) (b := 89) (j' := 1) rfl rfl rfl rfl (.plain rfl) (T_move rfl rfl) rfl ?_
                    refine k_op0 (d := 29) (b := 105) (j' := 2) rfl rfl rfl rfl (.plain rfl) (T_add64 rfl rfl rfl (by first | assumption | omega | (simp; omega))) rfl ?_
                    refine k_op0 (d := 5) (b := 121) (j' := 3) rfl rfl rfl rfl (.plain rfl) (T_assign rfl rfl) rfl ?_
                    refine k_done rfl ?_
                    refine thenK_n ?_
                    refine ⟨j + 1, by (try dsimp only); exact ⟨by omega, fun i1 h => by rcases Nat.lt_or_ge i1 j with h0 | h0; exact hJ.2 i1 h0; rw [show i1 = j by omega]; exact block_ext (by omega) (by omega) (by omega) (by omega) (ext_getD (by omega) (fun m hm => hI.2 m (by omega)))⟩, by (try dsimp only); omega, ?_⟩
                    exact ⟨[(3, 3), (4, 4)], .same rfl rfl (.same rfl rfl (.eq rfl (.nil) (by first | rfl | simp))), .fzE rfl (.fzE rfl (.box (by first | rfl | simp) (.box (by first | rfl | simp) (.nil))) (by first | rfl | simp)) (by first | rfl | simp), rfl⟩
      · have h4 := g4; (try simp only [cmpB, decide_eq_true_eq, decide_eq_false_iff_not, beq_iff_eq, beq_eq_false_iff_ne, bne_iff_ne, ne_eq, bne_eq_false_iff_eq, Bool.not_eq_true', Bool.not_eq_false', Int.not_lt, Int.not_le] at h4)
        refine W_exit ?_
        refine thenK_e ?_
        refine thenK_e ?_
        refine blockK_hit ?_
        refine thenK_n ?_
        refine W_seq ?_
        refine W_seqK (b' := 101) rfl rfl ?_
        refine k_op0 (d := 4) (b := 85) (j' := 1) rfl rfl rfl rfl (.plain rfl) (T_assign rfl rfl) rfl ?_
        refine k_done rfl ?_
        refine thenK_n ?_
        refine W_ret ?_
        -- end 8
        exact .mk [] (.inr rfl) (.tmp rfl (.nil)) (by simp only [resLV, LV.ren, LV.v.injEq, Value.bool.injEq]; exact fn_eq h1 (by omega) (fun j1 h => hJ.2 j1 (by omega))) (.nil) rfl
end Lg
end Go.Proofs.Ytpfhmodjjljpjaa
