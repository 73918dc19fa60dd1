import Derived.Test.YtpfhmodjjljpjaaPi
namespace Go.Proofs.Ytpfhmodjjljpjaa
open Go.RowKit
namespace Lg
set_option maxRecDepth 100000
set_option linter.unusedVariables false
set_option linter.unusedSimpArgs false



theorem body4 : (Try.prog.funcs[4]?).map (fun fn => (fn.name == "runtime.NumGoroutine" || fn.body.isNone)) = some false := by kernel_rfl
theorem law4 (f g : GFn) (ps : List (List Int)) (hf : FnOk f) (hg : FnOk g) (hp : PsOk ps) : Spec Try.prog 4 [.agg [.v (.int .i64 f.regs), .r 1], .agg [.v (.int .i64 g.regs), .r 2], .r 3] 4 [(1, .fz 5 (f.blocks.map eBlock)), (2, .fz 5 (g.blocks.map eBlock)), (3, .fz 1 (ps.map eIs))] (.v (.bool true)) 4 [] := by
  have hf1 := hf.1
  have hg1 := hg.1
  have hp1 := hp.1
  refine spec_of D (fn := Try.f4) rfl rfl (Nat.le_of_ble_eq_true rfl) ?_
  refine W_seq ?_
  refine W_seqK (b' := 52) rfl rfl ?_
  refine k_op1 (d := 3) (b := 4) (j' := 1) rfl rfl rfl rfl (.plain rfl) (T_box rfl rfl flat_agg) rfl ?_
  refine k_op1 (d := 4) (b := 20) (j' := 2) rfl rfl rfl rfl (.plain rfl) (T_box rfl rfl flat_agg) rfl ?_
  refine k_op0 (d := 6) (b := 36) (j' := 3) rfl rfl rfl rfl (.plain rfl) (T_assign rfl rfl) rfl ?_
  refine k_done rfl ?_
  refine thenK_n ?_
  refine W_seq ?_
  refine W_seq ?_
  refine W_seqK (b' := 84) rfl rfl ?_
  refine k_op0 (d := 7) (b := 52) (j' := 1) rfl rfl rfl rfl (.plain rfl) (T_callV (lvs := []) (L := []) (awake_spec) body24 rfl rfl rfl rfl (.nil) rfl) rfl ?_
  refine k_op0 (d := 8) (b := 68) (j' := 2) rfl rfl rfl rfl (.plain rfl) (T_not rfl rfl) rfl ?_
  refine k_done rfl ?_
  refine thenK_n ?_
  refine W_cond rfl (fun g1 => ?_) (fun g1 => ?_)
  · have h1 := g1; (try simp only [cmpB, decide_eq_true_eq, decide_eq_false_iff_not, beq_iff_eq, beq_eq_false_iff_ne, bne_iff_ne, ne_eq, bne_eq_false_iff_eq, Bool.not_eq_true', Bool.not_eq_false', Int.not_lt, Int.not_le] at h1)
    refine W_seq ?_
    refine W_seqK (b' := 100) rfl rfl ?_
    refine k_op0 (d := 6) (b := 84) (j' := 1) rfl rfl rfl rfl (.plain rfl) (T_assign rfl rfl) rfl ?_
    refine k_done rfl ?_
    refine thenK_n ?_
    refine W_ret ?_
    refine thenK_r ?_
    -- end 0
    exact .mk [] (.inr rfl) (.tmp rfl (.nil)) (by first | rfl | exact absurd g1 (by decide) | simp [resLV, LV.ren]) (.nil) rfl
  · have h1 := g1; (try simp only [cmpB, decide_eq_true_eq, decide_eq_false_iff_not, beq_iff_eq, beq_eq_false_iff_ne, bne_iff_ne, ne_eq, bne_eq_false_iff_eq, Bool.not_eq_true', Bool.not_eq_false', Int.not_lt, Int.not_le] at h1)
    refine W_skip ?_
    refine thenK_n ?_
    refine W_seq ?_
    refine W_seq ?_
    refine W_seqK (b' := 292) rfl rfl ?_
    refine k_op0 (d := 9) (b := 84) (j' := 1) rfl rfl rfl rfl (.plain rfl) (T_load_bA D (l := [_, _]) rfl rfl rfl rfl rfl rfl rfl) rfl ?_
    refine k_op0 (d := 10) (b := 100) (j' := 2) rfl rfl rfl rfl (.plain rfl) (T_callV (lvs := [_, _, _]) (L := [(1, 1)]) (few_spec f 40 200 (by omega) (fun h j => few_sum hf (n := 40) (by omega) (by omega) j)) body31 rfl rfl rfl rfl (.fz rfl (.nil)) rfl) rfl ?_
    refine k_op0 (d := 11) (b := 116) (j' := 3) rfl rfl rfl rfl (.plain rfl) (T_not rfl rfl) rfl ?_
    refine k_op0 (d := 12) (b := 132) (j' := 4) rfl rfl rfl rfl (.plain rfl) (T_move rfl rfl) rfl ?_
    refine k_split (d := 12) rfl (fun g2 => ?_) (fun g2 => ?_)
    · have h2 := g2; (try simp only [cmpB, decide_eq_true_eq, decide_eq_false_iff_not, beq_iff_eq, beq_eq_false_iff_ne, bne_iff_ne, ne_eq, bne_eq_false_iff_eq, Bool.not_eq_true', Bool.not_eq_false', Int.not_lt, Int.not_le] at h2)
      refine k_no (d := 13) (j' := 5) rfl rfl rfl (g_ft rfl rfl rfl g2) ?_
      refine k_no (d := 14) (j' := 6) rfl rfl rfl (g_ft rfl rfl rfl g2) ?_
      refine k_no (d := 15) (j' := 7) rfl rfl rfl (g_ft rfl rfl rfl g2) ?_
      refine k_op0 (d := 16) (b := 196) (j' := 8) rfl rfl rfl rfl (.plain rfl) (T_pick_t rfl rfl rfl g2) rfl ?_
      refine k_op0 (d := 17) (b := 212) (j' := 9) rfl rfl rfl rfl (.plain rfl) (T_move rfl rfl) rfl ?_
      refine k_no (d := 18) (j' := 10) rfl rfl rfl (g_ft rfl rfl rfl rfl) ?_
      refine k_no (d := 19) (j' := 11) rfl rfl rfl (g_ft rfl rfl rfl rfl) ?_
      refine k_no (d := 20) (j' := 12) rfl rfl rfl (g_ft rfl rfl rfl rfl) ?_
      refine k_op0 (d := 21) (b := 276) (j' := 13) rfl rfl rfl rfl (.plain rfl) (T_pick_t rfl rfl rfl rfl) rfl ?_
      refine k_done rfl ?_
      refine thenK_n ?_
      refine W_cond rfl (fun g3 => ?_) (fun g3 => ?_)
      · skip
        refine W_seq ?_
        refine W_seqK (b' := 308) rfl rfl ?_
        refine k_op0 (d := 6) (b := 292) (j' := 1) rfl rfl rfl rfl (.plain rfl) (T_assign rfl rfl) rfl ?_
        refine k_done rfl ?_
        refine thenK_n ?_
        refine W_ret ?_
        refine thenK_r ?_
        -- end 1
        exact .mk [] (.inr rfl) (.tmp rfl (.nil)) (by first | rfl | exact absurd g1 (by decide) | simp [resLV, LV.ren]) (.nil) rfl
      · exact absurd (g3.symm.trans rfl) (by decide)
    · have h2 := g2; (try simp only [cmpB, decide_eq_true_eq, decide_eq_false_iff_not, beq_iff_eq, beq_eq_false_iff_ne, bne_iff_ne, ne_eq, bne_eq_false_iff_eq, Bool.not_eq_true', Bool.not_eq_false', Int.not_lt, Int.not_le] at h2)
      refine k_op0 (d := 13) (b := 148) (j' := 5) rfl rfl rfl rfl (g_ff rfl rfl rfl g2) (T_load_bA D (l := [_, _]) rfl rfl rfl rfl rfl rfl rfl) rfl ?_
      refine k_op0 (d := 14) (b := 164) (j' := 6) rfl rfl rfl rfl (g_ff rfl rfl rfl g2) (T_callV (lvs := [_, _, _]) (L := [(1, 2)]) (few_spec g 40 200 (by omega) (fun h j => few_sum hg (n := 40) (by omega) (by omega) j)) body31 rfl rfl rfl rfl (.fz rfl (.nil)) rfl) rfl ?_
      refine k_op0 (d := 15) (b := 180) (j' := 7) rfl rfl rfl rfl (g_ff rfl rfl rfl g2) (T_not rfl rfl) rfl ?_
      refine k_op0 (d := 16) (b := 196) (j' := 8) rfl rfl rfl rfl (.plain rfl) (T_pick_f rfl rfl rfl g2) rfl ?_
      refine k_op0 (d := 17) (b := 212) (j' := 9) rfl rfl rfl rfl (.plain rfl) (T_move rfl rfl) rfl ?_
      refine k_split (d := 17) rfl (fun g4 => ?_) (fun g4 => ?_)
      · have h4 := g4; (try simp only [cmpB, decide_eq_true_eq, decide_eq_false_iff_not, beq_iff_eq, beq_eq_false_iff_ne, bne_iff_ne, ne_eq, bne_eq_false_iff_eq, Bool.not_eq_true', Bool.not_eq_false', Int.not_lt, Int.not_le] at h4)
        refine k_no (d := 18) (j' := 10) rfl rfl rfl (g_ft rfl rfl rfl g4) ?_
        refine k_no (d := 19) (j' := 11) rfl rfl rfl (g_ft rfl rfl rfl g4) ?_
        refine k_no (d := 20) (j' := 12) rfl rfl rfl (g_ft rfl rfl rfl g4) ?_
        refine k_op0 (d := 21) (b := 276) (j' := 13) rfl rfl rfl rfl (.plain rfl) (T_pick_t rfl rfl rfl g4) rfl ?_
        refine k_done rfl ?_
        refine thenK_n ?_
        refine W_cond rfl (fun g5 => ?_) (fun g5 => ?_)
        · skip
          refine W_seq ?_
          refine W_seqK (b' := 308) rfl rfl ?_
          refine k_op0 (d := 6) (b := 292) (j' := 1) rfl rfl rfl rfl (.plain rfl) (T_assign rfl rfl) rfl ?_
          refine k_done rfl ?_
          refine thenK_n ?_
          refine W_ret ?_
          refine thenK_r ?_
          -- end 2
          exact .mk [] (.inr rfl) (.tmp rfl (.nil)) (by first | rfl | exact absurd g1 (by decide) | simp [resLV, LV.ren]) (.nil) rfl
        · exact absurd (g5.symm.trans rfl) (by decide)
      · have h4 := g4; (try simp only [cmpB, decide_eq_true_eq, decide_eq_false_iff_not, beq_iff_eq, beq_eq_false_iff_ne, bne_iff_ne, ne_eq, bne_eq_false_iff_eq, Bool.not_eq_true', Bool.not_eq_false', Int.not_lt, Int.not_le] at h4)
        refine k_op0 (d := 18) (b := 228) (j' := 10) rfl rfl rfl rfl (g_ff rfl rfl rfl g4) (T_move rfl rfl) rfl ?_
        refine k_op0 (d := 19) (b := 244) (j' := 11) rfl rfl rfl rfl (g_ff rfl rfl rfl g4) (T_callV (lvs := [_, _, _]) (L := [(1, 3)]) (small_spec ps 40 200 (by omega) (by omega) (fun p h => by have := hp.2 p h; omega)) body32 rfl rfl rfl rfl (.fz rfl (.nil)) rfl) rfl ?_
        refine k_op0 (d := 20) (b := 260) (j' := 12) rfl rfl rfl rfl (g_ff rfl rfl rfl g4) (T_not rfl rfl) rfl ?_
        refine k_op0 (d := 21) (b := 276) (j' := 13) rfl rfl rfl rfl (.plain rfl) (T_pick_f rfl rfl rfl g4) rfl ?_
        refine k_done rfl ?_
        refine thenK_n ?_
        refine W_cond rfl (fun g6 => ?_) (fun g6 => ?_)
        · have h6 := g6; (try simp only [cmpB, decide_eq_true_eq, decide_eq_false_iff_not, beq_iff_eq, beq_eq_false_iff_ne, bne_iff_ne, ne_eq, bne_eq_false_iff_eq, Bool.not_eq_true', Bool.not_eq_false', Int.not_lt, Int.not_le] at h6)
          refine W_seq ?_
          refine W_seqK (b' := 308) rfl rfl ?_
          refine k_op0 (d := 6) (b := 292) (j' := 1) rfl rfl rfl rfl (.plain rfl) (T_assign rfl rfl) rfl ?_
          refine k_done rfl ?_
          refine thenK_n ?_
          refine W_ret ?_
          refine thenK_r ?_
          -- end 3
          exact .mk [] (.inr rfl) (.tmp rfl (.nil)) (by first | rfl | exact absurd g1 (by decide) | simp [resLV, LV.ren]) (.nil) rfl
        · have h6 := g6; (try simp only [cmpB, decide_eq_true_eq, decide_eq_false_iff_not, beq_iff_eq, beq_eq_false_iff_ne, bne_iff_ne, ne_eq, bne_eq_false_iff_eq, Bool.not_eq_true', Bool.not_eq_false', Int.not_lt, Int.not_le] at h6)
          refine W_skip ?_
          refine thenK_n ?_
          refine W_seq ?_
          refine W_anyK (b' := 452) rfl rfl rfl ?_
          refine k_op0 (d := 22) (b := 292) (j' := 1) rfl rfl rfl rfl (.plain rfl) (T_load_bA D (l := [_, _]) rfl rfl rfl rfl rfl rfl rfl) rfl ?_
          refine k_op0 (d := 23) (b := 308) (j' := 2) rfl rfl rfl rfl (.plain rfl) (T_load_bA D (l := [_, _]) rfl rfl rfl rfl rfl rfl rfl) rfl ?_
          refine k_op0 (d := 24) (b := 324) (j' := 3) rfl rfl rfl rfl (.plain rfl) (T_move rfl rfl) rfl ?_
          refine k_op0 (d := 25) (b := 340) (j' := 4) rfl rfl rfl rfl (.plain rfl) (T_callV (lvs := [_, _, _]) (L := [(1, 1), (2, 2), (3, 3)]) (tcheck_ok (f := f) (g := g) (ps := ps) (chkOk (by assumption) (by assumption) (by assumption) (by omega) (by omega) (by omega) (by omega))) body30 rfl rfl rfl rfl (.fz rfl (.fz rfl (.fz rfl (.nil)))) rfl) rfl ?_
          refine k_op0 (d := 26) (b := 356) (j' := 5) rfl rfl rfl rfl (.plain rfl) (T_load_bA D (l := [_, _]) rfl rfl rfl rfl rfl rfl rfl) rfl ?_
          refine k_op0 (d := 27) (b := 372) (j' := 6) rfl rfl rfl rfl (.plain rfl) (T_load_bA D (l := [_, _]) rfl rfl rfl rfl rfl rfl rfl) rfl ?_
          refine k_op0 (d := 28) (b := 388) (j' := 7) rfl rfl rfl rfl (.plain rfl) (T_move rfl rfl) rfl ?_
          refine k_op0 (d := 29) (b := 404) (j' := 8) rfl rfl rfl rfl (.plain rfl) (T_callV (lvs := [_, _, _]) (L := [(1, 1), (2, 2), (3, 3)]) (rcheck_ok (f := f) (g := g) (ps := ps) (chkOk (by assumption) (by assumption) (by assumption) (by omega) (by omega) (by omega) (by omega))) body33 rfl rfl rfl rfl (.fz rfl (.fz rfl (.fz rfl (.nil)))) rfl) rfl ?_
          refine k_op0 (d := 30) (b := 420) (j' := 9) rfl rfl rfl rfl (.plain rfl) (T_eqB rfl rfl rfl) rfl ?_
          refine k_op0 (d := 6) (b := 436) (j' := 10) rfl rfl rfl rfl (.plain rfl) (T_assign rfl rfl) rfl ?_
          refine k_done rfl ?_
          refine ⟨rfl, ?_⟩
          refine thenK_n ?_
          refine W_ret ?_
          -- end 4
          exact .mk [] (.inr rfl) (.tmp rfl (.nil)) (by first | rfl | exact absurd g1 (by decide) | simp [resLV, LV.ren]) (.nil) rfl
end Lg
end Go.Proofs.Ytpfhmodjjljpjaa
