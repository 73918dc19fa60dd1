import Derived.Test.YtpfhmodjjljpjaaJp
namespace Go.Proofs.Ytpfhmodjjljpjaa
open Go.RowKit
namespace Lg
set_option maxRecDepth 100000
set_option linter.unusedVariables false
set_option linter.unusedSimpArgs false



theorem body12 : (Try.prog.funcs[12]?).map (fun fn => (fn.name == "runtime.NumGoroutine" || fn.body.isNone)) = some false := by kernel_rfl
theorem law12 (a b c : GFn) (p q : List (List Int)) (ha : FnOk a) (hb : FnOk b) (hc : FnOk c) (hp : PsOk p) (hq : PsOk q) : Spec Try.prog 12 [.agg [.v (.int .i64 a.regs), .r 1, .v (.int .i64 b.regs), .r 2, .v (.int .i64 c.regs), .r 3, .r 4, .r 5]] 6 [(1, .fz 5 (a.blocks.map eBlock)), (2, .fz 5 (b.blocks.map eBlock)), (3, .fz 5 (c.blocks.map eBlock)), (4, .fz 1 (p.map eIs)), (5, .fz 1 (q.map eIs))] (.v (.bool true)) 6 [] := by
  have ha1 := ha.1
  have hb1 := hb.1
  have hc1 := hc.1
  have hp1 := hp.1
  have hq1 := hq.1
  refine spec_of D (fn := Try.f12) rfl rfl (Nat.le_of_ble_eq_true rfl) ?_
  refine W_seq ?_
  refine W_seqK (b' := 38) rfl rfl ?_
  refine k_op1 (d := 1) (b := 6) (j' := 1) rfl rfl rfl rfl (.plain rfl) (T_box rfl rfl flat_agg) rfl ?_
  refine k_op0 (d := 2) (b := 22) (j' := 2) rfl rfl rfl rfl (.plain rfl) (T_assign rfl rfl) rfl ?_
  refine k_done rfl ?_
  refine thenK_n ?_
  refine W_seq ?_
  refine W_seq ?_
  refine W_seqK (b' := 70) rfl rfl ?_
  refine k_op0 (d := 7) (b := 38) (j' := 1) rfl rfl rfl rfl (.plain rfl) (T_callV (lvs := []) (L := []) (awake_spec) body24 rfl rfl rfl rfl (.nil) rfl) rfl ?_
  refine k_op0 (d := 8) (b := 54) (j' := 2) rfl rfl rfl rfl (.plain rfl) (T_not rfl rfl) rfl ?_
  refine k_done rfl ?_
  refine thenK_n ?_
  refine W_cond rfl (fun g1 => ?_) (fun g1 => ?_)
  · have h1 := g1; (try simp only [cmpB, decide_eq_true_eq, decide_eq_false_iff_not, beq_iff_eq, beq_eq_false_iff_ne, bne_iff_ne, ne_eq, bne_eq_false_iff_eq, Bool.not_eq_true', Bool.not_eq_false', Int.not_lt, Int.not_le] at h1)
    refine W_seq ?_
    refine W_seqK (b' := 86) rfl rfl ?_
    refine k_op0 (d := 2) (b := 70) (j' := 1) rfl rfl rfl rfl (.plain rfl) (T_assign rfl rfl) rfl ?_
    refine k_done rfl ?_
    refine thenK_n ?_
    refine W_ret ?_
    refine thenK_r ?_
    -- end 0
    exact .mk [] (.inr rfl) (.tmp rfl (.nil)) (by first | rfl | exact absurd g1 (by decide) | (exfalso; have k := hk (by omega); omega) | (simp only [resLV, LV.ren, LV.v.injEq, Value.bool.injEq]; have e : j = q.length := (by omega); rw [e, List.take_of_length_le (Nat.le_refl _)]; exact (tcheck_iff _ _ _).2 (joined_holds hAB hBC)) | simp [resLV, LV.ren]) (.nil) rfl
  · have h1 := g1; (try simp only [cmpB, decide_eq_true_eq, decide_eq_false_iff_not, beq_iff_eq, beq_eq_false_iff_ne, bne_iff_ne, ne_eq, bne_eq_false_iff_eq, Bool.not_eq_true', Bool.not_eq_false', Int.not_lt, Int.not_le] at h1)
    refine W_skip ?_
    refine thenK_n ?_
    refine W_seq ?_
    refine W_seq ?_
    refine W_seqK (b' := 838) rfl rfl ?_
    refine k_op0 (d := 9) (b := 70) (j' := 1) rfl rfl rfl rfl (.plain rfl) (T_fa D (m := 0) rfl rfl rfl rfl rfl rfl) rfl ?_
    refine k_op0 (d := 10) (b := 86) (j' := 2) rfl rfl rfl rfl (.plain rfl) (T_load_bA D (l := [_, _]) rfl rfl rfl rfl rfl rfl rfl) rfl ?_
    refine k_op0 (d := 11) (b := 102) (j' := 3) rfl rfl rfl rfl (.plain rfl) (T_callV (lvs := [_, _, _]) (L := [(1, 1)]) (few_spec a 40 200 (by omega) (fun h j => few_sum ha (n := 40) (by omega) (by omega) j)) body31 rfl rfl rfl rfl (.fz rfl (.nil)) rfl) rfl ?_
    refine k_op0 (d := 12) (b := 118) (j' := 4) rfl rfl rfl rfl (.plain rfl) (T_not rfl rfl) rfl ?_
    refine k_op0 (d := 13) (b := 134) (j' := 5) rfl rfl rfl rfl (.plain rfl) (T_move rfl rfl) rfl ?_
    refine k_split (d := 13) rfl (fun g2 => ?_) (fun g2 => ?_)
    · have h2 := g2; (try simp only [cmpB, decide_eq_true_eq, decide_eq_false_iff_not, beq_iff_eq, beq_eq_false_iff_ne, bne_iff_ne, ne_eq, bne_eq_false_iff_eq, Bool.not_eq_true', Bool.not_eq_false', Int.not_lt, Int.not_le] at h2)
      refine k_no (d := 14) (j' := 6) rfl rfl rfl (g_ft rfl rfl rfl g2) ?_
      refine k_no (d := 15) (j' := 7) rfl rfl rfl (g_ft rfl rfl rfl g2) ?_
      refine k_no (d := 16) (j' := 8) rfl rfl rfl (g_ft rfl rfl rfl g2) ?_
      refine k_no (d := 17) (j' := 9) rfl rfl rfl (g_ft rfl rfl rfl g2) ?_
      refine k_op0 (d := 18) (b := 214) (j' := 10) rfl rfl rfl rfl (.plain rfl) (T_pick_t rfl rfl rfl g2) rfl ?_
      refine k_op0 (d := 19) (b := 230) (j' := 11) rfl rfl rfl rfl (.plain rfl) (T_move rfl rfl) rfl ?_
      refine k_no (d := 20) (j' := 12) rfl rfl rfl (g_ft rfl rfl rfl rfl) ?_
      refine k_no (d := 21) (j' := 13) rfl rfl rfl (g_ft rfl rfl rfl rfl) ?_
      refine k_no (d := 22) (j' := 14) rfl rfl rfl (g_ft rfl rfl rfl rfl) ?_
      refine k_no (d := 23) (j' := 15) rfl rfl rfl (g_ft rfl rfl rfl rfl) ?_
      refine k_op0 (d := 24) (b := 310) (j' := 16) rfl rfl rfl rfl (.plain rfl) (T_pick_t rfl rfl rfl rfl) rfl ?_
      refine k_op0 (d := 25) (b := 326) (j' := 17) rfl rfl rfl rfl (.plain rfl) (T_move rfl rfl) rfl ?_
      refine k_no (d := 26) (j' := 18) rfl rfl rfl (g_ft rfl rfl rfl rfl) ?_
      refine k_no (d := 27) (j' := 19) rfl rfl rfl (g_ft rfl rfl rfl rfl) ?_
      refine k_no (d := 28) (j' := 20) rfl rfl rfl (g_ft rfl rfl rfl rfl) ?_
      refine k_no (d := 29) (j' := 21) rfl rfl rfl (g_ft rfl rfl rfl rfl) ?_
      refine k_op0 (d := 30) (b := 406) (j' := 22) rfl rfl rfl rfl (.plain rfl) (T_pick_t rfl rfl rfl rfl) rfl ?_
      refine k_op0 (d := 31) (b := 422) (j' := 23) rfl rfl rfl rfl (.plain rfl) (T_move rfl rfl) rfl ?_
      refine k_no (d := 32) (j' := 24) rfl rfl rfl (g_ft rfl rfl rfl rfl) ?_
      refine k_no (d := 33) (j' := 25) rfl rfl rfl (g_ft rfl rfl rfl rfl) ?_
      refine k_no (d := 34) (j' := 26) rfl rfl rfl (g_ft rfl rfl rfl rfl) ?_
      refine k_no (d := 35) (j' := 27) rfl rfl rfl (g_ft rfl rfl rfl rfl) ?_
      refine k_op0 (d := 36) (b := 502) (j' := 28) rfl rfl rfl rfl (.plain rfl) (T_pick_t rfl rfl rfl rfl) rfl ?_
      refine k_op0 (d := 37) (b := 518) (j' := 29) rfl rfl rfl rfl (.plain rfl) (T_move rfl rfl) rfl ?_
      refine k_no (d := 38) (j' := 30) rfl rfl rfl (g_ft rfl rfl rfl rfl) ?_
      refine k_no (d := 39) (j' := 31) rfl rfl rfl (g_ft rfl rfl rfl rfl) ?_
      refine k_no (d := 40) (j' := 32) rfl rfl rfl (g_ft rfl rfl rfl rfl) ?_
      refine k_no (d := 41) (j' := 33) rfl rfl rfl (g_ft rfl rfl rfl rfl) ?_
      refine k_no (d := 42) (j' := 34) rfl rfl rfl (g_ft rfl rfl rfl rfl) ?_
      refine k_no (d := 43) (j' := 35) rfl rfl rfl (g_ft rfl rfl rfl rfl) ?_
      refine k_no (d := 44) (j' := 36) rfl rfl rfl (g_ft rfl rfl rfl rfl) ?_
      refine k_no (d := 45) (j' := 37) rfl rfl rfl (g_ft rfl rfl rfl rfl) ?_
      refine k_op0 (d := 46) (b := 662) (j' := 38) rfl rfl rfl rfl (.plain rfl) (T_pick_t rfl rfl rfl rfl) rfl ?_
      refine k_op0 (d := 47) (b := 678) (j' := 39) rfl rfl rfl rfl (.plain rfl) (T_move rfl rfl) rfl ?_
      refine k_no (d := 48) (j' := 40) rfl rfl rfl (g_ft rfl rfl rfl rfl) ?_
      refine k_no (d := 49) (j' := 41) rfl rfl rfl (g_ft rfl rfl rfl rfl) ?_
      refine k_no (d := 50) (j' := 42) rfl rfl rfl (g_ft rfl rfl rfl rfl) ?_
      refine k_no (d := 51) (j' := 43) rfl rfl rfl (g_ft rfl rfl rfl rfl) ?_
      refine k_no (d := 52) (j' := 44) rfl rfl rfl (g_ft rfl rfl rfl rfl) ?_
      refine k_no (d := 53) (j' := 45) rfl rfl rfl (g_ft rfl rfl rfl rfl) ?_
      refine k_no (d := 54) (j' := 46) rfl rfl rfl (g_ft rfl rfl rfl rfl) ?_
      refine k_no (d := 55) (j' := 47) rfl rfl rfl (g_ft rfl rfl rfl rfl) ?_
      refine k_op0 (d := 56) (b := 822) (j' := 48) rfl rfl rfl rfl (.plain rfl) (T_pick_t rfl rfl rfl rfl) rfl ?_
      refine k_done rfl ?_
      refine thenK_n ?_
      refine W_cond rfl (fun g3 => ?_) (fun g3 => ?_)
      · skip
        refine W_seq ?_
        refine W_seqK (b' := 854) rfl rfl ?_
        refine k_op0 (d := 2) (b := 838) (j' := 1) rfl rfl rfl rfl (.plain rfl) (T_assign rfl rfl) rfl ?_
        refine k_done rfl ?_
        refine thenK_n ?_
        refine W_ret ?_
        refine thenK_r ?_
        -- end 1
        exact .mk [] (.inr rfl) (.tmp rfl (.nil)) (by first | rfl | exact absurd g1 (by decide) | (exfalso; have k := hk (by omega); omega) | (simp only [resLV, LV.ren, LV.v.injEq, Value.bool.injEq]; have e : j = q.length := (by omega); rw [e, List.take_of_length_le (Nat.le_refl _)]; exact (tcheck_iff _ _ _).2 (joined_holds hAB hBC)) | simp [resLV, LV.ren]) (.nil) rfl
      · exact absurd (g3.symm.trans rfl) (by decide)
    · have h2 := g2; (try simp only [cmpB, decide_eq_true_eq, decide_eq_false_iff_not, beq_iff_eq, beq_eq_false_iff_ne, bne_iff_ne, ne_eq, bne_eq_false_iff_eq, Bool.not_eq_true', Bool.not_eq_false', Int.not_lt, Int.not_le] at h2)
      refine k_op0 (d := 14) (b := 150) (j' := 6) rfl rfl rfl rfl (g_ff rfl rfl rfl g2) (T_fa D (m := 2) rfl rfl rfl rfl rfl rfl) rfl ?_
      refine k_op0 (d := 15) (b := 166) (j' := 7) rfl rfl rfl rfl (g_ff rfl rfl rfl g2) (T_load_bA D (l := [_, _]) rfl rfl rfl rfl rfl rfl rfl) rfl ?_
      refine k_op0 (d := 16) (b := 182) (j' := 8) rfl rfl rfl rfl (g_ff rfl rfl rfl g2) (T_callV (lvs := [_, _, _]) (L := [(1, 2)]) (few_spec b 40 200 (by omega) (fun h j => few_sum hb (n := 40) (by omega) (by omega) j)) body31 rfl rfl rfl rfl (.fz rfl (.nil)) rfl) rfl ?_
      refine k_op0 (d := 17) (b := 198) (j' := 9) rfl rfl rfl rfl (g_ff rfl rfl rfl g2) (T_not rfl rfl) rfl ?_
      refine k_op0 (d := 18) (b := 214) (j' := 10) rfl rfl rfl rfl (.plain rfl) (T_pick_f rfl rfl rfl g2) rfl ?_
      refine k_op0 (d := 19) (b := 230) (j' := 11) rfl rfl rfl rfl (.plain rfl) (T_move rfl rfl) rfl ?_
      refine k_split (d := 19) rfl (fun g4 => ?_) (fun g4 => ?_)
      · have h4 := g4; (try simp only [cmpB, decide_eq_true_eq, decide_eq_false_iff_not, beq_iff_eq, beq_eq_false_iff_ne, bne_iff_ne, ne_eq, bne_eq_false_iff_eq, Bool.not_eq_true', Bool.not_eq_false', Int.not_lt, Int.not_le] at h4)
        refine k_no (d := 20) (j' := 12) rfl rfl rfl (g_ft rfl rfl rfl g4) ?_
        refine k_no (d := 21) (j' := 13) rfl rfl rfl (g_ft rfl rfl rfl g4) ?_
        refine k_no (d := 22) (j' := 14) rfl rfl rfl (g_ft rfl rfl rfl g4) ?_
        refine k_no (d := 23) (j' := 15) rfl rfl rfl (g_ft rfl rfl rfl g4) ?_
        refine k_op0 (d := 24) (b := 310) (j' := 16) rfl rfl rfl rfl (.plain rfl) (T_pick_t rfl rfl rfl g4) rfl ?_
        refine k_op0 (d := 25) (b := 326) (j' := 17) rfl rfl rfl rfl (.plain rfl) (T_move rfl rfl) rfl ?_
        refine k_no (d := 26) (j' := 18) rfl rfl rfl (g_ft rfl rfl rfl rfl) ?_
        refine k_no (d := 27) (j' := 19) rfl rfl rfl (g_ft rfl rfl rfl rfl) ?_
        refine k_no (d := 28) (j' := 20) rfl rfl rfl (g_ft rfl rfl rfl rfl) ?_
        refine k_no (d := 29) (j' := 21) rfl rfl rfl (g_ft rfl rfl rfl rfl) ?_
        refine k_op0 (d := 30) (b := 406) (j' := 22) rfl rfl rfl rfl (.plain rfl) (T_pick_t rfl rfl rfl rfl) rfl ?_
        refine k_op0 (d := 31) (b := 422) (j' := 23) rfl rfl rfl rfl (.plain rfl) (T_move rfl rfl) rfl ?_
        refine k_no (d := 32) (j' := 24) rfl rfl rfl (g_ft rfl rfl rfl rfl) ?_
        refine k_no (d := 33) (j' := 25) rfl rfl rfl (g_ft rfl rfl rfl rfl) ?_
        refine k_no (d := 34) (j' := 26) rfl rfl rfl (g_ft rfl rfl rfl rfl) ?_
        refine k_no (d := 35) (j' := 27) rfl rfl rfl (g_ft rfl rfl rfl rfl) ?_
        refine k_op0 (d := 36) (b := 502) (j' := 28) rfl rfl rfl rfl (.plain rfl) (T_pick_t rfl rfl rfl rfl) rfl ?_
        refine k_op0 (d := 37) (b := 518) (j' := 29) rfl rfl rfl rfl (.plain rfl) (T_move rfl rfl) rfl ?_
        refine k_no (d := 38) (j' := 30) rfl rfl rfl (g_ft rfl rfl rfl rfl) ?_
        refine k_no (d := 39) (j' := 31) rfl rfl rfl (g_ft rfl rfl rfl rfl) ?_
        refine k_no (d := 40) (j' := 32) rfl rfl rfl (g_ft rfl rfl rfl rfl) ?_
        refine k_no (d := 41) (j' := 33) rfl rfl rfl (g_ft rfl rfl rfl rfl) ?_
        refine k_no (d := 42) (j' := 34) rfl rfl rfl (g_ft rfl rfl rfl rfl) ?_
        refine k_no (d := 43) (j' := 35) rfl rfl rfl (g_ft rfl rfl rfl rfl) ?_
        refine k_no (d := 44) (j' := 36) rfl rfl rfl (g_ft rfl rfl rfl rfl) ?_
        refine k_no (d := 45) (j' := 37) rfl rfl rfl (g_ft rfl rfl rfl rfl) ?_
        refine k_op0 (d := 46) (b := 662) (j' := 38) rfl rfl rfl rfl (.plain rfl) (T_pick_t rfl rfl rfl rfl) rfl ?_
        refine k_op0 (d := 47) (b := 678) (j' := 39) rfl rfl rfl rfl (.plain rfl) (T_move rfl rfl) rfl ?_
        refine k_no (d := 48) (j' := 40) rfl rfl rfl (g_ft rfl rfl rfl rfl) ?_
        refine k_no (d := 49) (j' := 41) rfl rfl rfl (g_ft rfl rfl rfl rfl) ?_
        refine k_no (d := 50) (j' := 42) rfl rfl rfl (g_ft rfl rfl rfl rfl) ?_
        refine k_no (d := 51) (j' := 43) rfl rfl rfl (g_ft rfl rfl rfl rfl) ?_
        refine k_no (d := 52) (j' := 44) rfl rfl rfl (g_ft rfl rfl rfl rfl) ?_
        refine k_no (d := 53) (j' := 45) rfl rfl rfl (g_ft rfl rfl rfl rfl) ?_
        refine k_no (d := 54) (j' := 46) rfl rfl rfl (g_ft rfl rfl rfl rfl) ?_
        refine k_no (d := 55) (j' := 47) rfl rfl rfl (g_ft rfl rfl rfl rfl) ?_
        refine k_op0 (d := 56) (b := 822) (j' := 48) rfl rfl rfl rfl (.plain rfl) (T_pick_t rfl rfl rfl rfl) rfl ?_
        refine k_done rfl ?_
        refine thenK_n ?_
        refine W_cond rfl (fun g5 => ?_) (fun g5 => ?_)
        · skip
          refine W_seq ?_
          refine W_seqK (b' := 854) rfl rfl ?_
          refine k_op0 (d := 2) (b := 838) (j' := 1) rfl rfl rfl rfl (.plain rfl) (T_assign rfl rfl) rfl ?_
          refine k_done rfl ?_
          refine thenK_n ?_
          refine W_ret ?_
          refine thenK_r ?_
          -- end 2
          exact .mk [] (.inr rfl) (.tmp rfl (.nil)) (by first | rfl | exact absurd g1 (by decide) | (exfalso; have k := hk (by omega); omega) | (simp only [resLV, LV.ren, LV.v.injEq, Value.bool.injEq]; have e : j = q.length := (by omega); rw [e, List.take_of_length_le (Nat.le_refl _)]; exact (tcheck_iff _ _ _).2 (joined_holds hAB hBC)) | simp [resLV, LV.ren]) (.nil) rfl
        · exact absurd (g5.symm.trans rfl) (by decide)
      · have h4 := g4; (try simp only [cmpB, decide_eq_true_eq, decide_eq_false_iff_not, beq_iff_eq, beq_eq_false_iff_ne, bne_iff_ne, ne_eq, bne_eq_false_iff_eq, Bool.not_eq_true', Bool.not_eq_false', Int.not_lt, Int.not_le] at h4)
        refine k_op0 (d := 20) (b := 246) (j' := 12) rfl rfl rfl rfl (g_ff rfl rfl rfl g4) (T_fa D (m := 4) rfl rfl rfl rfl rfl rfl) rfl ?_
        refine k_op0 (d := 21) (b := 262) (j' := 13) rfl rfl rfl rfl (g_ff rfl rfl rfl g4) (T_load_bA D (l := [_, _]) rfl rfl rfl rfl rfl rfl rfl) rfl ?_
        refine k_op0 (d := 22) (b := 278) (j' := 14) rfl rfl rfl rfl (g_ff rfl rfl rfl g4) (T_callV (lvs := [_, _, _]) (L := [(1, 3)]) (few_spec c 40 400 (by omega) (fun h j => few_sum hc (n := 40) (by omega) (by omega) j)) body31 rfl rfl rfl rfl (.fz rfl (.nil)) rfl) rfl ?_
        refine k_op0 (d := 23) (b := 294) (j' := 15) rfl rfl rfl rfl (g_ff rfl rfl rfl g4) (T_not rfl rfl) rfl ?_
        refine k_op0 (d := 24) (b := 310) (j' := 16) rfl rfl rfl rfl (.plain rfl) (T_pick_f rfl rfl rfl g4) rfl ?_
        refine k_op0 (d := 25) (b := 326) (j' := 17) rfl rfl rfl rfl (.plain rfl) (T_move rfl rfl) rfl ?_
        refine k_split (d := 25) rfl (fun g6 => ?_) (fun g6 => ?_)
        · have h6 := g6; (try simp only [cmpB, decide_eq_true_eq, decide_eq_false_iff_not, beq_iff_eq, beq_eq_false_iff_ne, bne_iff_ne, ne_eq, bne_eq_false_iff_eq, Bool.not_eq_true', Bool.not_eq_false', Int.not_lt, Int.not_le] at h6)
          refine k_no (d := 26) (j' := 18) rfl rfl rfl (g_ft rfl rfl rfl g6) ?_
          refine k_no (d := 27) (j' := 19) rfl rfl rfl (g_ft rfl rfl rfl g6) ?_
          refine k_no (d := 28) (j' := 20) rfl rfl rfl (g_ft rfl rfl rfl g6) ?_
          refine k_no (d := 29) (j' := 21) rfl rfl rfl (g_ft rfl rfl rfl g6) ?_
          refine k_op0 (d := 30) (b := 406) (j' := 22) rfl rfl rfl rfl (.plain rfl) (T_pick_t rfl rfl rfl g6) rfl ?_
          refine k_op0 (d := 31) (b := 422) (j' := 23) rfl rfl rfl rfl (.plain rfl) (T_move rfl rfl) rfl ?_
          refine k_no (d := 32) (j' := 24) rfl rfl rfl (g_ft rfl rfl rfl rfl) ?_
          refine k_no (d := 33) (j' := 25) rfl rfl rfl (g_ft rfl rfl rfl rfl) ?_
          refine k_no (d := 34) (j' := 26) rfl rfl rfl (g_ft rfl rfl rfl rfl) ?_
          refine k_no (d := 35) (j' := 27) rfl rfl rfl (g_ft rfl rfl rfl rfl) ?_
          refine k_op0 (d := 36) (b := 502) (j' := 28) rfl rfl rfl rfl (.plain rfl) (T_pick_t rfl rfl rfl rfl) rfl ?_
          refine k_op0 (d := 37) (b := 518) (j' := 29) rfl rfl rfl rfl (.plain rfl) (T_move rfl rfl) rfl ?_
          refine k_no (d := 38) (j' := 30) rfl rfl rfl (g_ft rfl rfl rfl rfl) ?_
          refine k_no (d := 39) (j' := 31) rfl rfl rfl (g_ft rfl rfl rfl rfl) ?_
          refine k_no (d := 40) (j' := 32) rfl rfl rfl (g_ft rfl rfl rfl rfl) ?_
          refine k_no (d := 41) (j' := 33) rfl rfl rfl (g_ft rfl rfl rfl rfl) ?_
          refine k_no (d := 42) (j' := 34) rfl rfl rfl (g_ft rfl rfl rfl rfl) ?_
          refine k_no (d := 43) (j' := 35) rfl rfl rfl (g_ft rfl rfl rfl rfl) ?_
          refine k_no (d := 44) (j' := 36) rfl rfl rfl (g_ft rfl rfl rfl rfl) ?_
          refine k_no (d := 45) (j' := 37) rfl rfl rfl (g_ft rfl rfl rfl rfl) ?_
          refine k_op0 (d := 46) (b := 662) (j' := 38) rfl rfl rfl rfl (.plain rfl) (T_pick_t rfl rfl rfl rfl) rfl ?_
          refine k_op0 (d := 47) (b := 678) (j' := 39) rfl rfl rfl rfl (.plain rfl) (T_move rfl rfl) rfl ?_
          refine k_no (d := 48) (j' := 40) rfl rfl rfl (g_ft rfl rfl rfl rfl) ?_
          refine k_no (d := 49) (j' := 41) rfl rfl rfl (g_ft rfl rfl rfl rfl) ?_
          refine k_no (d := 50) (j' := 42) rfl rfl rfl (g_ft rfl rfl rfl rfl) ?_
          refine k_no (d := 51) (j' := 43) rfl rfl rfl (g_ft rfl rfl rfl rfl) ?_
          refine k_no (d := 52) (j' := 44) rfl rfl rfl (g_ft rfl rfl rfl rfl) ?_
          refine k_no (d := 53) (j' := 45) rfl rfl rfl (g_ft rfl rfl rfl rfl) ?_
          refine k_no (d := 54) (j' := 46) rfl rfl rfl (g_ft rfl rfl rfl rfl) ?_
          refine k_no (d := 55) (j' := 47) rfl rfl rfl (g_ft rfl rfl rfl rfl) ?_
          refine k_op0 (d := 56) (b := 822) (j' := 48) rfl rfl rfl rfl (.plain rfl) (T_pick_t rfl rfl rfl rfl) rfl ?_
          refine k_done rfl ?_
          refine thenK_n ?_
          refine W_cond rfl (fun g7 => ?_) (fun g7 => ?_)
          · skip
            refine W_seq ?_
            refine W_seqK (b' := 854) rfl rfl ?_
            refine k_op0 (d := 2) (b := 838) (j' := 1) rfl rfl rfl rfl (.plain rfl) (T_assign rfl rfl) rfl ?_
            refine k_done rfl ?_
            refine thenK_n ?_
            refine W_ret ?_
            refine thenK_r ?_
            -- end 3
            exact .mk [] (.inr rfl) (.tmp rfl (.nil)) (by first | rfl | exact absurd g1 (by decide) | (exfalso; have k := hk (by omega); omega) | (simp only [resLV, LV.ren, LV.v.injEq, Value.bool.injEq]; have e : j = q.length := (by omega); rw [e, List.take_of_length_le (Nat.le_refl _)]; exact (tcheck_iff _ _ _).2 (joined_holds hAB hBC)) | simp [resLV, LV.ren]) (.nil) rfl
          · exact absurd (g7.symm.trans rfl) (by decide)
        · have h6 := g6; (try simp only [cmpB, decide_eq_true_eq, decide_eq_false_iff_not, beq_iff_eq, beq_eq_false_iff_ne, bne_iff_ne, ne_eq, bne_eq_false_iff_eq, Bool.not_eq_true', Bool.not_eq_false', Int.not_lt, Int.not_le] at h6)
          refine k_op0 (d := 26) (b := 342) (j' := 18) rfl rfl rfl rfl (g_ff rfl rfl rfl g6) (T_fa D (m := 6) rfl rfl rfl rfl rfl rfl) rfl ?_
          refine k_op0 (d := 27) (b := 358) (j' := 19) rfl rfl rfl rfl (g_ff rfl rfl rfl g6) (T_load_b D rfl rfl rfl rfl rfl rfl) rfl ?_
          refine k_op0 (d := 28) (b := 374) (j' := 20) rfl rfl rfl rfl (g_ff rfl rfl rfl g6) (T_callV (lvs := [_, _, _]) (L := [(1, 4)]) (small_spec p 40 200 (by omega) (by omega) (fun l h => by have := hp.2 l h; omega)) body32 rfl rfl rfl rfl (.fz rfl (.nil)) rfl) rfl ?_
          refine k_op0 (d := 29) (b := 390) (j' := 21) rfl rfl rfl rfl (g_ff rfl rfl rfl g6) (T_not rfl rfl) rfl ?_
          refine k_op0 (d := 30) (b := 406) (j' := 22) rfl rfl rfl rfl (.plain rfl) (T_pick_f rfl rfl rfl g6) rfl ?_
          refine k_op0 (d := 31) (b := 422) (j' := 23) rfl rfl rfl rfl (.plain rfl) (T_move rfl rfl) rfl ?_
          refine k_split (d := 31) rfl (fun g8 => ?_) (fun g8 => ?_)
          · have h8 := g8; (try simp only [cmpB, decide_eq_true_eq, decide_eq_false_iff_not, beq_iff_eq, beq_eq_false_iff_ne, bne_iff_ne, ne_eq, bne_eq_false_iff_eq, Bool.not_eq_true', Bool.not_eq_false', Int.not_lt, Int.not_le] at h8)
            refine k_no (d := 32) (j' := 24) rfl rfl rfl (g_ft rfl rfl rfl g8) ?_
            refine k_no (d := 33) (j' := 25) rfl rfl rfl (g_ft rfl rfl rfl g8) ?_
            refine k_no (d := 34) (j' := 26) rfl rfl rfl (g_ft rfl rfl rfl g8) ?_
            refine k_no (d := 35) (j' := 27) rfl rfl rfl (g_ft rfl rfl rfl g8) ?_
            refine k_op0 (d := 36) (b := 502) (j' := 28) rfl rfl rfl rfl (.plain rfl) (T_pick_t rfl rfl rfl g8) rfl ?_
            refine k_op0 (d := 37) (b := 518) (j' := 29) rfl rfl rfl rfl (.plain rfl) (T_move rfl rfl) rfl ?_
            refine k_no (d := 38) (j' := 30) rfl rfl rfl (g_ft rfl rfl rfl rfl) ?_
            refine k_no (d := 39) (j' := 31) rfl rfl rfl (g_ft rfl rfl rfl rfl) ?_
            refine k_no (d := 40) (j' := 32) rfl rfl rfl (g_ft rfl rfl rfl rfl) ?_
            refine k_no (d := 41) (j' := 33) rfl rfl rfl (g_ft rfl rfl rfl rfl) ?_
            refine k_no (d := 42) (j' := 34) rfl rfl rfl (g_ft rfl rfl rfl rfl) ?_
            refine k_no (d := 43) (j' := 35) rfl rfl rfl (g_ft rfl rfl rfl rfl) ?_
            refine k_no (d := 44) (j' := 36) rfl rfl rfl (g_ft rfl rfl rfl rfl) ?_
            refine k_no (d := 45) (j' := 37) rfl rfl rfl (g_ft rfl rfl rfl rfl) ?_
            refine k_op0 (d := 46) (b := 662) (j' := 38) rfl rfl rfl rfl (.plain rfl) (T_pick_t rfl rfl rfl rfl) rfl ?_
            refine k_op0 (d := 47) (b := 678) (j' := 39) rfl rfl rfl rfl (.plain rfl) (T_move rfl rfl) rfl ?_
            refine k_no (d := 48) (j' := 40) rfl rfl rfl (g_ft rfl rfl rfl rfl) ?_
            refine k_no (d := 49) (j' := 41) rfl rfl rfl (g_ft rfl rfl rfl rfl) ?_
            refine k_no (d := 50) (j' := 42) rfl rfl rfl (g_ft rfl rfl rfl rfl) ?_
            refine k_no (d := 51) (j' := 43) rfl rfl rfl (g_ft rfl rfl rfl rfl) ?_
            refine k_no (d := 52) (j' := 44) rfl rfl rfl (g_ft rfl rfl rfl rfl) ?_
            refine k_no (d := 53) (j' := 45) rfl rfl rfl (g_ft rfl rfl rfl rfl) ?_
            refine k_no (d := 54) (j' := 46) rfl rfl rfl (g_ft rfl rfl rfl rfl) ?_
            refine k_no (d := 55) (j' := 47) rfl rfl rfl (g_ft rfl rfl rfl rfl) ?_
            refine k_op0 (d := 56) (b := 822) (j' := 48) rfl rfl rfl rfl (.plain rfl) (T_pick_t rfl rfl rfl rfl) rfl ?_
            refine k_done rfl ?_
            refine thenK_n ?_
            refine W_cond rfl (fun g9 => ?_) (fun g9 => ?_)
            · skip
              refine W_seq ?_
              refine W_seqK (b' := 854) rfl rfl ?_
              refine k_op0 (d := 2) (b := 838) (j' := 1) rfl rfl rfl rfl (.plain rfl) (T_assign rfl rfl) rfl ?_
              refine k_done rfl ?_
              refine thenK_n ?_
              refine W_ret ?_
              refine thenK_r ?_
              -- end 4
              exact .mk [] (.inr rfl) (.tmp rfl (.nil)) (by first | rfl | exact absurd g1 (by decide) | (exfalso; have k := hk (by omega); omega) | (simp only [resLV, LV.ren, LV.v.injEq, Value.bool.injEq]; have e : j = q.length := (by omega); rw [e, List.take_of_length_le (Nat.le_refl _)]; exact (tcheck_iff _ _ _).2 (joined_holds hAB hBC)) | simp [resLV, LV.ren]) (.nil) rfl
            · exact absurd (g9.symm.trans rfl) (by decide)
          · have h8 := g8; (try simp only [cmpB, decide_eq_true_eq, decide_eq_false_iff_not, beq_iff_eq, beq_eq_false_iff_ne, bne_iff_ne, ne_eq, bne_eq_false_iff_eq, Bool.not_eq_true', Bool.not_eq_false', Int.not_lt, Int.not_le] at h8)
            refine k_op0 (d := 32) (b := 438) (j' := 24) rfl rfl rfl rfl (g_ff rfl rfl rfl g8) (T_fa D (m := 7) rfl rfl rfl rfl rfl rfl) rfl ?_
            refine k_op0 (d := 33) (b := 454) (j' := 25) rfl rfl rfl rfl (g_ff rfl rfl rfl g8) (T_load_b D rfl rfl rfl rfl rfl rfl) rfl ?_
            refine k_op0 (d := 34) (b := 470) (j' := 26) rfl rfl rfl rfl (g_ff rfl rfl rfl g8) (T_callV (lvs := [_, _, _]) (L := [(1, 5)]) (small_spec q 40 200 (by omega) (by omega) (fun l h => by have := hq.2 l h; omega)) body32 rfl rfl rfl rfl (.fz rfl (.nil)) rfl) rfl ?_
            refine k_op0 (d := 35) (b := 486) (j' := 27) rfl rfl rfl rfl (g_ff rfl rfl rfl g8) (T_not rfl rfl) rfl ?_
            refine k_op0 (d := 36) (b := 502) (j' := 28) rfl rfl rfl rfl (.plain rfl) (T_pick_f rfl rfl rfl g8) rfl ?_
            refine k_op0 (d := 37) (b := 518) (j' := 29) rfl rfl rfl rfl (.plain rfl) (T_move rfl rfl) rfl ?_
            refine k_split (d := 37) rfl (fun g10 => ?_) (fun g10 => ?_)
            · have h10 := g10; (try simp only [cmpB, decide_eq_true_eq, decide_eq_false_iff_not, beq_iff_eq, beq_eq_false_iff_ne, bne_iff_ne, ne_eq, bne_eq_false_iff_eq, Bool.not_eq_true', Bool.not_eq_false', Int.not_lt, Int.not_le] at h10)
              refine k_no (d := 38) (j' := 30) rfl rfl rfl (g_ft rfl rfl rfl g10) ?_
              refine k_no (d := 39) (j' := 31) rfl rfl rfl (g_ft rfl rfl rfl g10) ?_
              refine k_no (d := 40) (j' := 32) rfl rfl rfl (g_ft rfl rfl rfl g10) ?_
              refine k_no (d := 41) (j' := 33) rfl rfl rfl (g_ft rfl rfl rfl g10) ?_
              refine k_no (d := 42) (j' := 34) rfl rfl rfl (g_ft rfl rfl rfl g10) ?_
              refine k_no (d := 43) (j' := 35) rfl rfl rfl (g_ft rfl rfl rfl g10) ?_
              refine k_no (d := 44) (j' := 36) rfl rfl rfl (g_ft rfl rfl rfl g10) ?_
              refine k_no (d := 45) (j' := 37) rfl rfl rfl (g_ft rfl rfl rfl g10) ?_
              refine k_op0 (d := 46) (b := 662) (j' := 38) rfl rfl rfl rfl (.plain rfl) (T_pick_t rfl rfl rfl g10) rfl ?_
              refine k_op0 (d := 47) (b := 678) (j' := 39) rfl rfl rfl rfl (.plain rfl) (T_move rfl rfl) rfl ?_
              refine k_no (d := 48) (j' := 40) rfl rfl rfl (g_ft rfl rfl rfl rfl) ?_
              refine k_no (d := 49) (j' := 41) rfl rfl rfl (g_ft rfl rfl rfl rfl) ?_
              refine k_no (d := 50) (j' := 42) rfl rfl rfl (g_ft rfl rfl rfl rfl) ?_
              refine k_no (d := 51) (j' := 43) rfl rfl rfl (g_ft rfl rfl rfl rfl) ?_
              refine k_no (d := 52) (j' := 44) rfl rfl rfl (g_ft rfl rfl rfl rfl) ?_
              refine k_no (d := 53) (j' := 45) rfl rfl rfl (g_ft rfl rfl rfl rfl) ?_
              refine k_no (d := 54) (j' := 46) rfl rfl rfl (g_ft rfl rfl rfl rfl) ?_
              refine k_no (d := 55) (j' := 47) rfl rfl rfl (g_ft rfl rfl rfl rfl) ?_
              refine k_op0 (d := 56) (b := 822) (j' := 48) rfl rfl rfl rfl (.plain rfl) (T_pick_t rfl rfl rfl rfl) rfl ?_
              refine k_done rfl ?_
              refine thenK_n ?_
              refine W_cond rfl (fun g11 => ?_) (fun g11 => ?_)
              · skip
                refine W_seq ?_
                refine W_seqK (b' := 854) rfl rfl ?_
                refine k_op0 (d := 2) (b := 838) (j' := 1) rfl rfl rfl rfl (.plain rfl) (T_assign rfl rfl) rfl ?_
                refine k_done rfl ?_
                refine thenK_n ?_
                refine W_ret ?_
                refine thenK_r ?_
                -- end 5
                exact .mk [] (.inr rfl) (.tmp rfl (.nil)) (by first | rfl | exact absurd g1 (by decide) | (exfalso; have k := hk (by omega); omega) | (simp only [resLV, LV.ren, LV.v.injEq, Value.bool.injEq]; have e : j = q.length := (by omega); rw [e, List.take_of_length_le (Nat.le_refl _)]; exact (tcheck_iff _ _ _).2 (joined_holds hAB hBC)) | simp [resLV, LV.ren]) (.nil) rfl
              · exact absurd (g11.symm.trans rfl) (by decide)
            · have h10 := g10; (try simp only [cmpB, decide_eq_true_eq, decide_eq_false_iff_not, beq_iff_eq, beq_eq_false_iff_ne, bne_iff_ne, ne_eq, bne_eq_false_iff_eq, Bool.not_eq_true', Bool.not_eq_false', Int.not_lt, Int.not_le] at h10)
              refine k_op0 (d := 38) (b := 534) (j' := 30) rfl rfl rfl rfl (g_ff rfl rfl rfl g10) (T_fa D (m := 0) rfl rfl rfl rfl rfl rfl) rfl ?_
              refine k_op0 (d := 39) (b := 550) (j' := 31) rfl rfl rfl rfl (g_ff rfl rfl rfl g10) (T_load_bA D (l := [_, _]) rfl rfl rfl rfl rfl rfl rfl) rfl ?_
              refine k_op0 (d := 40) (b := 566) (j' := 32) rfl rfl rfl rfl (g_ff rfl rfl rfl g10) (T_fa D (m := 2) rfl rfl rfl rfl rfl rfl) rfl ?_
              refine k_op0 (d := 41) (b := 582) (j' := 33) rfl rfl rfl rfl (g_ff rfl rfl rfl g10) (T_load_bA D (l := [_, _]) rfl rfl rfl rfl rfl rfl rfl) rfl ?_
              refine k_op0 (d := 42) (b := 598) (j' := 34) rfl rfl rfl rfl (g_ff rfl rfl rfl g10) (T_fa D (m := 6) rfl rfl rfl rfl rfl rfl) rfl ?_
              refine k_op0 (d := 43) (b := 614) (j' := 35) rfl rfl rfl rfl (g_ff rfl rfl rfl g10) (T_load_b D rfl rfl rfl rfl rfl rfl) rfl ?_
              refine k_op0 (d := 44) (b := 630) (j' := 36) rfl rfl rfl rfl (g_ff rfl rfl rfl g10) (T_callV (lvs := [_, _, _]) (L := [(1, 1), (2, 2), (3, 4)]) (tcheck_ok (f := a) (g := b) (ps := p) (chkOk (by assumption) (by assumption) (by assumption) (by omega) (by omega) (by omega) (by omega))) body30 rfl rfl rfl rfl (.fz rfl (.fz rfl (.fz rfl (.nil)))) rfl) rfl ?_
              refine k_op0 (d := 45) (b := 646) (j' := 37) rfl rfl rfl rfl (g_ff rfl rfl rfl g10) (T_not rfl rfl) rfl ?_
              refine k_op0 (d := 46) (b := 662) (j' := 38) rfl rfl rfl rfl (.plain rfl) (T_pick_f rfl rfl rfl g10) rfl ?_
              refine k_op0 (d := 47) (b := 678) (j' := 39) rfl rfl rfl rfl (.plain rfl) (T_move rfl rfl) rfl ?_
              refine k_split (d := 47) rfl (fun g12 => ?_) (fun g12 => ?_)
              · have h12 := g12; (try simp only [cmpB, decide_eq_true_eq, decide_eq_false_iff_not, beq_iff_eq, beq_eq_false_iff_ne, bne_iff_ne, ne_eq, bne_eq_false_iff_eq, Bool.not_eq_true', Bool.not_eq_false', Int.not_lt, Int.not_le] at h12)
                refine k_no (d := 48) (j' := 40) rfl rfl rfl (g_ft rfl rfl rfl g12) ?_
                refine k_no (d := 49) (j' := 41) rfl rfl rfl (g_ft rfl rfl rfl g12) ?_
                refine k_no (d := 50) (j' := 42) rfl rfl rfl (g_ft rfl rfl rfl g12) ?_
                refine k_no (d := 51) (j' := 43) rfl rfl rfl (g_ft rfl rfl rfl g12) ?_
                refine k_no (d := 52) (j' := 44) rfl rfl rfl (g_ft rfl rfl rfl g12) ?_
                refine k_no (d := 53) (j' := 45) rfl rfl rfl (g_ft rfl rfl rfl g12) ?_
                refine k_no (d := 54) (j' := 46) rfl rfl rfl (g_ft rfl rfl rfl g12) ?_
                refine k_no (d := 55) (j' := 47) rfl rfl rfl (g_ft rfl rfl rfl g12) ?_
                refine k_op0 (d := 56) (b := 822) (j' := 48) rfl rfl rfl rfl (.plain rfl) (T_pick_t rfl rfl rfl g12) rfl ?_
                refine k_done rfl ?_
                refine thenK_n ?_
                refine W_cond rfl (fun g13 => ?_) (fun g13 => ?_)
                · skip
                  refine W_seq ?_
                  refine W_seqK (b' := 854) rfl rfl ?_
                  refine k_op0 (d := 2) (b := 838) (j' := 1) rfl rfl rfl rfl (.plain rfl) (T_assign rfl rfl) rfl ?_
                  refine k_done rfl ?_
                  refine thenK_n ?_
                  refine W_ret ?_
                  refine thenK_r ?_
                  -- end 6
                  exact .mk [] (.inr rfl) (.tmp rfl (.nil)) (by first | rfl | exact absurd g1 (by decide) | (exfalso; have k := hk (by omega); omega) | (simp only [resLV, LV.ren, LV.v.injEq, Value.bool.injEq]; have e : j = q.length := (by omega); rw [e, List.take_of_length_le (Nat.le_refl _)]; exact (tcheck_iff _ _ _).2 (joined_holds hAB hBC)) | simp [resLV, LV.ren]) (.nil) rfl
                · exact absurd (g13.symm.trans rfl) (by decide)
              · have h12 := g12; (try simp only [cmpB, decide_eq_true_eq, decide_eq_false_iff_not, beq_iff_eq, beq_eq_false_iff_ne, bne_iff_ne, ne_eq, bne_eq_false_iff_eq, Bool.not_eq_true', Bool.not_eq_false', Int.not_lt, Int.not_le] at h12)
                refine k_op0 (d := 48) (b := 694) (j' := 40) rfl rfl rfl rfl (g_ff rfl rfl rfl g12) (T_fa D (m := 2) rfl rfl rfl rfl rfl rfl) rfl ?_
                refine k_op0 (d := 49) (b := 710) (j' := 41) rfl rfl rfl rfl (g_ff rfl rfl rfl g12) (T_load_bA D (l := [_, _]) rfl rfl rfl rfl rfl rfl rfl) rfl ?_
                refine k_op0 (d := 50) (b := 726) (j' := 42) rfl rfl rfl rfl (g_ff rfl rfl rfl g12) (T_fa D (m := 4) rfl rfl rfl rfl rfl rfl) rfl ?_
                refine k_op0 (d := 51) (b := 742) (j' := 43) rfl rfl rfl rfl (g_ff rfl rfl rfl g12) (T_load_bA D (l := [_, _]) rfl rfl rfl rfl rfl rfl rfl) rfl ?_
                refine k_op0 (d := 52) (b := 758) (j' := 44) rfl rfl rfl rfl (g_ff rfl rfl rfl g12) (T_fa D (m := 7) rfl rfl rfl rfl rfl rfl) rfl ?_
                refine k_op0 (d := 53) (b := 774) (j' := 45) rfl rfl rfl rfl (g_ff rfl rfl rfl g12) (T_load_b D rfl rfl rfl rfl rfl rfl) rfl ?_
                refine k_op0 (d := 54) (b := 790) (j' := 46) rfl rfl rfl rfl (g_ff rfl rfl rfl g12) (T_callV (lvs := [_, _, _]) (L := [(1, 2), (2, 3), (3, 5)]) (tcheck_ok (f := b) (g := c) (ps := q) (chkOk (by assumption) (by assumption) (by assumption) (by omega) (by omega) (by omega) (by omega))) body30 rfl rfl rfl rfl (.fz rfl (.fz rfl (.fz rfl (.nil)))) rfl) rfl ?_
                refine k_op0 (d := 55) (b := 806) (j' := 47) rfl rfl rfl rfl (g_ff rfl rfl rfl g12) (T_not rfl rfl) rfl ?_
                refine k_op0 (d := 56) (b := 822) (j' := 48) rfl rfl rfl rfl (.plain rfl) (T_pick_f rfl rfl rfl g12) rfl ?_
                refine k_done rfl ?_
                refine thenK_n ?_
                refine W_cond rfl (fun g14 => ?_) (fun g14 => ?_)
                · have h14 := g14; (try simp only [cmpB, decide_eq_true_eq, decide_eq_false_iff_not, beq_iff_eq, beq_eq_false_iff_ne, bne_iff_ne, ne_eq, bne_eq_false_iff_eq, Bool.not_eq_true', Bool.not_eq_false', Int.not_lt, Int.not_le] at h14)
                  refine W_seq ?_
                  refine W_seqK (b' := 854) rfl rfl ?_
                  refine k_op0 (d := 2) (b := 838) (j' := 1) rfl rfl rfl rfl (.plain rfl) (T_assign rfl rfl) rfl ?_
                  refine k_done rfl ?_
                  refine thenK_n ?_
                  refine W_ret ?_
                  refine thenK_r ?_
                  -- end 7
                  exact .mk [] (.inr rfl) (.tmp rfl (.nil)) (by first | rfl | exact absurd g1 (by decide) | (exfalso; have k := hk (by omega); omega) | (simp only [resLV, LV.ren, LV.v.injEq, Value.bool.injEq]; have e : j = q.length := (by omega); rw [e, List.take_of_length_le (Nat.le_refl _)]; exact (tcheck_iff _ _ _).2 (joined_holds hAB hBC)) | simp [resLV, LV.ren]) (.nil) rfl
                · have h14 := g14; (try simp only [cmpB, decide_eq_true_eq, decide_eq_false_iff_not, beq_iff_eq, beq_eq_false_iff_ne, bne_iff_ne, ne_eq, bne_eq_false_iff_eq, Bool.not_eq_true', Bool.not_eq_false', Int.not_lt, Int.not_le] at h14)
                  refine W_skip ?_
                  refine thenK_n ?_
                  refine W_seq ?_
                  refine W_seqK (b' := 854) rfl rfl ?_
                  refine k_op1 (d := 3) (b := 838) (j' := 1) rfl rfl rfl rfl (.plain rfl) (T_nils [(52, 1)] (T_assign rfl rfl) rfl (.inr ⟨rfl, rfl⟩) (.cons (.nil rfl) .nil) (lv' := .r 838) (upd' := [(838, .row 52 1 (List.map eIs ([] : List (List Int))))]) (nn' := 1) rfl rfl) rfl ?_
                  refine k_done rfl ?_
                  refine thenK_n ?_
                  refine W_seq ?_
                  refine W_seq ?_
                  refine W_seqK (b' := 870) rfl rfl ?_
                  refine k_op0 (d := 4) (b := 854) (j' := 1) rfl rfl rfl rfl (.plain rfl) (T_assign rfl rfl) rfl ?_
                  refine k_done rfl ?_
                  refine thenK_n ?_
                  refine W_block ?_
                  have hAB : Holds a b p := (tcheck_iff _ _ _).1 (by assumption)
                  have hBC : Holds b c q := (tcheck_iff _ _ _).1 (by assumption)
                  have hp2 := (smallP_iff (ps := p) (x := 40) (y := 200) (by assumption)).2
                  have hq2 := smallP_iff (ps := q) (x := 40) (y := 200) (by assumption)
                  have hplen := hAB.len
                  have hin : ∀ j, j < q.length → ∀ i, i < (q.getD j default).length → 0 ≤ (q.getD j default).getD i default ∧ (q.getD j default).getD i default < (p.length : Int) := fun j hj i hi => by have := (hBC.inn _ (getD_mem hj)).2 _ (getD_mem hi); omega
                  refine W_loop (ι := Nat) 8 (fun j => ⟨[(1, .p 6 0), (3, .r 7), (4, .v (.int .i64 (j : Int)))], [(1, .fz 5 (a.blocks.map eBlock)), (2, .fz 5 (b.blocks.map eBlock)), (3, .fz 5 (c.blocks.map eBlock)), (4, .fz 1 (p.map eIs)), (5, .fz 1 (q.map eIs)), (6, .box 78 [.v (.int .i64 a.regs), .r 1, .v (.int .i64 b.regs), .r 2, .v (.int .i64 c.regs), .r 3, .r 4, .r 5]), (7, .row 52 1 (((q.take j).map (joinP p)).map eIs))]⟩) (fun j => j ≤ q.length) (fun j => q.length - j) (0) (by exact Nat.zero_le _) ?_ (fun j hJ => ?_)
                  · exact ⟨[(6, 6), (7, 838)], .same rfl rfl (.same rfl rfl (.eq rfl (.nil) (by first | rfl | simp))), .fzE rfl (.fzE rfl (.fzE rfl (.fzE rfl (.fzE rfl (.box (by first | rfl | simp) (.rowE rfl (.nil) (by first | rfl | simp))) (by first | rfl | simp)) (by first | rfl | simp)) (by first | rfl | simp)) (by first | rfl | simp)) (by first | rfl | simp), rfl⟩
                  refine W_seq ?_
                  refine W_seq ?_
                  refine W_seqK (b' := 88) rfl rfl ?_
                  refine k_op0 (d := 57) (b := 8) (j' := 1) rfl rfl rfl rfl (.plain rfl) (T_move rfl rfl) rfl ?_
                  refine k_op0 (d := 58) (b := 24) (j' := 2) rfl rfl rfl rfl (.plain rfl) (T_fa D (m := 7) rfl rfl rfl rfl rfl rfl) rfl ?_
                  refine k_op0 (d := 59) (b := 40) (j' := 3) rfl rfl rfl rfl (.plain rfl) (T_load_b D rfl rfl rfl rfl rfl rfl) rfl ?_
                  refine k_op0 (d := 60) (b := 56) (j' := 4) rfl rfl rfl rfl (.plain rfl) (T_len D rfl rfl rfl rfl rfl rfl) rfl ?_
                  refine k_op0 (d := 61) (b := 72) (j' := 5) rfl rfl rfl rfl (.plain rfl) (T_cmp rfl rfl rfl rfl) rfl ?_
                  refine k_done rfl ?_
                  refine thenK_n ?_
                  refine W_cond rfl (fun g15 => ?_) (fun g15 => ?_)
                  · have h15 := g15; (try simp only [cmpB, decide_eq_true_eq, decide_eq_false_iff_not, beq_iff_eq, beq_eq_false_iff_ne, bne_iff_ne, ne_eq, bne_eq_false_iff_eq, Bool.not_eq_true', Bool.not_eq_false', Int.not_lt, Int.not_le] at h15)
                    refine W_skip ?_
                    refine thenK_n ?_
                    refine W_seq ?_
                    refine W_block ?_
                    refine W_seq ?_
                    refine W_seqK (b' := 104) rfl rfl ?_
                    refine k_op1 (d := 5) (b := 88) (j' := 1) rfl rfl rfl rfl (.plain rfl) (T_nils [(3, 1)] (T_assign rfl rfl) rfl (.inr ⟨rfl, rfl⟩) (.cons (.nil rfl) .nil) (lv' := .r 88) (upd' := [(88, .row 3 1 (List.map eI ([] : List (Int))))]) (nn' := 1) rfl rfl) rfl ?_
                    refine k_done rfl ?_
                    refine thenK_n ?_
                    refine W_seq ?_
                    refine W_seq ?_
                    refine W_seqK (b' := 120) rfl rfl ?_
                    refine k_op0 (d := 6) (b := 104) (j' := 1) rfl rfl rfl rfl (.plain rfl) (T_assign rfl rfl) rfl ?_
                    refine k_done rfl ?_
                    refine thenK_n ?_
                    refine W_block ?_
                    have hjl := hq2.2 (q.getD j default) (getD_mem (by omega))
                    refine W_loop (ι := Nat) 9 (fun i => ⟨[(1, .p 6 0), (3, .r 7), (4, .v (.int .i64 (j : Int))), (5, .r 8), (6, .v (.int .i64 (i : Int)))], [(1, .fz 5 (a.blocks.map eBlock)), (2, .fz 5 (b.blocks.map eBlock)), (3, .fz 5 (c.blocks.map eBlock)), (4, .fz 1 (p.map eIs)), (5, .fz 1 (q.map eIs)), (6, .box 78 [.v (.int .i64 a.regs), .r 1, .v (.int .i64 b.regs), .r 2, .v (.int .i64 c.regs), .r 3, .r 4, .r 5]), (7, .row 52 1 (((q.take j).map (joinP p)).map eIs)), (8, .row 3 1 ((joinP p ((q.getD j default).take i)).map eI))]⟩) (fun i => i ≤ (q.getD j default).length) (fun i => (q.getD j default).length - i) (0) (by exact Nat.zero_le _) ?_ (fun i hI => ?_)
                    · exact ⟨[(6, 6), (7, 7), (8, 88)], .same rfl rfl (.same rfl rfl (.eq rfl (.same rfl rfl (.eq rfl (.nil) (by first | rfl | simp [joinP]))) (by first | rfl | simp [joinP]))), .fzE rfl (.fzE rfl (.fzE rfl (.fzE rfl (.fzE rfl (.box (by first | rfl | simp [joinP]) (.rowE rfl (.rowE rfl (.nil) (by first | rfl | simp [joinP])) (by first | rfl | simp [joinP]))) (by first | rfl | simp [joinP])) (by first | rfl | simp [joinP])) (by first | rfl | simp [joinP])) (by first | rfl | simp [joinP])) (by first | rfl | simp [joinP]), rfl⟩
                    have hk := hin j (by omega) i
                    have hjs := joinP_small hp2 hjl i
                    have hpk := fun h => hp2 (p.getD ((q.getD j default).getD i default).toNat default) (getD_mem h)
                    refine W_seq ?_
                    refine W_seq ?_
                    refine W_seqK (b' := 137) rfl rfl ?_
                    refine k_op0 (d := 64) (b := 9) (j' := 1) rfl rfl rfl rfl (.plain rfl) (T_move rfl rfl) rfl ?_
                    refine k_op0 (d := 65) (b := 25) (j' := 2) rfl rfl rfl rfl (.plain rfl) (T_fa D (m := 7) rfl rfl rfl rfl rfl rfl) rfl ?_
                    refine k_op0 (d := 66) (b := 41) (j' := 3) rfl rfl rfl rfl (.plain rfl) (T_load_b D rfl rfl rfl rfl rfl rfl) rfl ?_
                    refine k_op0 (d := 67) (b := 57) (j' := 4) rfl rfl rfl rfl (.plain rfl) (T_move rfl rfl) rfl ?_
                    first | refine k_op0 (d := 68) (b := 73) (j' := 5) rfl rfl rfl rfl (.plain rfl) (T_indexAddr D rfl rfl rfl rfl rfl rfl rfl rfl (by first | assumption | omega | (have k := hk (by omega); omega) | (have k := hk (by omega); have k2 := hpk (by omega); omega) | (simp; omega))) rfl ?_ | refine k_op0 (d := 68) (b := 73) (j' := 5) rfl rfl rfl rfl (.plain rfl) (T_indexAddrZ D rfl rfl rfl rfl rfl rfl rfl rfl (by first | assumption | omega | (have k := hk (by omega); omega) | (have k := hk (by omega); have k2 := hpk (by omega); omega) | (simp; omega)) (by first | assumption | omega | (have k := hk (by omega); omega) | (have k := hk (by omega); have k2 := hpk (by omega); omega) | (simp; omega))) rfl ?_
                    refine k_op1 (d := 69) (b := 89) (j' := 6) rfl rfl rfl rfl (.plain rfl) (T_ldE D (lv := .r 89) (nn := 1) (upd := [(89, .fz 1 _)]) rfl rfl rfl rfl rfl (by first | assumption | omega | (have k := hk (by omega); omega) | (have k := hk (by omega); have k2 := hpk (by omega); omega) | (simp; omega)) rfl rfl rfl rfl) rfl ?_
                    refine k_op0 (d := 70) (b := 105) (j' := 7) rfl rfl rfl rfl (.plain rfl) (T_len D rfl rfl rfl rfl rfl rfl) rfl ?_
                    refine k_op0 (d := 71) (b := 121) (j' := 8) rfl rfl rfl rfl (.plain rfl) (T_cmp rfl rfl rfl rfl) rfl ?_
                    refine k_done rfl ?_
                    refine thenK_n ?_
                    refine W_cond rfl (fun g16 => ?_) (fun g16 => ?_)
                    · have h16 := g16; (try simp only [cmpB, decide_eq_true_eq, decide_eq_false_iff_not, beq_iff_eq, beq_eq_false_iff_ne, bne_iff_ne, ne_eq, bne_eq_false_iff_eq, Bool.not_eq_true', Bool.not_eq_false', Int.not_lt, Int.not_le] at h16)
                      refine W_skip ?_
                      refine thenK_n ?_
                      refine W_seq ?_
                      refine W_block ?_
                      refine W_seq ?_
                      refine W_seq ?_
                      refine W_anyK (b' := 505) rfl rfl rfl ?_
                      refine k_op0 (d := 74) (b := 137) (j' := 1) rfl rfl rfl rfl (.plain rfl) (T_fa D (m := 7) rfl rfl rfl rfl rfl rfl) rfl ?_
                      refine k_op0 (d := 75) (b := 153) (j' := 2) rfl rfl rfl rfl (.plain rfl) (T_load_b D rfl rfl rfl rfl rfl rfl) rfl ?_
                      refine k_op0 (d := 76) (b := 169) (j' := 3) rfl rfl rfl rfl (.plain rfl) (T_move rfl rfl) rfl ?_
                      first | refine k_op0 (d := 77) (b := 185) (j' := 4) rfl rfl rfl rfl (.plain rfl) (T_indexAddr D rfl rfl rfl rfl rfl rfl rfl rfl (by first | assumption | omega | (have k := hk (by omega); omega) | (have k := hk (by omega); have k2 := hpk (by omega); omega) | (simp; omega))) rfl ?_ | refine k_op0 (d := 77) (b := 185) (j' := 4) rfl rfl rfl rfl (.plain rfl) (T_indexAddrZ D rfl rfl rfl rfl rfl rfl rfl rfl (by first | assumption | omega | (have k := hk (by omega); omega) | (have k := hk (by omega); have k2 := hpk (by omega); omega) | (simp; omega)) (by first | assumption | omega | (have k := hk (by omega); omega) | (have k := hk (by omega); have k2 := hpk (by omega); omega) | (simp; omega))) rfl ?_
                      refine k_op1 (d := 78) (b := 201) (j' := 5) rfl rfl rfl rfl (.plain rfl) (T_ldE D (lv := .r 201) (nn := 1) (upd := [(201, .fz 1 _)]) rfl rfl rfl rfl rfl (by first | assumption | omega | (have k := hk (by omega); omega) | (have k := hk (by omega); have k2 := hpk (by omega); omega) | (simp; omega)) rfl rfl rfl rfl) rfl ?_
                      refine k_op0 (d := 79) (b := 217) (j' := 6) rfl rfl rfl rfl (.plain rfl) (T_move rfl rfl) rfl ?_
                      first | refine k_op0 (d := 80) (b := 233) (j' := 7) rfl rfl rfl rfl (.plain rfl) (T_indexAddr D rfl rfl rfl rfl rfl rfl rfl rfl (by first | assumption | omega | (have k := hk (by omega); omega) | (have k := hk (by omega); have k2 := hpk (by omega); omega) | (simp; omega))) rfl ?_ | refine k_op0 (d := 80) (b := 233) (j' := 7) rfl rfl rfl rfl (.plain rfl) (T_indexAddrZ D rfl rfl rfl rfl rfl rfl rfl rfl (by first | assumption | omega | (have k := hk (by omega); omega) | (have k := hk (by omega); have k2 := hpk (by omega); omega) | (simp; omega)) (by first | assumption | omega | (have k := hk (by omega); omega) | (have k := hk (by omega); have k2 := hpk (by omega); omega) | (simp; omega))) rfl ?_
                      refine k_op0 (d := 81) (b := 249) (j' := 8) rfl rfl rfl rfl (.plain rfl) (T_ldE D (lv := .v _) (nn := 0) (upd := []) rfl rfl rfl rfl rfl (by first | assumption | omega | (have k := hk (by omega); omega) | (have k := hk (by omega); have k2 := hpk (by omega); omega) | (simp; omega)) rfl rfl rfl rfl) rfl ?_
                      refine k_op0 (d := 82) (b := 265) (j' := 9) rfl rfl rfl rfl (.plain rfl) (T_cmp rfl rfl rfl rfl) rfl ?_
                      refine k_op0 (d := 83) (b := 281) (j' := 10) rfl rfl rfl rfl (.plain rfl) (T_move rfl rfl) rfl ?_
                      refine k_split (d := 83) rfl (fun g17 => ?_) (fun g17 => ?_)
                      · have h17 := g17; (try simp only [cmpB, decide_eq_true_eq, decide_eq_false_iff_not, beq_iff_eq, beq_eq_false_iff_ne, bne_iff_ne, ne_eq, bne_eq_false_iff_eq, Bool.not_eq_true', Bool.not_eq_false', Int.not_lt, Int.not_le] at h17)
                        refine k_no (d := 84) (j' := 11) rfl rfl rfl (g_ft rfl rfl rfl g17) ?_
                        refine k_no (d := 85) (j' := 12) rfl rfl rfl (g_ft rfl rfl rfl g17) ?_
                        refine k_no (d := 86) (j' := 13) rfl rfl rfl (g_ft rfl rfl rfl g17) ?_
                        refine k_no (d := 87) (j' := 14) rfl rfl rfl (g_ft rfl rfl rfl g17) ?_
                        refine k_no (d := 88) (j' := 15) rfl rfl rfl (g_ft rfl rfl rfl g17) ?_
                        refine k_no (d := 89) (j' := 16) rfl rfl rfl (g_ft rfl rfl rfl g17) ?_
                        refine k_no (d := 90) (j' := 17) rfl rfl rfl (g_ft rfl rfl rfl g17) ?_
                        refine k_no (d := 91) (j' := 18) rfl rfl rfl (g_ft rfl rfl rfl g17) ?_
                        refine k_no (d := 92) (j' := 19) rfl rfl rfl (g_ft rfl rfl rfl g17) ?_
                        refine k_no (d := 93) (j' := 20) rfl rfl rfl (g_ft rfl rfl rfl g17) ?_
                        refine k_no (d := 94) (j' := 21) rfl rfl rfl (g_ft rfl rfl rfl g17) ?_
                        refine k_no (d := 95) (j' := 22) rfl rfl rfl (g_ft rfl rfl rfl g17) ?_
                        refine k_op0 (d := 96) (b := 489) (j' := 23) rfl rfl rfl rfl (.plain rfl) (T_pick_t rfl rfl rfl g17) rfl ?_
                        refine k_done rfl ?_
                        refine ⟨rfl, ?_⟩
                        refine thenK_n ?_
                        refine W_cond rfl (fun g18 => ?_) (fun g18 => ?_)
                        · skip
                          refine W_seq ?_
                          refine W_seqK (b' := 521) rfl rfl ?_
                          refine k_op0 (d := 2) (b := 505) (j' := 1) rfl rfl rfl rfl (.plain rfl) (T_assign rfl rfl) rfl ?_
                          refine k_done rfl ?_
                          refine thenK_n ?_
                          refine W_ret ?_
                          refine thenK_r ?_
                          refine blockK_r ?_
                          refine thenK_r ?_
                          refine thenK_r ?_
                          refine blockK_r ?_
                          refine thenK_r ?_
                          refine blockK_r ?_
                          refine thenK_r ?_
                          refine thenK_r ?_
                          refine blockK_r ?_
                          refine thenK_r ?_
                          -- end 8
                          exact .mk [] (.inr rfl) (.tmp rfl (.nil)) (by first | rfl | exact absurd g1 (by decide) | (exfalso; have k := hk (by omega); omega) | (simp only [resLV, LV.ren, LV.v.injEq, Value.bool.injEq]; have e : j = q.length := (by omega); rw [e, List.take_of_length_le (Nat.le_refl _)]; exact (tcheck_iff _ _ _).2 (joined_holds hAB hBC)) | simp [resLV, LV.ren]) (.nil) rfl
                        · exact absurd (g18.symm.trans rfl) (by decide)
                      · have h17 := g17; (try simp only [cmpB, decide_eq_true_eq, decide_eq_false_iff_not, beq_iff_eq, beq_eq_false_iff_ne, bne_iff_ne, ne_eq, bne_eq_false_iff_eq, Bool.not_eq_true', Bool.not_eq_false', Int.not_lt, Int.not_le] at h17)
                        refine k_op0 (d := 84) (b := 297) (j' := 11) rfl rfl rfl rfl (g_ff rfl rfl rfl g17) (T_fa D (m := 7) rfl rfl rfl rfl rfl rfl) rfl ?_
                        refine k_op0 (d := 85) (b := 313) (j' := 12) rfl rfl rfl rfl (g_ff rfl rfl rfl g17) (T_load_b D rfl rfl rfl rfl rfl rfl) rfl ?_
                        refine k_op0 (d := 86) (b := 329) (j' := 13) rfl rfl rfl rfl (g_ff rfl rfl rfl g17) (T_move rfl rfl) rfl ?_
                        first | refine k_op0 (d := 87) (b := 345) (j' := 14) rfl rfl rfl rfl (g_ff rfl rfl rfl g17) (T_indexAddr D rfl rfl rfl rfl rfl rfl rfl rfl (by first | assumption | omega | (have k := hk (by omega); omega) | (have k := hk (by omega); have k2 := hpk (by omega); omega) | (simp; omega))) rfl ?_ | refine k_op0 (d := 87) (b := 345) (j' := 14) rfl rfl rfl rfl (g_ff rfl rfl rfl g17) (T_indexAddrZ D rfl rfl rfl rfl rfl rfl rfl rfl (by first | assumption | omega | (have k := hk (by omega); omega) | (have k := hk (by omega); have k2 := hpk (by omega); omega) | (simp; omega)) (by first | assumption | omega | (have k := hk (by omega); omega) | (have k := hk (by omega); have k2 := hpk (by omega); omega) | (simp; omega))) rfl ?_
                        refine k_op1 (d := 88) (b := 361) (j' := 15) rfl rfl rfl rfl (g_ff rfl rfl rfl g17) (T_ldE D (lv := .r 361) (nn := 1) (upd := [(361, .fz 1 _)]) rfl rfl rfl rfl rfl (by first | assumption | omega | (have k := hk (by omega); omega) | (have k := hk (by omega); have k2 := hpk (by omega); omega) | (simp; omega)) rfl rfl rfl rfl) rfl ?_
                        refine k_op0 (d := 89) (b := 377) (j' := 16) rfl rfl rfl rfl (g_ff rfl rfl rfl g17) (T_move rfl rfl) rfl ?_
                        first | refine k_op0 (d := 90) (b := 393) (j' := 17) rfl rfl rfl rfl (g_ff rfl rfl rfl g17) (T_indexAddr D rfl rfl rfl rfl rfl rfl rfl rfl (by first | assumption | omega | (have k := hk (by omega); omega) | (have k := hk (by omega); have k2 := hpk (by omega); omega) | (simp; omega))) rfl ?_ | refine k_op0 (d := 90) (b := 393) (j' := 17) rfl rfl rfl rfl (g_ff rfl rfl rfl g17) (T_indexAddrZ D rfl rfl rfl rfl rfl rfl rfl rfl (by first | assumption | omega | (have k := hk (by omega); omega) | (have k := hk (by omega); have k2 := hpk (by omega); omega) | (simp; omega)) (by first | assumption | omega | (have k := hk (by omega); omega) | (have k := hk (by omega); have k2 := hpk (by omega); omega) | (simp; omega))) rfl ?_
                        refine k_op0 (d := 91) (b := 409) (j' := 18) rfl rfl rfl rfl (g_ff rfl rfl rfl g17) (T_ldE D (lv := .v _) (nn := 0) (upd := []) rfl rfl rfl rfl rfl (by first | assumption | omega | (have k := hk (by omega); omega) | (have k := hk (by omega); have k2 := hpk (by omega); omega) | (simp; omega)) rfl rfl rfl rfl) rfl ?_
                        refine k_op0 (d := 92) (b := 425) (j' := 19) rfl rfl rfl rfl (g_ff rfl rfl rfl g17) (T_fa D (m := 6) rfl rfl rfl rfl rfl rfl) rfl ?_
                        refine k_op0 (d := 93) (b := 441) (j' := 20) rfl rfl rfl rfl (g_ff rfl rfl rfl g17) (T_load_b D rfl rfl rfl rfl rfl rfl) rfl ?_
                        refine k_op0 (d := 94) (b := 457) (j' := 21) rfl rfl rfl rfl (g_ff rfl rfl rfl g17) (T_len D rfl rfl rfl rfl rfl rfl) rfl ?_
                        refine k_op0 (d := 95) (b := 473) (j' := 22) rfl rfl rfl rfl (g_ff rfl rfl rfl g17) (T_cmp rfl rfl rfl rfl) rfl ?_
                        refine k_op0 (d := 96) (b := 489) (j' := 23) rfl rfl rfl rfl (.plain rfl) (T_pick_f rfl rfl rfl g17) rfl ?_
                        refine k_done rfl ?_
                        refine ⟨rfl, ?_⟩
                        refine thenK_n ?_
                        refine W_cond rfl (fun g19 => ?_) (fun g19 => ?_)
                        · have h19 := g19; (try simp only [cmpB, decide_eq_true_eq, decide_eq_false_iff_not, beq_iff_eq, beq_eq_false_iff_ne, bne_iff_ne, ne_eq, bne_eq_false_iff_eq, Bool.not_eq_true', Bool.not_eq_false', Int.not_lt, Int.not_le] at h19)
                          refine W_seq ?_
                          refine W_seqK (b' := 521) rfl rfl ?_
                          refine k_op0 (d := 2) (b := 505) (j' := 1) rfl rfl rfl rfl (.plain rfl) (T_assign rfl rfl) rfl ?_
                          refine k_done rfl ?_
                          refine thenK_n ?_
                          refine W_ret ?_
                          refine thenK_r ?_
                          refine blockK_r ?_
                          refine thenK_r ?_
                          refine thenK_r ?_
                          refine blockK_r ?_
                          refine thenK_r ?_
                          refine blockK_r ?_
                          refine thenK_r ?_
                          refine thenK_r ?_
                          refine blockK_r ?_
                          refine thenK_r ?_
                          -- end 9
                          exact .mk [] (.inr rfl) (.tmp rfl (.nil)) (by first | rfl | exact absurd g1 (by decide) | (exfalso; have k := hk (by omega); omega) | (simp only [resLV, LV.ren, LV.v.injEq, Value.bool.injEq]; have e : j = q.length := (by omega); rw [e, List.take_of_length_le (Nat.le_refl _)]; exact (tcheck_iff _ _ _).2 (joined_holds hAB hBC)) | simp [resLV, LV.ren]) (.nil) rfl
                        · have h19 := g19; (try simp only [cmpB, decide_eq_true_eq, decide_eq_false_iff_not, beq_iff_eq, beq_eq_false_iff_ne, bne_iff_ne, ne_eq, bne_eq_false_iff_eq, Bool.not_eq_true', Bool.not_eq_false', Int.not_lt, Int.not_le] at h19)
                          refine W_skip ?_
                          refine thenK_n ?_
                          refine W_anyK (b' := 745) rfl rfl rfl ?_
                          refine k_op0 (d := 97) (b := 505) (j' := 1) rfl rfl rfl rfl (.plain rfl) (T_move rfl rfl) rfl ?_
                          refine k_op0 (d := 98) (b := 521) (j' := 2) rfl rfl rfl rfl (.plain rfl) (T_fa D (m := 6) rfl rfl rfl rfl rfl rfl) rfl ?_
                          refine k_op0 (d := 99) (b := 537) (j' := 3) rfl rfl rfl rfl (.plain rfl) (T_load_b D rfl rfl rfl rfl rfl rfl) rfl ?_
                          refine k_op0 (d := 100) (b := 553) (j' := 4) rfl rfl rfl rfl (.plain rfl) (T_fa D (m := 7) rfl rfl rfl rfl rfl rfl) rfl ?_
                          refine k_op0 (d := 101) (b := 569) (j' := 5) rfl rfl rfl rfl (.plain rfl) (T_load_b D rfl rfl rfl rfl rfl rfl) rfl ?_
                          refine k_op0 (d := 102) (b := 585) (j' := 6) rfl rfl rfl rfl (.plain rfl) (T_move rfl rfl) rfl ?_
                          first | refine k_op0 (d := 103) (b := 601) (j' := 7) rfl rfl rfl rfl (.plain rfl) (T_indexAddr D rfl rfl rfl rfl rfl rfl rfl rfl (by first | assumption | omega | (have k := hk (by omega); omega) | (have k := hk (by omega); have k2 := hpk (by omega); omega) | (simp; omega))) rfl ?_ | refine k_op0 (d := 103) (b := 601) (j' := 7) rfl rfl rfl rfl (.plain rfl) (T_indexAddrZ D rfl rfl rfl rfl rfl rfl rfl rfl (by first | assumption | omega | (have k := hk (by omega); omega) | (have k := hk (by omega); have k2 := hpk (by omega); omega) | (simp; omega)) (by first | assumption | omega | (have k := hk (by omega); omega) | (have k := hk (by omega); have k2 := hpk (by omega); omega) | (simp; omega))) rfl ?_
                          refine k_op1 (d := 104) (b := 617) (j' := 8) rfl rfl rfl rfl (.plain rfl) (T_ldE D (lv := .r 617) (nn := 1) (upd := [(617, .fz 1 _)]) rfl rfl rfl rfl rfl (by first | assumption | omega | (have k := hk (by omega); omega) | (have k := hk (by omega); have k2 := hpk (by omega); omega) | (simp; omega)) rfl rfl rfl rfl) rfl ?_
                          refine k_op0 (d := 105) (b := 633) (j' := 9) rfl rfl rfl rfl (.plain rfl) (T_move rfl rfl) rfl ?_
                          first | refine k_op0 (d := 106) (b := 649) (j' := 10) rfl rfl rfl rfl (.plain rfl) (T_indexAddr D rfl rfl rfl rfl rfl rfl rfl rfl (by first | assumption | omega | (have k := hk (by omega); omega) | (have k := hk (by omega); have k2 := hpk (by omega); omega) | (simp; omega))) rfl ?_ | refine k_op0 (d := 106) (b := 649) (j' := 10) rfl rfl rfl rfl (.plain rfl) (T_indexAddrZ D rfl rfl rfl rfl rfl rfl rfl rfl (by first | assumption | omega | (have k := hk (by omega); omega) | (have k := hk (by omega); have k2 := hpk (by omega); omega) | (simp; omega)) (by first | assumption | omega | (have k := hk (by omega); omega) | (have k := hk (by omega); have k2 := hpk (by omega); omega) | (simp; omega))) rfl ?_
                          refine k_op0 (d := 107) (b := 665) (j' := 11) rfl rfl rfl rfl (.plain rfl) (T_ldE D (lv := .v _) (nn := 0) (upd := []) rfl rfl rfl rfl rfl (by first | assumption | omega | (have k := hk (by omega); omega) | (have k := hk (by omega); have k2 := hpk (by omega); omega) | (simp; omega)) rfl rfl rfl rfl) rfl ?_
                          first | refine k_op0 (d := 108) (b := 681) (j' := 12) rfl rfl rfl rfl (.plain rfl) (T_indexAddr D rfl rfl rfl rfl rfl rfl rfl rfl (by first | assumption | omega | (have k := hk (by omega); omega) | (have k := hk (by omega); have k2 := hpk (by omega); omega) | (simp; omega))) rfl ?_ | refine k_op0 (d := 108) (b := 681) (j' := 12) rfl rfl rfl rfl (.plain rfl) (T_indexAddrZ D rfl rfl rfl rfl rfl rfl rfl rfl (by first | assumption | omega | (have k := hk (by omega); omega) | (have k := hk (by omega); have k2 := hpk (by omega); omega) | (simp; omega)) (by first | assumption | omega | (have k := hk (by omega); omega) | (have k := hk (by omega); have k2 := hpk (by omega); omega) | (simp; omega))) rfl ?_
                          refine k_op1 (d := 109) (b := 697) (j' := 13) rfl rfl rfl rfl (.plain rfl) (T_ldE D (lv := .r 697) (nn := 1) (upd := [(697, .fz 1 _)]) rfl rfl rfl rfl rfl (by first | assumption | omega | (have k := hk (by omega); omega) | (have k := hk (by omega); have k2 := hpk (by omega); omega) | (simp; omega)) rfl rfl rfl rfl) rfl ?_
                          refine k_opn (d := 110) (b := 713) (j' := 14) rfl rfl rfl rfl (.plain rfl) (T_append D rfl rfl rfl rfl rfl rfl rfl rfl rfl rfl rfl rfl (by (try simp only [ty3]); first | assumption | omega | (have k := hk (by omega); omega) | (have k := hk (by omega); have k2 := hpk (by omega); omega) | (simp; omega)) (by (try simp only [ty3]); first | assumption | omega | (have k := hk (by omega); omega) | (have k := hk (by omega); have k2 := hpk (by omega); omega) | (simp; omega))) rfl ?_
                          refine k_op0 (d := 5) (b := 729) (j' := 15) rfl rfl rfl rfl (.plain rfl) (T_assign rfl rfl) rfl ?_
                          refine k_done rfl ?_
                          refine ⟨rfl, ?_⟩
                          refine blockK_n ?_
                          refine thenK_n ?_
                          refine W_seqK (b' := 793) rfl rfl ?_
                          refine k_op0 (d := 72) (b := 745) (j' := 1) rfl rfl rfl rfl (.plain rfl) (T_move rfl rfl) rfl ?_
                          refine k_op0 (d := 73) (b := 761) (j' := 2) rfl rfl rfl rfl (.plain rfl) (T_add64 rfl rfl rfl (by first | assumption | omega | (have k := hk (by omega); omega) | (have k := hk (by omega); have k2 := hpk (by omega); omega) | (simp; omega))) rfl ?_
                          refine k_op0 (d := 6) (b := 777) (j' := 3) rfl rfl rfl rfl (.plain rfl) (T_assign rfl rfl) rfl ?_
                          refine k_done rfl ?_
                          refine thenK_n ?_
                          refine ⟨i + 1, by (try dsimp only); omega, by (try dsimp only); omega, ?_⟩
                          exact ⟨[(6, 6), (7, 7), (8, 713)], .same rfl rfl (.same rfl rfl (.eq rfl (.same rfl rfl (.eq rfl (.nil) (by first | rfl | (rw [joinP_take p _ (by omega)]; done) | (rw [joinP_take p _ (by omega)]; rfl)))) (by first | rfl | (rw [joinP_take p _ (by omega)]; done) | (rw [joinP_take p _ (by omega)]; rfl)))), .fzE rfl (.fzE rfl (.fzE rfl (.fzE rfl (.fzE rfl (.box (by first | rfl | (rw [joinP_take p _ (by omega)]; done) | (rw [joinP_take p _ (by omega)]; rfl)) (.rowE rfl (.rowE rfl (.nil) (by first | rfl | (rw [joinP_take p _ (by omega)]; done) | (rw [joinP_take p _ (by omega)]; rfl))) (by first | rfl | (rw [joinP_take p _ (by omega)]; done) | (rw [joinP_take p _ (by omega)]; rfl)))) (by first | rfl | (rw [joinP_take p _ (by omega)]; done) | (rw [joinP_take p _ (by omega)]; rfl))) (by first | rfl | (rw [joinP_take p _ (by omega)]; done) | (rw [joinP_take p _ (by omega)]; rfl))) (by first | rfl | (rw [joinP_take p _ (by omega)]; done) | (rw [joinP_take p _ (by omega)]; rfl))) (by first | rfl | (rw [joinP_take p _ (by omega)]; done) | (rw [joinP_take p _ (by omega)]; rfl))) (by first | rfl | (rw [joinP_take p _ (by omega)]; done) | (rw [joinP_take p _ (by omega)]; rfl)), rfl⟩
                    · have h16 := g16; (try simp only [cmpB, decide_eq_true_eq, decide_eq_false_iff_not, beq_iff_eq, beq_eq_false_iff_ne, bne_iff_ne, ne_eq, bne_eq_false_iff_eq, Bool.not_eq_true', Bool.not_eq_false', Int.not_lt, Int.not_le] at h16)
                      refine W_exit ?_
                      refine thenK_e ?_
                      refine thenK_e ?_
                      refine blockK_hit ?_
                      refine thenK_n ?_
                      refine W_seqK (b' := 217) rfl rfl ?_
                      refine k_op0 (d := 111) (b := 137) (j' := 1) rfl rfl rfl rfl (.plain rfl) (T_move rfl rfl) rfl ?_
                      refine k_op0 (d := 112) (b := 153) (j' := 2) rfl rfl rfl rfl (.plain rfl) (T_move rfl rfl) rfl ?_
                      refine k_opn (d := 113) (b := 169) (j' := 3) rfl rfl rfl rfl (.plain rfl) (T_bs D (ys := [_]) (enc := eIs) (l := [_]) rfl rfl rfl rfl rfl rfl (.cons rfl (flat_sl rfl) (.nil)) rfl rfl rfl rfl (.row rfl (.nil) rfl) rfl rfl) rfl ?_
                      refine k_opn (d := 114) (b := 185) (j' := 4) rfl rfl rfl rfl (.plain rfl) (T_append D rfl rfl rfl rfl rfl rfl rfl rfl rfl rfl rfl rfl (by (try simp only [ty52]); first | assumption | omega | (have k := hk (by omega); omega) | (have k := hk (by omega); have k2 := hpk (by omega); omega) | (simp; omega)) (by (try simp only [ty52]); first | assumption | omega | (have k := hk (by omega); omega) | (have k := hk (by omega); have k2 := hpk (by omega); omega) | (simp; omega))) rfl ?_
                      refine k_op0 (d := 3) (b := 201) (j' := 5) rfl rfl rfl rfl (.plain rfl) (T_assign rfl rfl) rfl ?_
                      refine k_done rfl ?_
                      refine blockK_n ?_
                      refine thenK_n ?_
                      refine W_seqK (b' := 265) rfl rfl ?_
                      refine k_op0 (d := 62) (b := 217) (j' := 1) rfl rfl rfl rfl (.plain rfl) (T_move rfl rfl) rfl ?_
                      refine k_op0 (d := 63) (b := 233) (j' := 2) rfl rfl rfl rfl (.plain rfl) (T_add64 rfl rfl rfl (by first | assumption | omega | (have k := hk (by omega); omega) | (have k := hk (by omega); have k2 := hpk (by omega); omega) | (simp; omega))) rfl ?_
                      refine k_op0 (d := 4) (b := 249) (j' := 3) rfl rfl rfl rfl (.plain rfl) (T_assign rfl rfl) rfl ?_
                      refine k_done rfl ?_
                      refine thenK_n ?_
                      have ei : i = (q.getD j default).length := by omega
                      refine ⟨j + 1, by (try dsimp only); omega, by (try dsimp only); omega, ?_⟩
                      exact ⟨[(6, 6), (7, 185)], .same rfl rfl (.same rfl rfl (.eq rfl (.nil) (by first | rfl | (rw [ei, List.take_of_length_le (Nat.le_refl _), map_take_succ (joinP p) q (by omega)]; done) | (rw [ei, List.take_of_length_le (Nat.le_refl _), map_take_succ (joinP p) q (by omega)]; rfl)))), .fzE rfl (.fzE rfl (.fzE rfl (.fzE rfl (.fzE rfl (.box (by first | rfl | (rw [ei, List.take_of_length_le (Nat.le_refl _), map_take_succ (joinP p) q (by omega)]; done) | (rw [ei, List.take_of_length_le (Nat.le_refl _), map_take_succ (joinP p) q (by omega)]; rfl)) (.rowE rfl (.nil) (by first | rfl | (rw [ei, List.take_of_length_le (Nat.le_refl _), map_take_succ (joinP p) q (by omega)]; done) | (rw [ei, List.take_of_length_le (Nat.le_refl _), map_take_succ (joinP p) q (by omega)]; rfl)))) (by first | rfl | (rw [ei, List.take_of_length_le (Nat.le_refl _), map_take_succ (joinP p) q (by omega)]; done) | (rw [ei, List.take_of_length_le (Nat.le_refl _), map_take_succ (joinP p) q (by omega)]; rfl))) (by first | rfl | (rw [ei, List.take_of_length_le (Nat.le_refl _), map_take_succ (joinP p) q (by omega)]; done) | (rw [ei, List.take_of_length_le (Nat.le_refl _), map_take_succ (joinP p) q (by omega)]; rfl))) (by first | rfl | (rw [ei, List.take_of_length_le (Nat.le_refl _), map_take_succ (joinP p) q (by omega)]; done) | (rw [ei, List.take_of_length_le (Nat.le_refl _), map_take_succ (joinP p) q (by omega)]; rfl))) (by first | rfl | (rw [ei, List.take_of_length_le (Nat.le_refl _), map_take_succ (joinP p) q (by omega)]; done) | (rw [ei, List.take_of_length_le (Nat.le_refl _), map_take_succ (joinP p) q (by omega)]; rfl))) (by first | rfl | (rw [ei, List.take_of_length_le (Nat.le_refl _), map_take_succ (joinP p) q (by omega)]; done) | (rw [ei, List.take_of_length_le (Nat.le_refl _), map_take_succ (joinP p) q (by omega)]; rfl)), rfl⟩
                  · have h15 := g15; (try simp only [cmpB, decide_eq_true_eq, decide_eq_false_iff_not, beq_iff_eq, beq_eq_false_iff_ne, bne_iff_ne, ne_eq, bne_eq_false_iff_eq, Bool.not_eq_true', Bool.not_eq_false', Int.not_lt, Int.not_le] at h15)
                    refine W_exit ?_
                    refine thenK_e ?_
                    refine thenK_e ?_
                    refine blockK_hit ?_
                    refine thenK_n ?_
                    refine W_seq ?_
                    refine W_seqK (b' := 200) rfl rfl ?_
                    refine k_op0 (d := 115) (b := 88) (j' := 1) rfl rfl rfl rfl (.plain rfl) (T_fa D (m := 0) rfl rfl rfl rfl rfl rfl) rfl ?_
                    refine k_op0 (d := 116) (b := 104) (j' := 2) rfl rfl rfl rfl (.plain rfl) (T_load_bA D (l := [_, _]) rfl rfl rfl rfl rfl rfl rfl) rfl ?_
                    refine k_op0 (d := 117) (b := 120) (j' := 3) rfl rfl rfl rfl (.plain rfl) (T_fa D (m := 4) rfl rfl rfl rfl rfl rfl) rfl ?_
                    refine k_op0 (d := 118) (b := 136) (j' := 4) rfl rfl rfl rfl (.plain rfl) (T_load_bA D (l := [_, _]) rfl rfl rfl rfl rfl rfl rfl) rfl ?_
                    refine k_op0 (d := 119) (b := 152) (j' := 5) rfl rfl rfl rfl (.plain rfl) (T_move rfl rfl) rfl ?_
                    refine k_op0 (d := 120) (b := 168) (j' := 6) rfl rfl rfl rfl (.plain rfl) (T_callV (lvs := [_, _, _]) (L := [(1, 1), (2, 3), (3, 7)]) ((by have e : j = q.length := (by omega); have z := tcheck_ok (f := a) (g := c) (ps := (q.take j).map (joinP p)) (by rw [e, List.take_of_length_le (Nat.le_refl _)]; exact joined_chk (x1 := 40) (x2 := 200) (x3 := 40) (x4 := 400) (by assumption) (by assumption) (by assumption) (by assumption) (by omega) (by omega)); exact z)) body30 rfl rfl rfl rfl (.fz rfl (.fz rfl (.lend rfl (.nil)))) rfl) rfl ?_
                    refine k_op0 (d := 2) (b := 184) (j' := 7) rfl rfl rfl rfl (.plain rfl) (T_assign rfl rfl) rfl ?_
                    refine k_done rfl ?_
                    refine thenK_n ?_
                    refine W_ret ?_
                    -- end 10
                    exact .mk [] (.inr rfl) (.tmp rfl (.nil)) (by first | rfl | exact absurd g1 (by decide) | (exfalso; have k := hk (by omega); omega) | (simp only [resLV, LV.ren, LV.v.injEq, Value.bool.injEq]; have e : j = q.length := (by omega); rw [e, List.take_of_length_le (Nat.le_refl _)]; exact (tcheck_iff _ _ _).2 (joined_holds hAB hBC)) | simp [resLV, LV.ren]) (.nil) rfl
end Lg
end Go.Proofs.Ytpfhmodjjljpjaa
