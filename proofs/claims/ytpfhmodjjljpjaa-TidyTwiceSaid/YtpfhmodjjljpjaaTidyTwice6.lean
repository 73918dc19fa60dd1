import Derived.Test.YtpfhmodjjljpjaaTidyTwice5
import Derived.Laws.Entries
set_option linter.unusedVariables false
set_option linter.unusedSimpArgs false
namespace Go.Proofs.Ytpfhmodjjljpjaa
open Go.RowKit
namespace Lg
set_option maxRecDepth 100000
set_option linter.unusedVariables false
set_option linter.unusedSimpArgs false



theorem body88 : (Try.prog.funcs[88]?).map (fun fn => (fn.name == "runtime.NumGoroutine" || fn.body.isNone)) = some false := by kernel_rfl
theorem fits_spec (t : GTac) (f regs words : Int) (hw : -4611686018427387904 ≤ words ∧ words ≤ 4611686018427387904) : Spec Try.prog 88 [.agg [.v (.int .i64 t.op), .v (.int .i64 t.d), .v (.int .i64 t.a), .v (.int .i64 t.b), .v (.int .i64 t.k), .v (.int .i64 t.base), .v (.int .i64 t.size), .v (.int .u32 t.n)], .v (.int .i64 f), .v (.int .i64 regs), .v (.int .i64 words)] 1 [] (.v (.bool (fitsB t f regs words))) 1 [] := by
  refine spec_of D (fn := Try.f88) rfl rfl (Nat.le_of_ble_eq_true rfl) ?_
  refine W_seq ?_
  refine W_seqK (b' := 33) rfl rfl ?_
  refine k_op1 (d := 4) (b := 1) (j' := 1) rfl rfl rfl rfl (.plain rfl) (T_box rfl rfl flat_agg) rfl ?_
  refine k_op0 (d := 8) (b := 17) (j' := 2) rfl rfl rfl rfl (.plain rfl) (T_assign rfl rfl) rfl ?_
  refine k_done rfl ?_
  refine thenK_n ?_
  refine W_seq ?_
  refine W_seq ?_
  refine W_seqK (b' := 161) rfl rfl ?_
  refine k_op0 (d := 12) (b := 33) (j' := 1) rfl rfl rfl rfl (.plain rfl) (T_fa D (m := 0) rfl rfl rfl rfl rfl rfl) rfl ?_
  refine k_op0 (d := 13) (b := 49) (j' := 2) rfl rfl rfl rfl (.plain rfl) (T_load_b D rfl rfl rfl rfl rfl rfl) rfl ?_
  refine k_op0 (d := 14) (b := 65) (j' := 3) rfl rfl rfl rfl (.plain rfl) (T_cmp rfl rfl rfl rfl) rfl ?_
  refine k_op0 (d := 15) (b := 81) (j' := 4) rfl rfl rfl rfl (.plain rfl) (T_move rfl rfl) rfl ?_
  refine k_split (d := 15) rfl (fun g1 => ?_) (fun g1 => ?_)
  · have h1 := g1; (try simp only [cmpB, decide_eq_true_eq, decide_eq_false_iff_not, beq_iff_eq, beq_eq_false_iff_ne, bne_iff_ne, ne_eq, bne_eq_false_iff_eq, Bool.not_eq_true', Bool.not_eq_false', Int.not_lt, Int.not_le] at h1)
    refine k_no (d := 16) (j' := 5) rfl rfl rfl (g_ft rfl rfl rfl g1) ?_
    refine k_no (d := 17) (j' := 6) rfl rfl rfl (g_ft rfl rfl rfl g1) ?_
    refine k_no (d := 18) (j' := 7) rfl rfl rfl (g_ft rfl rfl rfl g1) ?_
    refine k_op0 (d := 19) (b := 145) (j' := 8) rfl rfl rfl rfl (.plain rfl) (T_pick_t rfl rfl rfl g1) rfl ?_
    refine k_done rfl ?_
    refine thenK_n ?_
    refine W_cond rfl (fun g2 => ?_) (fun g2 => ?_)
    · skip
      refine W_seq ?_
      refine W_seqK (b' := 177) rfl rfl ?_
      refine k_op0 (d := 8) (b := 161) (j' := 1) rfl rfl rfl rfl (.plain rfl) (T_assign rfl rfl) rfl ?_
      refine k_done rfl ?_
      refine thenK_n ?_
      refine W_ret ?_
      refine thenK_r ?_
      -- end 0
      exact .mk [] (.inr rfl) (.tmp rfl (.nil)) (by first | rfl | (simp only [resLV, LV.ren, LV.v.injEq, Value.bool.injEq]; refine fits_no (fun hF => ?_); obtain ⟨a1, a2, a3, a4, a5, a6, a7, a8⟩ := hF; first | omega | (have k4 := a4 (by omega); omega) | (have k6 := a6 (by omega); omega) | exact absurd ((a2 (by assumption)).symm.trans (by assumption : _ = false)) (by decide) | exact absurd ((a5 (by omega)).symm.trans (by assumption : _ = false)) (by decide) | exact absurd ((a7 (by omega)).symm.trans (by assumption : _ = false)) (by decide) | exact absurd ((a3 _ (getD_mem (i := j) (by omega))).symm.trans (by assumption : _ = false)) (by decide)) | (simp only [resLV, LV.ren, LV.v.injEq, Value.bool.injEq]; exact fits_fin hj18 (fun _ => by omega) (fun _ => by first | assumption | (exfalso; omega)) (fun _ => by omega) (fun _ => by first | assumption | (exfalso; omega)) (by first | exact (if_pos (by omega)).symm | exact (if_neg (by omega)).symm) (by first | exact (if_pos (by omega)).symm | exact (if_neg (by omega)).symm) (by first | exact (if_pos (by omega)).symm | exact (if_neg (by omega)).symm) (by first | exact (if_pos (by omega)).symm | exact (if_neg (by omega)).symm))) (.nil) rfl
    · exact absurd (g2.symm.trans rfl) (by decide)
  · have h1 := g1; (try simp only [cmpB, decide_eq_true_eq, decide_eq_false_iff_not, beq_iff_eq, beq_eq_false_iff_ne, bne_iff_ne, ne_eq, bne_eq_false_iff_eq, Bool.not_eq_true', Bool.not_eq_false', Int.not_lt, Int.not_le] at h1)
    refine k_op0 (d := 16) (b := 97) (j' := 5) rfl rfl rfl rfl (g_ff rfl rfl rfl g1) (T_fa D (m := 0) rfl rfl rfl rfl rfl rfl) rfl ?_
    refine k_op0 (d := 17) (b := 113) (j' := 6) rfl rfl rfl rfl (g_ff rfl rfl rfl g1) (T_load_b D rfl rfl rfl rfl rfl rfl) rfl ?_
    refine k_op0 (d := 18) (b := 129) (j' := 7) rfl rfl rfl rfl (g_ff rfl rfl rfl g1) (T_cmp rfl rfl rfl rfl) rfl ?_
    refine k_op0 (d := 19) (b := 145) (j' := 8) rfl rfl rfl rfl (.plain rfl) (T_pick_f rfl rfl rfl g1) rfl ?_
    refine k_done rfl ?_
    refine thenK_n ?_
    refine W_cond rfl (fun g3 => ?_) (fun g3 => ?_)
    · have h3 := g3; (try simp only [cmpB, decide_eq_true_eq, decide_eq_false_iff_not, beq_iff_eq, beq_eq_false_iff_ne, bne_iff_ne, ne_eq, bne_eq_false_iff_eq, Bool.not_eq_true', Bool.not_eq_false', Int.not_lt, Int.not_le] at h3)
      refine W_seq ?_
      refine W_seqK (b' := 177) rfl rfl ?_
      refine k_op0 (d := 8) (b := 161) (j' := 1) rfl rfl rfl rfl (.plain rfl) (T_assign rfl rfl) rfl ?_
      refine k_done rfl ?_
      refine thenK_n ?_
      refine W_ret ?_
      refine thenK_r ?_
      -- end 1
      exact .mk [] (.inr rfl) (.tmp rfl (.nil)) (by first | rfl | (simp only [resLV, LV.ren, LV.v.injEq, Value.bool.injEq]; refine fits_no (fun hF => ?_); obtain ⟨a1, a2, a3, a4, a5, a6, a7, a8⟩ := hF; first | omega | (have k4 := a4 (by omega); omega) | (have k6 := a6 (by omega); omega) | exact absurd ((a2 (by assumption)).symm.trans (by assumption : _ = false)) (by decide) | exact absurd ((a5 (by omega)).symm.trans (by assumption : _ = false)) (by decide) | exact absurd ((a7 (by omega)).symm.trans (by assumption : _ = false)) (by decide) | exact absurd ((a3 _ (getD_mem (i := j) (by omega))).symm.trans (by assumption : _ = false)) (by decide)) | (simp only [resLV, LV.ren, LV.v.injEq, Value.bool.injEq]; exact fits_fin hj18 (fun _ => by omega) (fun _ => by first | assumption | (exfalso; omega)) (fun _ => by omega) (fun _ => by first | assumption | (exfalso; omega)) (by first | exact (if_pos (by omega)).symm | exact (if_neg (by omega)).symm) (by first | exact (if_pos (by omega)).symm | exact (if_neg (by omega)).symm) (by first | exact (if_pos (by omega)).symm | exact (if_neg (by omega)).symm) (by first | exact (if_pos (by omega)).symm | exact (if_neg (by omega)).symm))) (.nil) rfl
    · have h3 := g3; (try simp only [cmpB, decide_eq_true_eq, decide_eq_false_iff_not, beq_iff_eq, beq_eq_false_iff_ne, bne_iff_ne, ne_eq, bne_eq_false_iff_eq, Bool.not_eq_true', Bool.not_eq_false', Int.not_lt, Int.not_le] at h3)
      refine W_skip ?_
      refine thenK_n ?_
      refine W_seq ?_
      refine W_seqK (b' := 241) rfl rfl ?_
      refine k_op0 (d := 20) (b := 161) (j' := 1) rfl rfl rfl rfl (.plain rfl) (T_fa D (m := 0) rfl rfl rfl rfl rfl rfl) rfl ?_
      refine k_op0 (d := 21) (b := 177) (j' := 2) rfl rfl rfl rfl (.plain rfl) (T_load_b D rfl rfl rfl rfl rfl rfl) rfl ?_
      refine k_op0 (d := 22) (b := 193) (j' := 3) rfl rfl rfl rfl (.plain rfl) (T_build D (l := [_, _, _, _, _, _, _, _]) rfl rfl rfl rfl (.cons rfl (flat_v rfl) (.nil)) rfl rfl) rfl ?_
      refine k_op1 (d := 9) (b := 209) (j' := 4) rfl rfl rfl rfl (.plain rfl) (T_alloc D rfl rfl rfl) rfl ?_
      refine k_st1 (b := 225) (j' := 5) rfl rfl rfl rfl (.plain rfl) (T_stB D (cs' := [_, _, _, _, _, _, _, _]) rfl rfl rfl rfl flat_agg rfl rfl (Nat.le_of_ble_eq_true rfl) rfl) rfl ?_
      refine k_done rfl ?_
      refine thenK_n ?_
      refine W_join (ι := Unit) 3 (fun _u => ⟨[(1, .v (.int .i64 f)), (2, .v (.int .i64 regs)), (3, .v (.int .i64 words)), (4, .p 1 0), (9, .p 2 0)], [(1, .box 70 [.v (.int .i64 t.op), .v (.int .i64 t.d), .v (.int .i64 t.a), .v (.int .i64 t.b), .v (.int .i64 t.k), .v (.int .i64 t.base), .v (.int .i64 t.size), .v (.int .u32 t.n)]), (2, .box 70 [.v (.int .i64 t.op), .v (.int .i64 (if setsOp t.op = true then t.d else 0)), .v (.int .i64 0), .v (.int .i64 0), .v (.int .i64 0), .v (.int .i64 0), .v (.int .i64 0), .v (.int .u32 0)])]⟩) (fun _ => (1 ≤ t.op ∧ t.op ≤ 10) ∧ (setsOp t.op = true → withinB t.d regs = true)) ?_ (fun _u hj8 => ?_)
      · skip
        refine W_join (ι := Unit) 3 (fun _u => ⟨[(1, .v (.int .i64 f)), (2, .v (.int .i64 regs)), (3, .v (.int .i64 words)), (4, .p 1 0), (9, .p 2 0), (55, .v (.bool (setsOp t.op)))], [(1, .box 70 [.v (.int .i64 t.op), .v (.int .i64 t.d), .v (.int .i64 t.a), .v (.int .i64 t.b), .v (.int .i64 t.k), .v (.int .i64 t.base), .v (.int .i64 t.size), .v (.int .u32 t.n)]), (2, .box 70 [.v (.int .i64 t.op), .v (.int .i64 0), .v (.int .i64 0), .v (.int .i64 0), .v (.int .i64 0), .v (.int .i64 0), .v (.int .i64 0), .v (.int .u32 0)])]⟩) (fun _ => 1 ≤ t.op ∧ t.op ≤ 10) ?_ (fun _u hj5 => ?_)
        · skip
          refine W_seqK (b' := 769) rfl rfl ?_
          refine k_op0 (d := 23) (b := 241) (j' := 1) rfl rfl rfl rfl (.plain rfl) (T_load_bA D (l := [_, _, _, _, _, _, _, _]) rfl rfl rfl rfl rfl rfl rfl) rfl ?_
          refine k_op0 (d := 24) (b := 257) (j' := 2) rfl rfl rfl rfl (.plain rfl) (T_callV (lvs := [_]) (L := []) (sets_spec _) body86 rfl rfl rfl rfl (.nil) rfl) rfl ?_
          refine k_op0 (d := 25) (b := 273) (j' := 3) rfl rfl rfl rfl (.plain rfl) (T_cmp rfl rfl rfl rfl) rfl ?_
          refine k_op0 (d := 26) (b := 289) (j' := 4) rfl rfl rfl rfl (.plain rfl) (T_move rfl rfl) rfl ?_
          refine k_split (d := 26) rfl (fun g4 => ?_) (fun g4 => ?_)
          · have h4 := g4; (try simp only [cmpB, decide_eq_true_eq, decide_eq_false_iff_not, beq_iff_eq, beq_eq_false_iff_ne, bne_iff_ne, ne_eq, bne_eq_false_iff_eq, Bool.not_eq_true', Bool.not_eq_false', Int.not_lt, Int.not_le] at h4)
            refine k_no (d := 27) (j' := 5) rfl rfl rfl (g_ft rfl rfl rfl g4) ?_
            refine k_no (d := 28) (j' := 6) rfl rfl rfl (g_ft rfl rfl rfl g4) ?_
            refine k_no (d := 29) (j' := 7) rfl rfl rfl (g_ft rfl rfl rfl g4) ?_
            refine k_op0 (d := 30) (b := 353) (j' := 8) rfl rfl rfl rfl (.plain rfl) (T_pick_t rfl rfl rfl g4) rfl ?_
            refine k_op0 (d := 31) (b := 369) (j' := 9) rfl rfl rfl rfl (.plain rfl) (T_move rfl rfl) rfl ?_
            refine k_no (d := 32) (j' := 10) rfl rfl rfl (g_ft rfl rfl rfl rfl) ?_
            refine k_no (d := 33) (j' := 11) rfl rfl rfl (g_ft rfl rfl rfl rfl) ?_
            refine k_no (d := 34) (j' := 12) rfl rfl rfl (g_ft rfl rfl rfl rfl) ?_
            refine k_op0 (d := 35) (b := 433) (j' := 13) rfl rfl rfl rfl (.plain rfl) (T_pick_t rfl rfl rfl rfl) rfl ?_
            refine k_op0 (d := 36) (b := 449) (j' := 14) rfl rfl rfl rfl (.plain rfl) (T_move rfl rfl) rfl ?_
            refine k_no (d := 37) (j' := 15) rfl rfl rfl (g_ft rfl rfl rfl rfl) ?_
            refine k_no (d := 38) (j' := 16) rfl rfl rfl (g_ft rfl rfl rfl rfl) ?_
            refine k_no (d := 39) (j' := 17) rfl rfl rfl (g_ft rfl rfl rfl rfl) ?_
            refine k_op0 (d := 40) (b := 513) (j' := 18) rfl rfl rfl rfl (.plain rfl) (T_pick_t rfl rfl rfl rfl) rfl ?_
            refine k_op0 (d := 41) (b := 529) (j' := 19) rfl rfl rfl rfl (.plain rfl) (T_move rfl rfl) rfl ?_
            refine k_no (d := 42) (j' := 20) rfl rfl rfl (g_ft rfl rfl rfl rfl) ?_
            refine k_no (d := 43) (j' := 21) rfl rfl rfl (g_ft rfl rfl rfl rfl) ?_
            refine k_no (d := 44) (j' := 22) rfl rfl rfl (g_ft rfl rfl rfl rfl) ?_
            refine k_op0 (d := 45) (b := 593) (j' := 23) rfl rfl rfl rfl (.plain rfl) (T_pick_t rfl rfl rfl rfl) rfl ?_
            refine k_op0 (d := 46) (b := 609) (j' := 24) rfl rfl rfl rfl (.plain rfl) (T_move rfl rfl) rfl ?_
            refine k_no (d := 47) (j' := 25) rfl rfl rfl (g_ft rfl rfl rfl rfl) ?_
            refine k_no (d := 48) (j' := 26) rfl rfl rfl (g_ft rfl rfl rfl rfl) ?_
            refine k_no (d := 49) (j' := 27) rfl rfl rfl (g_ft rfl rfl rfl rfl) ?_
            refine k_op0 (d := 50) (b := 673) (j' := 28) rfl rfl rfl rfl (.plain rfl) (T_pick_t rfl rfl rfl rfl) rfl ?_
            refine k_op0 (d := 51) (b := 689) (j' := 29) rfl rfl rfl rfl (.plain rfl) (T_move rfl rfl) rfl ?_
            refine k_no (d := 52) (j' := 30) rfl rfl rfl (g_ft rfl rfl rfl rfl) ?_
            refine k_no (d := 53) (j' := 31) rfl rfl rfl (g_ft rfl rfl rfl rfl) ?_
            refine k_no (d := 54) (j' := 32) rfl rfl rfl (g_ft rfl rfl rfl rfl) ?_
            refine k_op0 (d := 55) (b := 753) (j' := 33) rfl rfl rfl rfl (.plain rfl) (T_pick_t rfl rfl rfl rfl) rfl ?_
            refine k_done rfl ?_
            refine thenK_n ?_
            refine ⟨(), by (try dsimp only); omega, ?_⟩
            exact ⟨[(1, 1), (2, 209)], .eq rfl (.eq rfl (.eq rfl (.same rfl rfl (.same rfl rfl (.eq rfl (.nil) (by first | rfl | (rw [setsOp_t (by omega)]; done) | (rw [setsT_ge (by assumption)]; done) | (by_cases h8 : t.op = 8; (rw [setsOp_t (by omega)]; simp [cmpB, h8]); (rw [setsOp_f (by omega)]; simp [cmpB, h8])))))) (by first | rfl | (rw [setsOp_t (by omega)]; done) | (rw [setsT_ge (by assumption)]; done) | (by_cases h8 : t.op = 8; (rw [setsOp_t (by omega)]; simp [cmpB, h8]); (rw [setsOp_f (by omega)]; simp [cmpB, h8])))) (by first | rfl | (rw [setsOp_t (by omega)]; done) | (rw [setsT_ge (by assumption)]; done) | (by_cases h8 : t.op = 8; (rw [setsOp_t (by omega)]; simp [cmpB, h8]); (rw [setsOp_f (by omega)]; simp [cmpB, h8])))) (by first | rfl | (rw [setsOp_t (by omega)]; done) | (rw [setsT_ge (by assumption)]; done) | (by_cases h8 : t.op = 8; (rw [setsOp_t (by omega)]; simp [cmpB, h8]); (rw [setsOp_f (by omega)]; simp [cmpB, h8]))), .box (by first | rfl | (rw [setsOp_t (by omega)]; done) | (rw [setsT_ge (by assumption)]; done) | (by_cases h8 : t.op = 8; (rw [setsOp_t (by omega)]; simp [cmpB, h8]); (rw [setsOp_f (by omega)]; simp [cmpB, h8]))) (.box (by first | rfl | (rw [setsOp_t (by omega)]; done) | (rw [setsT_ge (by assumption)]; done) | (by_cases h8 : t.op = 8; (rw [setsOp_t (by omega)]; simp [cmpB, h8]); (rw [setsOp_f (by omega)]; simp [cmpB, h8]))) (.nil)), rfl⟩
          · have h4 := g4; (try simp only [cmpB, decide_eq_true_eq, decide_eq_false_iff_not, beq_iff_eq, beq_eq_false_iff_ne, bne_iff_ne, ne_eq, bne_eq_false_iff_eq, Bool.not_eq_true', Bool.not_eq_false', Int.not_lt, Int.not_le] at h4)
            refine k_op0 (d := 27) (b := 305) (j' := 5) rfl rfl rfl rfl (g_ff rfl rfl rfl g4) (T_fa D (m := 0) rfl rfl rfl rfl rfl rfl) rfl ?_
            refine k_op0 (d := 28) (b := 321) (j' := 6) rfl rfl rfl rfl (g_ff rfl rfl rfl g4) (T_load_b D rfl rfl rfl rfl rfl rfl) rfl ?_
            refine k_op0 (d := 29) (b := 337) (j' := 7) rfl rfl rfl rfl (g_ff rfl rfl rfl g4) (T_cmp rfl rfl rfl rfl) rfl ?_
            refine k_op0 (d := 30) (b := 353) (j' := 8) rfl rfl rfl rfl (.plain rfl) (T_pick_f rfl rfl rfl g4) rfl ?_
            refine k_op0 (d := 31) (b := 369) (j' := 9) rfl rfl rfl rfl (.plain rfl) (T_move rfl rfl) rfl ?_
            refine k_split (d := 31) rfl (fun g5 => ?_) (fun g5 => ?_)
            · have h5 := g5; (try simp only [cmpB, decide_eq_true_eq, decide_eq_false_iff_not, beq_iff_eq, beq_eq_false_iff_ne, bne_iff_ne, ne_eq, bne_eq_false_iff_eq, Bool.not_eq_true', Bool.not_eq_false', Int.not_lt, Int.not_le] at h5)
              refine k_no (d := 32) (j' := 10) rfl rfl rfl (g_ft rfl rfl rfl g5) ?_
              refine k_no (d := 33) (j' := 11) rfl rfl rfl (g_ft rfl rfl rfl g5) ?_
              refine k_no (d := 34) (j' := 12) rfl rfl rfl (g_ft rfl rfl rfl g5) ?_
              refine k_op0 (d := 35) (b := 433) (j' := 13) rfl rfl rfl rfl (.plain rfl) (T_pick_t rfl rfl rfl g5) rfl ?_
              refine k_op0 (d := 36) (b := 449) (j' := 14) rfl rfl rfl rfl (.plain rfl) (T_move rfl rfl) rfl ?_
              refine k_no (d := 37) (j' := 15) rfl rfl rfl (g_ft rfl rfl rfl rfl) ?_
              refine k_no (d := 38) (j' := 16) rfl rfl rfl (g_ft rfl rfl rfl rfl) ?_
              refine k_no (d := 39) (j' := 17) rfl rfl rfl (g_ft rfl rfl rfl rfl) ?_
              refine k_op0 (d := 40) (b := 513) (j' := 18) rfl rfl rfl rfl (.plain rfl) (T_pick_t rfl rfl rfl rfl) rfl ?_
              refine k_op0 (d := 41) (b := 529) (j' := 19) rfl rfl rfl rfl (.plain rfl) (T_move rfl rfl) rfl ?_
              refine k_no (d := 42) (j' := 20) rfl rfl rfl (g_ft rfl rfl rfl rfl) ?_
              refine k_no (d := 43) (j' := 21) rfl rfl rfl (g_ft rfl rfl rfl rfl) ?_
              refine k_no (d := 44) (j' := 22) rfl rfl rfl (g_ft rfl rfl rfl rfl) ?_
              refine k_op0 (d := 45) (b := 593) (j' := 23) rfl rfl rfl rfl (.plain rfl) (T_pick_t rfl rfl rfl rfl) rfl ?_
              refine k_op0 (d := 46) (b := 609) (j' := 24) rfl rfl rfl rfl (.plain rfl) (T_move rfl rfl) rfl ?_
              refine k_no (d := 47) (j' := 25) rfl rfl rfl (g_ft rfl rfl rfl rfl) ?_
              refine k_no (d := 48) (j' := 26) rfl rfl rfl (g_ft rfl rfl rfl rfl) ?_
              refine k_no (d := 49) (j' := 27) rfl rfl rfl (g_ft rfl rfl rfl rfl) ?_
              refine k_op0 (d := 50) (b := 673) (j' := 28) rfl rfl rfl rfl (.plain rfl) (T_pick_t rfl rfl rfl rfl) rfl ?_
              refine k_op0 (d := 51) (b := 689) (j' := 29) rfl rfl rfl rfl (.plain rfl) (T_move rfl rfl) rfl ?_
              refine k_no (d := 52) (j' := 30) rfl rfl rfl (g_ft rfl rfl rfl rfl) ?_
              refine k_no (d := 53) (j' := 31) rfl rfl rfl (g_ft rfl rfl rfl rfl) ?_
              refine k_no (d := 54) (j' := 32) rfl rfl rfl (g_ft rfl rfl rfl rfl) ?_
              refine k_op0 (d := 55) (b := 753) (j' := 33) rfl rfl rfl rfl (.plain rfl) (T_pick_t rfl rfl rfl rfl) rfl ?_
              refine k_done rfl ?_
              refine thenK_n ?_
              refine ⟨(), by (try dsimp only); omega, ?_⟩
              exact ⟨[(1, 1), (2, 209)], .eq rfl (.eq rfl (.eq rfl (.same rfl rfl (.same rfl rfl (.eq rfl (.nil) (by first | rfl | (rw [setsOp_t (by omega)]; done) | (rw [setsT_ge (by assumption)]; done) | (by_cases h8 : t.op = 8; (rw [setsOp_t (by omega)]; simp [cmpB, h8]); (rw [setsOp_f (by omega)]; simp [cmpB, h8])))))) (by first | rfl | (rw [setsOp_t (by omega)]; done) | (rw [setsT_ge (by assumption)]; done) | (by_cases h8 : t.op = 8; (rw [setsOp_t (by omega)]; simp [cmpB, h8]); (rw [setsOp_f (by omega)]; simp [cmpB, h8])))) (by first | rfl | (rw [setsOp_t (by omega)]; done) | (rw [setsT_ge (by assumption)]; done) | (by_cases h8 : t.op = 8; (rw [setsOp_t (by omega)]; simp [cmpB, h8]); (rw [setsOp_f (by omega)]; simp [cmpB, h8])))) (by first | rfl | (rw [setsOp_t (by omega)]; done) | (rw [setsT_ge (by assumption)]; done) | (by_cases h8 : t.op = 8; (rw [setsOp_t (by omega)]; simp [cmpB, h8]); (rw [setsOp_f (by omega)]; simp [cmpB, h8]))), .box (by first | rfl | (rw [setsOp_t (by omega)]; done) | (rw [setsT_ge (by assumption)]; done) | (by_cases h8 : t.op = 8; (rw [setsOp_t (by omega)]; simp [cmpB, h8]); (rw [setsOp_f (by omega)]; simp [cmpB, h8]))) (.box (by first | rfl | (rw [setsOp_t (by omega)]; done) | (rw [setsT_ge (by assumption)]; done) | (by_cases h8 : t.op = 8; (rw [setsOp_t (by omega)]; simp [cmpB, h8]); (rw [setsOp_f (by omega)]; simp [cmpB, h8]))) (.nil)), rfl⟩
            · have h5 := g5; (try simp only [cmpB, decide_eq_true_eq, decide_eq_false_iff_not, beq_iff_eq, beq_eq_false_iff_ne, bne_iff_ne, ne_eq, bne_eq_false_iff_eq, Bool.not_eq_true', Bool.not_eq_false', Int.not_lt, Int.not_le] at h5)
              refine k_op0 (d := 32) (b := 385) (j' := 10) rfl rfl rfl rfl (g_ff rfl rfl rfl g5) (T_fa D (m := 0) rfl rfl rfl rfl rfl rfl) rfl ?_
              refine k_op0 (d := 33) (b := 401) (j' := 11) rfl rfl rfl rfl (g_ff rfl rfl rfl g5) (T_load_b D rfl rfl rfl rfl rfl rfl) rfl ?_
              refine k_op0 (d := 34) (b := 417) (j' := 12) rfl rfl rfl rfl (g_ff rfl rfl rfl g5) (T_cmp rfl rfl rfl rfl) rfl ?_
              refine k_op0 (d := 35) (b := 433) (j' := 13) rfl rfl rfl rfl (.plain rfl) (T_pick_f rfl rfl rfl g5) rfl ?_
              refine k_op0 (d := 36) (b := 449) (j' := 14) rfl rfl rfl rfl (.plain rfl) (T_move rfl rfl) rfl ?_
              refine k_split (d := 36) rfl (fun g6 => ?_) (fun g6 => ?_)
              · have h6 := g6; (try simp only [cmpB, decide_eq_true_eq, decide_eq_false_iff_not, beq_iff_eq, beq_eq_false_iff_ne, bne_iff_ne, ne_eq, bne_eq_false_iff_eq, Bool.not_eq_true', Bool.not_eq_false', Int.not_lt, Int.not_le] at h6)
                refine k_no (d := 37) (j' := 15) rfl rfl rfl (g_ft rfl rfl rfl g6) ?_
                refine k_no (d := 38) (j' := 16) rfl rfl rfl (g_ft rfl rfl rfl g6) ?_
                refine k_no (d := 39) (j' := 17) rfl rfl rfl (g_ft rfl rfl rfl g6) ?_
                refine k_op0 (d := 40) (b := 513) (j' := 18) rfl rfl rfl rfl (.plain rfl) (T_pick_t rfl rfl rfl g6) rfl ?_
                refine k_op0 (d := 41) (b := 529) (j' := 19) rfl rfl rfl rfl (.plain rfl) (T_move rfl rfl) rfl ?_
                refine k_no (d := 42) (j' := 20) rfl rfl rfl (g_ft rfl rfl rfl rfl) ?_
                refine k_no (d := 43) (j' := 21) rfl rfl rfl (g_ft rfl rfl rfl rfl) ?_
                refine k_no (d := 44) (j' := 22) rfl rfl rfl (g_ft rfl rfl rfl rfl) ?_
                refine k_op0 (d := 45) (b := 593) (j' := 23) rfl rfl rfl rfl (.plain rfl) (T_pick_t rfl rfl rfl rfl) rfl ?_
                refine k_op0 (d := 46) (b := 609) (j' := 24) rfl rfl rfl rfl (.plain rfl) (T_move rfl rfl) rfl ?_
                refine k_no (d := 47) (j' := 25) rfl rfl rfl (g_ft rfl rfl rfl rfl) ?_
                refine k_no (d := 48) (j' := 26) rfl rfl rfl (g_ft rfl rfl rfl rfl) ?_
                refine k_no (d := 49) (j' := 27) rfl rfl rfl (g_ft rfl rfl rfl rfl) ?_
                refine k_op0 (d := 50) (b := 673) (j' := 28) rfl rfl rfl rfl (.plain rfl) (T_pick_t rfl rfl rfl rfl) rfl ?_
                refine k_op0 (d := 51) (b := 689) (j' := 29) rfl rfl rfl rfl (.plain rfl) (T_move rfl rfl) rfl ?_
                refine k_no (d := 52) (j' := 30) rfl rfl rfl (g_ft rfl rfl rfl rfl) ?_
                refine k_no (d := 53) (j' := 31) rfl rfl rfl (g_ft rfl rfl rfl rfl) ?_
                refine k_no (d := 54) (j' := 32) rfl rfl rfl (g_ft rfl rfl rfl rfl) ?_
                refine k_op0 (d := 55) (b := 753) (j' := 33) rfl rfl rfl rfl (.plain rfl) (T_pick_t rfl rfl rfl rfl) rfl ?_
                refine k_done rfl ?_
                refine thenK_n ?_
                refine ⟨(), by (try dsimp only); omega, ?_⟩
                exact ⟨[(1, 1), (2, 209)], .eq rfl (.eq rfl (.eq rfl (.same rfl rfl (.same rfl rfl (.eq rfl (.nil) (by first | rfl | (rw [setsOp_t (by omega)]; done) | (rw [setsT_ge (by assumption)]; done) | (by_cases h8 : t.op = 8; (rw [setsOp_t (by omega)]; simp [cmpB, h8]); (rw [setsOp_f (by omega)]; simp [cmpB, h8])))))) (by first | rfl | (rw [setsOp_t (by omega)]; done) | (rw [setsT_ge (by assumption)]; done) | (by_cases h8 : t.op = 8; (rw [setsOp_t (by omega)]; simp [cmpB, h8]); (rw [setsOp_f (by omega)]; simp [cmpB, h8])))) (by first | rfl | (rw [setsOp_t (by omega)]; done) | (rw [setsT_ge (by assumption)]; done) | (by_cases h8 : t.op = 8; (rw [setsOp_t (by omega)]; simp [cmpB, h8]); (rw [setsOp_f (by omega)]; simp [cmpB, h8])))) (by first | rfl | (rw [setsOp_t (by omega)]; done) | (rw [setsT_ge (by assumption)]; done) | (by_cases h8 : t.op = 8; (rw [setsOp_t (by omega)]; simp [cmpB, h8]); (rw [setsOp_f (by omega)]; simp [cmpB, h8]))), .box (by first | rfl | (rw [setsOp_t (by omega)]; done) | (rw [setsT_ge (by assumption)]; done) | (by_cases h8 : t.op = 8; (rw [setsOp_t (by omega)]; simp [cmpB, h8]); (rw [setsOp_f (by omega)]; simp [cmpB, h8]))) (.box (by first | rfl | (rw [setsOp_t (by omega)]; done) | (rw [setsT_ge (by assumption)]; done) | (by_cases h8 : t.op = 8; (rw [setsOp_t (by omega)]; simp [cmpB, h8]); (rw [setsOp_f (by omega)]; simp [cmpB, h8]))) (.nil)), rfl⟩
              · have h6 := g6; (try simp only [cmpB, decide_eq_true_eq, decide_eq_false_iff_not, beq_iff_eq, beq_eq_false_iff_ne, bne_iff_ne, ne_eq, bne_eq_false_iff_eq, Bool.not_eq_true', Bool.not_eq_false', Int.not_lt, Int.not_le] at h6)
                refine k_op0 (d := 37) (b := 465) (j' := 15) rfl rfl rfl rfl (g_ff rfl rfl rfl g6) (T_fa D (m := 0) rfl rfl rfl rfl rfl rfl) rfl ?_
                refine k_op0 (d := 38) (b := 481) (j' := 16) rfl rfl rfl rfl (g_ff rfl rfl rfl g6) (T_load_b D rfl rfl rfl rfl rfl rfl) rfl ?_
                refine k_op0 (d := 39) (b := 497) (j' := 17) rfl rfl rfl rfl (g_ff rfl rfl rfl g6) (T_cmp rfl rfl rfl rfl) rfl ?_
                refine k_op0 (d := 40) (b := 513) (j' := 18) rfl rfl rfl rfl (.plain rfl) (T_pick_f rfl rfl rfl g6) rfl ?_
                refine k_op0 (d := 41) (b := 529) (j' := 19) rfl rfl rfl rfl (.plain rfl) (T_move rfl rfl) rfl ?_
                refine k_split (d := 41) rfl (fun g7 => ?_) (fun g7 => ?_)
                · have h7 := g7; (try simp only [cmpB, decide_eq_true_eq, decide_eq_false_iff_not, beq_iff_eq, beq_eq_false_iff_ne, bne_iff_ne, ne_eq, bne_eq_false_iff_eq, Bool.not_eq_true', Bool.not_eq_false', Int.not_lt, Int.not_le] at h7)
                  refine k_no (d := 42) (j' := 20) rfl rfl rfl (g_ft rfl rfl rfl g7) ?_
                  refine k_no (d := 43) (j' := 21) rfl rfl rfl (g_ft rfl rfl rfl g7) ?_
                  refine k_no (d := 44) (j' := 22) rfl rfl rfl (g_ft rfl rfl rfl g7) ?_
                  refine k_op0 (d := 45) (b := 593) (j' := 23) rfl rfl rfl rfl (.plain rfl) (T_pick_t rfl rfl rfl g7) rfl ?_
                  refine k_op0 (d := 46) (b := 609) (j' := 24) rfl rfl rfl rfl (.plain rfl) (T_move rfl rfl) rfl ?_
                  refine k_no (d := 47) (j' := 25) rfl rfl rfl (g_ft rfl rfl rfl rfl) ?_
                  refine k_no (d := 48) (j' := 26) rfl rfl rfl (g_ft rfl rfl rfl rfl) ?_
                  refine k_no (d := 49) (j' := 27) rfl rfl rfl (g_ft rfl rfl rfl rfl) ?_
                  refine k_op0 (d := 50) (b := 673) (j' := 28) rfl rfl rfl rfl (.plain rfl) (T_pick_t rfl rfl rfl rfl) rfl ?_
                  refine k_op0 (d := 51) (b := 689) (j' := 29) rfl rfl rfl rfl (.plain rfl) (T_move rfl rfl) rfl ?_
                  refine k_no (d := 52) (j' := 30) rfl rfl rfl (g_ft rfl rfl rfl rfl) ?_
                  refine k_no (d := 53) (j' := 31) rfl rfl rfl (g_ft rfl rfl rfl rfl) ?_
                  refine k_no (d := 54) (j' := 32) rfl rfl rfl (g_ft rfl rfl rfl rfl) ?_
                  refine k_op0 (d := 55) (b := 753) (j' := 33) rfl rfl rfl rfl (.plain rfl) (T_pick_t rfl rfl rfl rfl) rfl ?_
                  refine k_done rfl ?_
                  refine thenK_n ?_
                  refine ⟨(), by (try dsimp only); omega, ?_⟩
                  exact ⟨[(1, 1), (2, 209)], .eq rfl (.eq rfl (.eq rfl (.same rfl rfl (.same rfl rfl (.eq rfl (.nil) (by first | rfl | (rw [setsOp_t (by omega)]; done) | (rw [setsT_ge (by assumption)]; done) | (by_cases h8 : t.op = 8; (rw [setsOp_t (by omega)]; simp [cmpB, h8]); (rw [setsOp_f (by omega)]; simp [cmpB, h8])))))) (by first | rfl | (rw [setsOp_t (by omega)]; done) | (rw [setsT_ge (by assumption)]; done) | (by_cases h8 : t.op = 8; (rw [setsOp_t (by omega)]; simp [cmpB, h8]); (rw [setsOp_f (by omega)]; simp [cmpB, h8])))) (by first | rfl | (rw [setsOp_t (by omega)]; done) | (rw [setsT_ge (by assumption)]; done) | (by_cases h8 : t.op = 8; (rw [setsOp_t (by omega)]; simp [cmpB, h8]); (rw [setsOp_f (by omega)]; simp [cmpB, h8])))) (by first | rfl | (rw [setsOp_t (by omega)]; done) | (rw [setsT_ge (by assumption)]; done) | (by_cases h8 : t.op = 8; (rw [setsOp_t (by omega)]; simp [cmpB, h8]); (rw [setsOp_f (by omega)]; simp [cmpB, h8]))), .box (by first | rfl | (rw [setsOp_t (by omega)]; done) | (rw [setsT_ge (by assumption)]; done) | (by_cases h8 : t.op = 8; (rw [setsOp_t (by omega)]; simp [cmpB, h8]); (rw [setsOp_f (by omega)]; simp [cmpB, h8]))) (.box (by first | rfl | (rw [setsOp_t (by omega)]; done) | (rw [setsT_ge (by assumption)]; done) | (by_cases h8 : t.op = 8; (rw [setsOp_t (by omega)]; simp [cmpB, h8]); (rw [setsOp_f (by omega)]; simp [cmpB, h8]))) (.nil)), rfl⟩
                · have h7 := g7; (try simp only [cmpB, decide_eq_true_eq, decide_eq_false_iff_not, beq_iff_eq, beq_eq_false_iff_ne, bne_iff_ne, ne_eq, bne_eq_false_iff_eq, Bool.not_eq_true', Bool.not_eq_false', Int.not_lt, Int.not_le] at h7)
                  refine k_op0 (d := 42) (b := 545) (j' := 20) rfl rfl rfl rfl (g_ff rfl rfl rfl g7) (T_fa D (m := 0) rfl rfl rfl rfl rfl rfl) rfl ?_
                  refine k_op0 (d := 43) (b := 561) (j' := 21) rfl rfl rfl rfl (g_ff rfl rfl rfl g7) (T_load_b D rfl rfl rfl rfl rfl rfl) rfl ?_
                  refine k_op0 (d := 44) (b := 577) (j' := 22) rfl rfl rfl rfl (g_ff rfl rfl rfl g7) (T_cmp rfl rfl rfl rfl) rfl ?_
                  refine k_op0 (d := 45) (b := 593) (j' := 23) rfl rfl rfl rfl (.plain rfl) (T_pick_f rfl rfl rfl g7) rfl ?_
                  refine k_op0 (d := 46) (b := 609) (j' := 24) rfl rfl rfl rfl (.plain rfl) (T_move rfl rfl) rfl ?_
                  refine k_split (d := 46) rfl (fun g8 => ?_) (fun g8 => ?_)
                  · have h8 := g8; (try simp only [cmpB, decide_eq_true_eq, decide_eq_false_iff_not, beq_iff_eq, beq_eq_false_iff_ne, bne_iff_ne, ne_eq, bne_eq_false_iff_eq, Bool.not_eq_true', Bool.not_eq_false', Int.not_lt, Int.not_le] at h8)
                    refine k_no (d := 47) (j' := 25) rfl rfl rfl (g_ft rfl rfl rfl g8) ?_
                    refine k_no (d := 48) (j' := 26) rfl rfl rfl (g_ft rfl rfl rfl g8) ?_
                    refine k_no (d := 49) (j' := 27) rfl rfl rfl (g_ft rfl rfl rfl g8) ?_
                    refine k_op0 (d := 50) (b := 673) (j' := 28) rfl rfl rfl rfl (.plain rfl) (T_pick_t rfl rfl rfl g8) rfl ?_
                    refine k_op0 (d := 51) (b := 689) (j' := 29) rfl rfl rfl rfl (.plain rfl) (T_move rfl rfl) rfl ?_
                    refine k_no (d := 52) (j' := 30) rfl rfl rfl (g_ft rfl rfl rfl rfl) ?_
                    refine k_no (d := 53) (j' := 31) rfl rfl rfl (g_ft rfl rfl rfl rfl) ?_
                    refine k_no (d := 54) (j' := 32) rfl rfl rfl (g_ft rfl rfl rfl rfl) ?_
                    refine k_op0 (d := 55) (b := 753) (j' := 33) rfl rfl rfl rfl (.plain rfl) (T_pick_t rfl rfl rfl rfl) rfl ?_
                    refine k_done rfl ?_
                    refine thenK_n ?_
                    refine ⟨(), by (try dsimp only); omega, ?_⟩
                    exact ⟨[(1, 1), (2, 209)], .eq rfl (.eq rfl (.eq rfl (.same rfl rfl (.same rfl rfl (.eq rfl (.nil) (by first | rfl | (rw [setsOp_t (by omega)]; done) | (rw [setsT_ge (by assumption)]; done) | (by_cases h8 : t.op = 8; (rw [setsOp_t (by omega)]; simp [cmpB, h8]); (rw [setsOp_f (by omega)]; simp [cmpB, h8])))))) (by first | rfl | (rw [setsOp_t (by omega)]; done) | (rw [setsT_ge (by assumption)]; done) | (by_cases h8 : t.op = 8; (rw [setsOp_t (by omega)]; simp [cmpB, h8]); (rw [setsOp_f (by omega)]; simp [cmpB, h8])))) (by first | rfl | (rw [setsOp_t (by omega)]; done) | (rw [setsT_ge (by assumption)]; done) | (by_cases h8 : t.op = 8; (rw [setsOp_t (by omega)]; simp [cmpB, h8]); (rw [setsOp_f (by omega)]; simp [cmpB, h8])))) (by first | rfl | (rw [setsOp_t (by omega)]; done) | (rw [setsT_ge (by assumption)]; done) | (by_cases h8 : t.op = 8; (rw [setsOp_t (by omega)]; simp [cmpB, h8]); (rw [setsOp_f (by omega)]; simp [cmpB, h8]))), .box (by first | rfl | (rw [setsOp_t (by omega)]; done) | (rw [setsT_ge (by assumption)]; done) | (by_cases h8 : t.op = 8; (rw [setsOp_t (by omega)]; simp [cmpB, h8]); (rw [setsOp_f (by omega)]; simp [cmpB, h8]))) (.box (by first | rfl | (rw [setsOp_t (by omega)]; done) | (rw [setsT_ge (by assumption)]; done) | (by_cases h8 : t.op = 8; (rw [setsOp_t (by omega)]; simp [cmpB, h8]); (rw [setsOp_f (by omega)]; simp [cmpB, h8]))) (.nil)), rfl⟩
                  · have h8 := g8; (try simp only [cmpB, decide_eq_true_eq, decide_eq_false_iff_not, beq_iff_eq, beq_eq_false_iff_ne, bne_iff_ne, ne_eq, bne_eq_false_iff_eq, Bool.not_eq_true', Bool.not_eq_false', Int.not_lt, Int.not_le] at h8)
                    refine k_op0 (d := 47) (b := 625) (j' := 25) rfl rfl rfl rfl (g_ff rfl rfl rfl g8) (T_fa D (m := 0) rfl rfl rfl rfl rfl rfl) rfl ?_
                    refine k_op0 (d := 48) (b := 641) (j' := 26) rfl rfl rfl rfl (g_ff rfl rfl rfl g8) (T_load_b D rfl rfl rfl rfl rfl rfl) rfl ?_
                    refine k_op0 (d := 49) (b := 657) (j' := 27) rfl rfl rfl rfl (g_ff rfl rfl rfl g8) (T_cmp rfl rfl rfl rfl) rfl ?_
                    refine k_op0 (d := 50) (b := 673) (j' := 28) rfl rfl rfl rfl (.plain rfl) (T_pick_f rfl rfl rfl g8) rfl ?_
                    refine k_op0 (d := 51) (b := 689) (j' := 29) rfl rfl rfl rfl (.plain rfl) (T_move rfl rfl) rfl ?_
                    refine k_split (d := 51) rfl (fun g9 => ?_) (fun g9 => ?_)
                    · have h9 := g9; (try simp only [cmpB, decide_eq_true_eq, decide_eq_false_iff_not, beq_iff_eq, beq_eq_false_iff_ne, bne_iff_ne, ne_eq, bne_eq_false_iff_eq, Bool.not_eq_true', Bool.not_eq_false', Int.not_lt, Int.not_le] at h9)
                      refine k_no (d := 52) (j' := 30) rfl rfl rfl (g_ft rfl rfl rfl g9) ?_
                      refine k_no (d := 53) (j' := 31) rfl rfl rfl (g_ft rfl rfl rfl g9) ?_
                      refine k_no (d := 54) (j' := 32) rfl rfl rfl (g_ft rfl rfl rfl g9) ?_
                      refine k_op0 (d := 55) (b := 753) (j' := 33) rfl rfl rfl rfl (.plain rfl) (T_pick_t rfl rfl rfl g9) rfl ?_
                      refine k_done rfl ?_
                      refine thenK_n ?_
                      refine ⟨(), by (try dsimp only); omega, ?_⟩
                      exact ⟨[(1, 1), (2, 209)], .eq rfl (.eq rfl (.eq rfl (.same rfl rfl (.same rfl rfl (.eq rfl (.nil) (by first | rfl | (rw [setsOp_t (by omega)]; done) | (rw [setsT_ge (by assumption)]; done) | (by_cases h8 : t.op = 8; (rw [setsOp_t (by omega)]; simp [cmpB, h8]); (rw [setsOp_f (by omega)]; simp [cmpB, h8])))))) (by first | rfl | (rw [setsOp_t (by omega)]; done) | (rw [setsT_ge (by assumption)]; done) | (by_cases h8 : t.op = 8; (rw [setsOp_t (by omega)]; simp [cmpB, h8]); (rw [setsOp_f (by omega)]; simp [cmpB, h8])))) (by first | rfl | (rw [setsOp_t (by omega)]; done) | (rw [setsT_ge (by assumption)]; done) | (by_cases h8 : t.op = 8; (rw [setsOp_t (by omega)]; simp [cmpB, h8]); (rw [setsOp_f (by omega)]; simp [cmpB, h8])))) (by first | rfl | (rw [setsOp_t (by omega)]; done) | (rw [setsT_ge (by assumption)]; done) | (by_cases h8 : t.op = 8; (rw [setsOp_t (by omega)]; simp [cmpB, h8]); (rw [setsOp_f (by omega)]; simp [cmpB, h8]))), .box (by first | rfl | (rw [setsOp_t (by omega)]; done) | (rw [setsT_ge (by assumption)]; done) | (by_cases h8 : t.op = 8; (rw [setsOp_t (by omega)]; simp [cmpB, h8]); (rw [setsOp_f (by omega)]; simp [cmpB, h8]))) (.box (by first | rfl | (rw [setsOp_t (by omega)]; done) | (rw [setsT_ge (by assumption)]; done) | (by_cases h8 : t.op = 8; (rw [setsOp_t (by omega)]; simp [cmpB, h8]); (rw [setsOp_f (by omega)]; simp [cmpB, h8]))) (.nil)), rfl⟩
                    · have h9 := g9; (try simp only [cmpB, decide_eq_true_eq, decide_eq_false_iff_not, beq_iff_eq, beq_eq_false_iff_ne, bne_iff_ne, ne_eq, bne_eq_false_iff_eq, Bool.not_eq_true', Bool.not_eq_false', Int.not_lt, Int.not_le] at h9)
                      refine k_op0 (d := 52) (b := 705) (j' := 30) rfl rfl rfl rfl (g_ff rfl rfl rfl g9) (T_fa D (m := 0) rfl rfl rfl rfl rfl rfl) rfl ?_
                      refine k_op0 (d := 53) (b := 721) (j' := 31) rfl rfl rfl rfl (g_ff rfl rfl rfl g9) (T_load_b D rfl rfl rfl rfl rfl rfl) rfl ?_
                      refine k_op0 (d := 54) (b := 737) (j' := 32) rfl rfl rfl rfl (g_ff rfl rfl rfl g9) (T_cmp rfl rfl rfl rfl) rfl ?_
                      refine k_op0 (d := 55) (b := 753) (j' := 33) rfl rfl rfl rfl (.plain rfl) (T_pick_f rfl rfl rfl g9) rfl ?_
                      refine k_done rfl ?_
                      refine thenK_n ?_
                      refine ⟨(), by (try dsimp only); omega, ?_⟩
                      exact ⟨[(1, 1), (2, 209)], .eq rfl (.eq rfl (.eq rfl (.same rfl rfl (.same rfl rfl (.eq rfl (.nil) (by first | rfl | (rw [setsOp_t (by omega)]; done) | (rw [setsT_ge (by assumption)]; done) | (by_cases h8 : t.op = 8; (rw [setsOp_t (by omega)]; simp [cmpB, h8]); (rw [setsOp_f (by omega)]; simp [cmpB, h8])))))) (by first | rfl | (rw [setsOp_t (by omega)]; done) | (rw [setsT_ge (by assumption)]; done) | (by_cases h8 : t.op = 8; (rw [setsOp_t (by omega)]; simp [cmpB, h8]); (rw [setsOp_f (by omega)]; simp [cmpB, h8])))) (by first | rfl | (rw [setsOp_t (by omega)]; done) | (rw [setsT_ge (by assumption)]; done) | (by_cases h8 : t.op = 8; (rw [setsOp_t (by omega)]; simp [cmpB, h8]); (rw [setsOp_f (by omega)]; simp [cmpB, h8])))) (by first | rfl | (rw [setsOp_t (by omega)]; done) | (rw [setsT_ge (by assumption)]; done) | (by_cases h8 : t.op = 8; (rw [setsOp_t (by omega)]; simp [cmpB, h8]); (rw [setsOp_f (by omega)]; simp [cmpB, h8]))), .box (by first | rfl | (rw [setsOp_t (by omega)]; done) | (rw [setsT_ge (by assumption)]; done) | (by_cases h8 : t.op = 8; (rw [setsOp_t (by omega)]; simp [cmpB, h8]); (rw [setsOp_f (by omega)]; simp [cmpB, h8]))) (.box (by first | rfl | (rw [setsOp_t (by omega)]; done) | (rw [setsT_ge (by assumption)]; done) | (by_cases h8 : t.op = 8; (rw [setsOp_t (by omega)]; simp [cmpB, h8]); (rw [setsOp_f (by omega)]; simp [cmpB, h8]))) (.nil)), rfl⟩
        refine W_cond rfl (fun g10 => ?_) (fun g10 => ?_)
        · have h10 := g10; (try simp only [cmpB, decide_eq_true_eq, decide_eq_false_iff_not, beq_iff_eq, beq_eq_false_iff_ne, bne_iff_ne, ne_eq, bne_eq_false_iff_eq, Bool.not_eq_true', Bool.not_eq_false', Int.not_lt, Int.not_le] at h10)
          refine W_seq ?_
          refine W_seqK (b' := 67) rfl rfl ?_
          refine k_op0 (d := 56) (b := 3) (j' := 1) rfl rfl rfl rfl (.plain rfl) (T_fa D (m := 1) rfl rfl rfl rfl rfl rfl) rfl ?_
          refine k_op0 (d := 57) (b := 19) (j' := 2) rfl rfl rfl rfl (.plain rfl) (T_load_b D rfl rfl rfl rfl rfl rfl) rfl ?_
          refine k_op0 (d := 58) (b := 35) (j' := 3) rfl rfl rfl rfl (.plain rfl) (T_fa D (m := 1) rfl rfl rfl rfl rfl rfl) rfl ?_
          refine k_st1 (b := 51) (j' := 4) rfl rfl rfl rfl (.plain rfl) (T_stB D (cs' := [_, _, _, _, _, _, _, _]) rfl rfl rfl rfl (flat_v rfl) rfl rfl (Nat.le_of_ble_eq_true rfl) rfl) rfl ?_
          refine k_done rfl ?_
          refine thenK_n ?_
          refine W_seq ?_
          refine W_seqK (b' := 147) rfl rfl ?_
          refine k_op0 (d := 59) (b := 67) (j' := 1) rfl rfl rfl rfl (.plain rfl) (T_fa D (m := 1) rfl rfl rfl rfl rfl rfl) rfl ?_
          refine k_op0 (d := 60) (b := 83) (j' := 2) rfl rfl rfl rfl (.plain rfl) (T_load_b D rfl rfl rfl rfl rfl rfl) rfl ?_
          refine k_op0 (d := 61) (b := 99) (j' := 3) rfl rfl rfl rfl (.plain rfl) (T_move rfl rfl) rfl ?_
          refine k_op0 (d := 62) (b := 115) (j' := 4) rfl rfl rfl rfl (.plain rfl) (T_callV (lvs := [_, _]) (L := []) (within_spec _ _) body125 rfl rfl rfl rfl (.nil) rfl) rfl ?_
          refine k_op0 (d := 63) (b := 131) (j' := 5) rfl rfl rfl rfl (.plain rfl) (T_not rfl rfl) rfl ?_
          refine k_done rfl ?_
          refine thenK_n ?_
          refine W_cond rfl (fun g11 => ?_) (fun g11 => ?_)
          · have h11 := g11; (try simp only [cmpB, decide_eq_true_eq, decide_eq_false_iff_not, beq_iff_eq, beq_eq_false_iff_ne, bne_iff_ne, ne_eq, bne_eq_false_iff_eq, Bool.not_eq_true', Bool.not_eq_false', Int.not_lt, Int.not_le] at h11)
            refine W_seq ?_
            refine W_seqK (b' := 163) rfl rfl ?_
            refine k_op0 (d := 8) (b := 147) (j' := 1) rfl rfl rfl rfl (.plain rfl) (T_assign rfl rfl) rfl ?_
            refine k_done rfl ?_
            refine thenK_n ?_
            refine W_ret ?_
            refine thenK_r ?_
            -- end 2
            exact .mk [] (.inr rfl) (.tmp rfl (.nil)) (by first | rfl | (simp only [resLV, LV.ren, LV.v.injEq, Value.bool.injEq]; refine fits_no (fun hF => ?_); obtain ⟨a1, a2, a3, a4, a5, a6, a7, a8⟩ := hF; first | omega | (have k4 := a4 (by omega); omega) | (have k6 := a6 (by omega); omega) | exact absurd ((a2 (by assumption)).symm.trans (by assumption : _ = false)) (by decide) | exact absurd ((a5 (by omega)).symm.trans (by assumption : _ = false)) (by decide) | exact absurd ((a7 (by omega)).symm.trans (by assumption : _ = false)) (by decide) | exact absurd ((a3 _ (getD_mem (i := j) (by omega))).symm.trans (by assumption : _ = false)) (by decide)) | (simp only [resLV, LV.ren, LV.v.injEq, Value.bool.injEq]; exact fits_fin hj18 (fun _ => by omega) (fun _ => by first | assumption | (exfalso; omega)) (fun _ => by omega) (fun _ => by first | assumption | (exfalso; omega)) (by first | exact (if_pos (by omega)).symm | exact (if_neg (by omega)).symm) (by first | exact (if_pos (by omega)).symm | exact (if_neg (by omega)).symm) (by first | exact (if_pos (by omega)).symm | exact (if_neg (by omega)).symm) (by first | exact (if_pos (by omega)).symm | exact (if_neg (by omega)).symm))) (.nil) rfl
          · have h11 := g11; (try simp only [cmpB, decide_eq_true_eq, decide_eq_false_iff_not, beq_iff_eq, beq_eq_false_iff_ne, bne_iff_ne, ne_eq, bne_eq_false_iff_eq, Bool.not_eq_true', Bool.not_eq_false', Int.not_lt, Int.not_le] at h11)
            refine W_skip ?_
            refine thenK_n ?_
            refine ⟨(), by (try dsimp only); exact ⟨hj5, fun hs => by first | assumption | exact absurd (hs.symm.trans (by assumption : _ = false)) (by decide)⟩, ?_⟩
            exact ⟨[(1, 1), (2, 2)], .eq rfl (.eq rfl (.eq rfl (.same rfl rfl (.same rfl rfl (.nil))) (by first | rfl | (rw [if_pos (by assumption)]; first | done | rfl) | (rw [if_neg (fun hs => absurd (hs.symm.trans (by assumption : _ = false)) (by decide))]; first | done | rfl))) (by first | rfl | (rw [if_pos (by assumption)]; first | done | rfl) | (rw [if_neg (fun hs => absurd (hs.symm.trans (by assumption : _ = false)) (by decide))]; first | done | rfl))) (by first | rfl | (rw [if_pos (by assumption)]; first | done | rfl) | (rw [if_neg (fun hs => absurd (hs.symm.trans (by assumption : _ = false)) (by decide))]; first | done | rfl)), .box (by first | rfl | (rw [if_pos (by assumption)]; first | done | rfl) | (rw [if_neg (fun hs => absurd (hs.symm.trans (by assumption : _ = false)) (by decide))]; first | done | rfl)) (.box (by first | rfl | (rw [if_pos (by assumption)]; first | done | rfl) | (rw [if_neg (fun hs => absurd (hs.symm.trans (by assumption : _ = false)) (by decide))]; first | done | rfl)) (.nil)), rfl⟩
        · have h10 := g10; (try simp only [cmpB, decide_eq_true_eq, decide_eq_false_iff_not, beq_iff_eq, beq_eq_false_iff_ne, bne_iff_ne, ne_eq, bne_eq_false_iff_eq, Bool.not_eq_true', Bool.not_eq_false', Int.not_lt, Int.not_le] at h10)
          refine W_skip ?_
          refine thenK_n ?_
          refine ⟨(), by (try dsimp only); exact ⟨hj5, fun hs => by first | assumption | exact absurd (hs.symm.trans (by assumption : _ = false)) (by decide)⟩, ?_⟩
          exact ⟨[(1, 1), (2, 2)], .eq rfl (.eq rfl (.eq rfl (.same rfl rfl (.same rfl rfl (.nil))) (by first | rfl | (rw [if_pos (by assumption)]; first | done | rfl) | (rw [if_neg (fun hs => absurd (hs.symm.trans (by assumption : _ = false)) (by decide))]; first | done | rfl))) (by first | rfl | (rw [if_pos (by assumption)]; first | done | rfl) | (rw [if_neg (fun hs => absurd (hs.symm.trans (by assumption : _ = false)) (by decide))]; first | done | rfl))) (by first | rfl | (rw [if_pos (by assumption)]; first | done | rfl) | (rw [if_neg (fun hs => absurd (hs.symm.trans (by assumption : _ = false)) (by decide))]; first | done | rfl)), .box (by first | rfl | (rw [if_pos (by assumption)]; first | done | rfl) | (rw [if_neg (fun hs => absurd (hs.symm.trans (by assumption : _ = false)) (by decide))]; first | done | rfl)) (.box (by first | rfl | (rw [if_pos (by assumption)]; first | done | rfl) | (rw [if_neg (fun hs => absurd (hs.symm.trans (by assumption : _ = false)) (by decide))]; first | done | rfl)) (.nil)), rfl⟩
      refine W_seq ?_
      refine W_seqK (b' := 51) rfl rfl ?_
      refine k_op0 (d := 64) (b := 3) (j' := 1) rfl rfl rfl rfl (.plain rfl) (T_load_bA D (l := [_, _, _, _, _, _, _, _]) rfl rfl rfl rfl rfl rfl rfl) rfl ?_
      refine k_op1 (d := 65) (b := 19) (j' := 2) rfl rfl rfl rfl (.plain rfl) (T_callR (lvs := [_]) (L := []) (keep := false) (uses_spec _) body60 rfl rfl rfl rfl (.nil) rfl (.inl rfl) rfl) rfl ?_
      refine k_op0 (d := 10) (b := 35) (j' := 3) rfl rfl rfl rfl (.plain rfl) (T_assign rfl rfl) rfl ?_
      refine k_done rfl ?_
      refine thenK_n ?_
      refine W_seq ?_
      refine W_seq ?_
      refine W_seqK (b' := 67) rfl rfl ?_
      refine k_op0 (d := 11) (b := 51) (j' := 1) rfl rfl rfl rfl (.plain rfl) (T_assign rfl rfl) rfl ?_
      refine k_done rfl ?_
      refine thenK_n ?_
      refine W_block ?_
      refine W_loop (ι := Nat) 4 (fun j => ⟨[(1, .v (.int .i64 f)), (2, .v (.int .i64 regs)), (3, .v (.int .i64 words)), (4, .p 1 0), (9, .p 2 0), (10, .r 3), (11, .v (.int .i64 (j : Int)))], [(1, .box 70 [.v (.int .i64 t.op), .v (.int .i64 t.d), .v (.int .i64 t.a), .v (.int .i64 t.b), .v (.int .i64 t.k), .v (.int .i64 t.base), .v (.int .i64 t.size), .v (.int .u32 t.n)]), (2, .box 70 [.v (.int .i64 t.op), .v (.int .i64 (if setsOp t.op = true then t.d else 0)), .v (.int .i64 0), .v (.int .i64 0), .v (.int .i64 0), .v (.int .i64 0), .v (.int .i64 0), .v (.int .u32 0)]), (3, .row 3 1 ((usesT t).map eI))]⟩) (fun j => j ≤ (usesT t).length ∧ ∀ i, i < j → withinB ((usesT t).getD i default) regs = true) (fun j => (usesT t).length - j) (0) (by exact ⟨Nat.zero_le _, fun i h => absurd h (Nat.not_lt_zero _)⟩) ?_ (fun j hJ => ?_)
      · exact ⟨[(1, 1), (2, 2), (3, 19)], .eq rfl (.eq rfl (.eq rfl (.same rfl rfl (.same rfl rfl (.same rfl rfl (.eq rfl (.nil) (by first | rfl | simp))))) (by first | rfl | simp)) (by first | rfl | simp)) (by first | rfl | simp), .box (by first | rfl | simp) (.box (by first | rfl | simp) (.rowE rfl (.nil) (by first | rfl | simp))), rfl⟩
      have hul := usesT_le t
      refine W_seq ?_
      refine W_seq ?_
      refine W_seqK (b' := 68) rfl rfl ?_
      refine k_op0 (d := 66) (b := 4) (j' := 1) rfl rfl rfl rfl (.plain rfl) (T_move rfl rfl) rfl ?_
      refine k_op0 (d := 67) (b := 20) (j' := 2) rfl rfl rfl rfl (.plain rfl) (T_move rfl rfl) rfl ?_
      refine k_op0 (d := 68) (b := 36) (j' := 3) rfl rfl rfl rfl (.plain rfl) (T_len D rfl rfl rfl rfl rfl rfl) rfl ?_
      refine k_op0 (d := 69) (b := 52) (j' := 4) rfl rfl rfl rfl (.plain rfl) (T_cmp rfl rfl rfl rfl) rfl ?_
      refine k_done rfl ?_
      refine thenK_n ?_
      refine W_cond rfl (fun g12 => ?_) (fun g12 => ?_)
      · have h12 := g12; (try simp only [cmpB, decide_eq_true_eq, decide_eq_false_iff_not, beq_iff_eq, beq_eq_false_iff_ne, bne_iff_ne, ne_eq, bne_eq_false_iff_eq, Bool.not_eq_true', Bool.not_eq_false', Int.not_lt, Int.not_le] at h12)
        refine W_skip ?_
        refine thenK_n ?_
        refine W_seq ?_
        refine W_block ?_
        refine W_seq ?_
        refine W_seqK (b' := 180) rfl rfl ?_
        refine k_op0 (d := 72) (b := 68) (j' := 1) rfl rfl rfl rfl (.plain rfl) (T_move rfl rfl) rfl ?_
        refine k_op0 (d := 73) (b := 84) (j' := 2) rfl rfl rfl rfl (.plain rfl) (T_move rfl rfl) rfl ?_
        first | refine k_op0 (d := 74) (b := 100) (j' := 3) rfl rfl rfl rfl (.plain rfl) (T_indexAddr D rfl rfl rfl rfl rfl rfl rfl rfl (by first | assumption | omega | (simp; omega))) rfl ?_ | refine k_op0 (d := 74) (b := 100) (j' := 3) rfl rfl rfl rfl (.plain rfl) (T_indexAddrZ D rfl rfl rfl rfl rfl rfl rfl rfl (by first | assumption | omega | (simp; omega)) (by first | assumption | omega | (simp; omega))) rfl ?_
        refine k_op0 (d := 75) (b := 116) (j' := 4) rfl rfl rfl rfl (.plain rfl) (T_ldE D (lv := .v _) (nn := 0) (upd := []) rfl rfl rfl rfl rfl (by first | assumption | omega | (simp; omega)) rfl rfl rfl rfl) rfl ?_
        refine k_op0 (d := 76) (b := 132) (j' := 5) rfl rfl rfl rfl (.plain rfl) (T_move rfl rfl) rfl ?_
        refine k_op0 (d := 77) (b := 148) (j' := 6) rfl rfl rfl rfl (.plain rfl) (T_callV (lvs := [_, _]) (L := []) (within_spec _ _) body125 rfl rfl rfl rfl (.nil) rfl) rfl ?_
        refine k_op0 (d := 78) (b := 164) (j' := 7) rfl rfl rfl rfl (.plain rfl) (T_not rfl rfl) rfl ?_
        refine k_done rfl ?_
        refine thenK_n ?_
        refine W_cond rfl (fun g13 => ?_) (fun g13 => ?_)
        · have h13 := g13; (try simp only [cmpB, decide_eq_true_eq, decide_eq_false_iff_not, beq_iff_eq, beq_eq_false_iff_ne, bne_iff_ne, ne_eq, bne_eq_false_iff_eq, Bool.not_eq_true', Bool.not_eq_false', Int.not_lt, Int.not_le] at h13)
          refine W_seq ?_
          refine W_seqK (b' := 196) rfl rfl ?_
          refine k_op0 (d := 8) (b := 180) (j' := 1) rfl rfl rfl rfl (.plain rfl) (T_assign rfl rfl) rfl ?_
          refine k_done rfl ?_
          refine thenK_n ?_
          refine W_ret ?_
          refine blockK_r ?_
          refine thenK_r ?_
          refine thenK_r ?_
          refine blockK_r ?_
          refine thenK_r ?_
          -- end 3
          exact .mk [] (.inr rfl) (.tmp rfl (.nil)) (by first | rfl | (simp only [resLV, LV.ren, LV.v.injEq, Value.bool.injEq]; refine fits_no (fun hF => ?_); obtain ⟨a1, a2, a3, a4, a5, a6, a7, a8⟩ := hF; first | omega | (have k4 := a4 (by omega); omega) | (have k6 := a6 (by omega); omega) | exact absurd ((a2 (by assumption)).symm.trans (by assumption : _ = false)) (by decide) | exact absurd ((a5 (by omega)).symm.trans (by assumption : _ = false)) (by decide) | exact absurd ((a7 (by omega)).symm.trans (by assumption : _ = false)) (by decide) | exact absurd ((a3 _ (getD_mem (i := j) (by omega))).symm.trans (by assumption : _ = false)) (by decide)) | (simp only [resLV, LV.ren, LV.v.injEq, Value.bool.injEq]; exact fits_fin hj18 (fun _ => by omega) (fun _ => by first | assumption | (exfalso; omega)) (fun _ => by omega) (fun _ => by first | assumption | (exfalso; omega)) (by first | exact (if_pos (by omega)).symm | exact (if_neg (by omega)).symm) (by first | exact (if_pos (by omega)).symm | exact (if_neg (by omega)).symm) (by first | exact (if_pos (by omega)).symm | exact (if_neg (by omega)).symm) (by first | exact (if_pos (by omega)).symm | exact (if_neg (by omega)).symm))) (.nil) rfl
        · have h13 := g13; (try simp only [cmpB, decide_eq_true_eq, decide_eq_false_iff_not, beq_iff_eq, beq_eq_false_iff_ne, bne_iff_ne, ne_eq, bne_eq_false_iff_eq, Bool.not_eq_true', Bool.not_eq_false', Int.not_lt, Int.not_le] at h13)
          refine W_skip ?_
          refine blockK_n ?_
          refine thenK_n ?_
          refine W_seqK (b' := 228) rfl rfl ?_
          refine k_op0 (d := 70) (b := 180) (j' := 1) rfl rfl rfl rfl (.plain rfl) (T_move rfl rfl) rfl ?_
          refine k_op0 (d := 71) (b := 196) (j' := 2) rfl rfl rfl rfl (.plain rfl) (T_add64 rfl rfl rfl (by first | assumption | omega | (simp; omega))) rfl ?_
          refine k_op0 (d := 11) (b := 212) (j' := 3) rfl rfl rfl rfl (.plain rfl) (T_assign rfl rfl) rfl ?_
          refine k_done rfl ?_
          refine thenK_n ?_
          refine ⟨j + 1, by (try dsimp only); exact ⟨by omega, fun i hi => by rcases Nat.lt_or_ge i j with h | h; exact hJ.2 i h; rw [show i = j by omega]; assumption⟩, by (try dsimp only); omega, ?_⟩
          exact ⟨[(1, 1), (2, 2), (3, 3)], .eq rfl (.eq rfl (.eq rfl (.same rfl rfl (.same rfl rfl (.same rfl rfl (.eq rfl (.nil) (by first | rfl | simp))))) (by first | rfl | simp)) (by first | rfl | simp)) (by first | rfl | simp), .box (by first | rfl | simp) (.box (by first | rfl | simp) (.rowE rfl (.nil) (by first | rfl | simp))), rfl⟩
      · have h12 := g12; (try simp only [cmpB, decide_eq_true_eq, decide_eq_false_iff_not, beq_iff_eq, beq_eq_false_iff_ne, bne_iff_ne, ne_eq, bne_eq_false_iff_eq, Bool.not_eq_true', Bool.not_eq_false', Int.not_lt, Int.not_le] at h12)
        refine W_exit ?_
        refine thenK_e ?_
        refine thenK_e ?_
        refine blockK_hit ?_
        refine thenK_n ?_
        refine W_join (ι := Unit) 4 (fun _u => ⟨[(1, .v (.int .i64 f)), (3, .v (.int .i64 words)), (4, .p 1 0), (9, .p 2 0), (10, .r 3)], [(1, .box 70 [.v (.int .i64 t.op), .v (.int .i64 t.d), .v (.int .i64 t.a), .v (.int .i64 t.b), .v (.int .i64 t.k), .v (.int .i64 t.base), .v (.int .i64 t.size), .v (.int .u32 t.n)]), (2, .box 70 [.v (.int .i64 t.op), .v (.int .i64 (if setsOp t.op = true then t.d else 0)), .v (.int .i64 (if 0 < (usesT t).length then t.a else 0)), .v (.int .i64 0), .v (.int .i64 0), .v (.int .i64 0), .v (.int .i64 0), .v (.int .u32 0)]), (3, .row 3 1 ((usesT t).map eI))]⟩) (fun _ => (1 ≤ t.op ∧ t.op ≤ 10) ∧ (setsOp t.op = true → withinB t.d regs = true) ∧ (∀ u ∈ usesT t, withinB u regs = true)) ?_ (fun _u hj16 => ?_)
        · skip
          refine W_seq ?_
          refine W_seqK (b' := 116) rfl rfl ?_
          refine k_op0 (d := 79) (b := 68) (j' := 1) rfl rfl rfl rfl (.plain rfl) (T_move rfl rfl) rfl ?_
          refine k_op0 (d := 80) (b := 84) (j' := 2) rfl rfl rfl rfl (.plain rfl) (T_len D rfl rfl rfl rfl rfl rfl) rfl ?_
          refine k_op0 (d := 81) (b := 100) (j' := 3) rfl rfl rfl rfl (.plain rfl) (T_cmp rfl rfl rfl rfl) rfl ?_
          refine k_done rfl ?_
          refine thenK_n ?_
          refine W_cond rfl (fun g14 => ?_) (fun g14 => ?_)
          · have h14 := g14; (try simp only [cmpB, decide_eq_true_eq, decide_eq_false_iff_not, beq_iff_eq, beq_eq_false_iff_ne, bne_iff_ne, ne_eq, bne_eq_false_iff_eq, Bool.not_eq_true', Bool.not_eq_false', Int.not_lt, Int.not_le] at h14)
            refine W_seqK (b' := 180) rfl rfl ?_
            refine k_op0 (d := 82) (b := 116) (j' := 1) rfl rfl rfl rfl (.plain rfl) (T_fa D (m := 2) rfl rfl rfl rfl rfl rfl) rfl ?_
            refine k_op0 (d := 83) (b := 132) (j' := 2) rfl rfl rfl rfl (.plain rfl) (T_load_b D rfl rfl rfl rfl rfl rfl) rfl ?_
            refine k_op0 (d := 84) (b := 148) (j' := 3) rfl rfl rfl rfl (.plain rfl) (T_fa D (m := 2) rfl rfl rfl rfl rfl rfl) rfl ?_
            refine k_st1 (b := 164) (j' := 4) rfl rfl rfl rfl (.plain rfl) (T_stB D (cs' := [_, _, _, _, _, _, _, _]) rfl rfl rfl rfl (flat_v rfl) rfl rfl (Nat.le_of_ble_eq_true rfl) rfl) rfl ?_
            refine k_done rfl ?_
            refine thenK_n ?_
            refine ⟨(), by (try dsimp only); exact ⟨hj8.1, hj8.2, fun u hu => by obtain ⟨i, hi, rfl⟩ := mem_getD hu; exact hJ.2 i (by omega)⟩, ?_⟩
            exact ⟨[(1, 1), (2, 2), (3, 3)], .eq rfl (.eq rfl (.same rfl rfl (.same rfl rfl (.same rfl rfl (.nil)))) (by first | rfl | (rw [if_pos (show 0 < (usesT t).length by omega)]; first | done | rfl) | (rw [if_neg (show ¬ 0 < (usesT t).length by omega)]; first | done | rfl))) (by first | rfl | (rw [if_pos (show 0 < (usesT t).length by omega)]; first | done | rfl) | (rw [if_neg (show ¬ 0 < (usesT t).length by omega)]; first | done | rfl)), .box (by first | rfl | (rw [if_pos (show 0 < (usesT t).length by omega)]; first | done | rfl) | (rw [if_neg (show ¬ 0 < (usesT t).length by omega)]; first | done | rfl)) (.box (by first | rfl | (rw [if_pos (show 0 < (usesT t).length by omega)]; first | done | rfl) | (rw [if_neg (show ¬ 0 < (usesT t).length by omega)]; first | done | rfl)) (.rowE rfl (.nil) (by first | rfl | (rw [if_pos (show 0 < (usesT t).length by omega)]; first | done | rfl) | (rw [if_neg (show ¬ 0 < (usesT t).length by omega)]; first | done | rfl)))), rfl⟩
          · have h14 := g14; (try simp only [cmpB, decide_eq_true_eq, decide_eq_false_iff_not, beq_iff_eq, beq_eq_false_iff_ne, bne_iff_ne, ne_eq, bne_eq_false_iff_eq, Bool.not_eq_true', Bool.not_eq_false', Int.not_lt, Int.not_le] at h14)
            refine W_skip ?_
            refine thenK_n ?_
            refine ⟨(), by (try dsimp only); exact ⟨hj8.1, hj8.2, fun u hu => by obtain ⟨i, hi, rfl⟩ := mem_getD hu; exact hJ.2 i (by omega)⟩, ?_⟩
            exact ⟨[(1, 1), (2, 2), (3, 3)], .eq rfl (.eq rfl (.same rfl rfl (.same rfl rfl (.same rfl rfl (.nil)))) (by first | rfl | (rw [if_pos (show 0 < (usesT t).length by omega)]; first | done | rfl) | (rw [if_neg (show ¬ 0 < (usesT t).length by omega)]; first | done | rfl))) (by first | rfl | (rw [if_pos (show 0 < (usesT t).length by omega)]; first | done | rfl) | (rw [if_neg (show ¬ 0 < (usesT t).length by omega)]; first | done | rfl)), .box (by first | rfl | (rw [if_pos (show 0 < (usesT t).length by omega)]; first | done | rfl) | (rw [if_neg (show ¬ 0 < (usesT t).length by omega)]; first | done | rfl)) (.box (by first | rfl | (rw [if_pos (show 0 < (usesT t).length by omega)]; first | done | rfl) | (rw [if_neg (show ¬ 0 < (usesT t).length by omega)]; first | done | rfl)) (.rowE rfl (.nil) (by first | rfl | (rw [if_pos (show 0 < (usesT t).length by omega)]; first | done | rfl) | (rw [if_neg (show ¬ 0 < (usesT t).length by omega)]; first | done | rfl)))), rfl⟩
        refine W_join (ι := Unit) 3 (fun _u => ⟨[(1, .v (.int .i64 f)), (3, .v (.int .i64 words)), (4, .p 1 0), (9, .p 2 0)], [(1, .box 70 [.v (.int .i64 t.op), .v (.int .i64 t.d), .v (.int .i64 t.a), .v (.int .i64 t.b), .v (.int .i64 t.k), .v (.int .i64 t.base), .v (.int .i64 t.size), .v (.int .u32 t.n)]), (2, .box 70 [.v (.int .i64 t.op), .v (.int .i64 (if setsOp t.op = true then t.d else 0)), .v (.int .i64 (if 0 < (usesT t).length then t.a else 0)), .v (.int .i64 (if 1 < (usesT t).length then t.b else 0)), .v (.int .i64 0), .v (.int .i64 0), .v (.int .i64 0), .v (.int .u32 0)])]⟩) (fun _ => (1 ≤ t.op ∧ t.op ≤ 10) ∧ (setsOp t.op = true → withinB t.d regs = true) ∧ (∀ u ∈ usesT t, withinB u regs = true)) ?_ (fun _u hj18 => ?_)
        · skip
          refine W_seq ?_
          refine W_seqK (b' := 52) rfl rfl ?_
          refine k_op0 (d := 85) (b := 4) (j' := 1) rfl rfl rfl rfl (.plain rfl) (T_move rfl rfl) rfl ?_
          refine k_op0 (d := 86) (b := 20) (j' := 2) rfl rfl rfl rfl (.plain rfl) (T_len D rfl rfl rfl rfl rfl rfl) rfl ?_
          refine k_op0 (d := 87) (b := 36) (j' := 3) rfl rfl rfl rfl (.plain rfl) (T_cmp rfl rfl rfl rfl) rfl ?_
          refine k_done rfl ?_
          refine thenK_n ?_
          refine W_cond rfl (fun g15 => ?_) (fun g15 => ?_)
          · have h15 := g15; (try simp only [cmpB, decide_eq_true_eq, decide_eq_false_iff_not, beq_iff_eq, beq_eq_false_iff_ne, bne_iff_ne, ne_eq, bne_eq_false_iff_eq, Bool.not_eq_true', Bool.not_eq_false', Int.not_lt, Int.not_le] at h15)
            refine W_seqK (b' := 116) rfl rfl ?_
            refine k_op0 (d := 88) (b := 52) (j' := 1) rfl rfl rfl rfl (.plain rfl) (T_fa D (m := 3) rfl rfl rfl rfl rfl rfl) rfl ?_
            refine k_op0 (d := 89) (b := 68) (j' := 2) rfl rfl rfl rfl (.plain rfl) (T_load_b D rfl rfl rfl rfl rfl rfl) rfl ?_
            refine k_op0 (d := 90) (b := 84) (j' := 3) rfl rfl rfl rfl (.plain rfl) (T_fa D (m := 3) rfl rfl rfl rfl rfl rfl) rfl ?_
            refine k_st1 (b := 100) (j' := 4) rfl rfl rfl rfl (.plain rfl) (T_stB D (cs' := [_, _, _, _, _, _, _, _]) rfl rfl rfl rfl (flat_v rfl) rfl rfl (Nat.le_of_ble_eq_true rfl) rfl) rfl ?_
            refine k_done rfl ?_
            refine thenK_n ?_
            refine ⟨(), by (try dsimp only); exact hj16, ?_⟩
            exact ⟨[(1, 1), (2, 2)], .eq rfl (.eq rfl (.same rfl rfl (.same rfl rfl (.nil))) (by first | rfl | (rw [if_pos (show 1 < (usesT t).length by omega)]; first | done | rfl) | (rw [if_neg (show ¬ 1 < (usesT t).length by omega)]; first | done | rfl))) (by first | rfl | (rw [if_pos (show 1 < (usesT t).length by omega)]; first | done | rfl) | (rw [if_neg (show ¬ 1 < (usesT t).length by omega)]; first | done | rfl)), .box (by first | rfl | (rw [if_pos (show 1 < (usesT t).length by omega)]; first | done | rfl) | (rw [if_neg (show ¬ 1 < (usesT t).length by omega)]; first | done | rfl)) (.box (by first | rfl | (rw [if_pos (show 1 < (usesT t).length by omega)]; first | done | rfl) | (rw [if_neg (show ¬ 1 < (usesT t).length by omega)]; first | done | rfl)) (.nil)), rfl⟩
          · have h15 := g15; (try simp only [cmpB, decide_eq_true_eq, decide_eq_false_iff_not, beq_iff_eq, beq_eq_false_iff_ne, bne_iff_ne, ne_eq, bne_eq_false_iff_eq, Bool.not_eq_true', Bool.not_eq_false', Int.not_lt, Int.not_le] at h15)
            refine W_skip ?_
            refine thenK_n ?_
            refine ⟨(), by (try dsimp only); exact hj16, ?_⟩
            exact ⟨[(1, 1), (2, 2)], .eq rfl (.eq rfl (.same rfl rfl (.same rfl rfl (.nil))) (by first | rfl | (rw [if_pos (show 1 < (usesT t).length by omega)]; first | done | rfl) | (rw [if_neg (show ¬ 1 < (usesT t).length by omega)]; first | done | rfl))) (by first | rfl | (rw [if_pos (show 1 < (usesT t).length by omega)]; first | done | rfl) | (rw [if_neg (show ¬ 1 < (usesT t).length by omega)]; first | done | rfl)), .box (by first | rfl | (rw [if_pos (show 1 < (usesT t).length by omega)]; first | done | rfl) | (rw [if_neg (show ¬ 1 < (usesT t).length by omega)]; first | done | rfl)) (.box (by first | rfl | (rw [if_pos (show 1 < (usesT t).length by omega)]; first | done | rfl) | (rw [if_neg (show ¬ 1 < (usesT t).length by omega)]; first | done | rfl)) (.nil)), rfl⟩
        refine W_seq ?_
        refine W_seq ?_
        refine W_seqK (b' := 35) rfl rfl ?_
        refine k_op0 (d := 91) (b := 3) (j' := 1) rfl rfl rfl rfl (.plain rfl) (T_fa D (m := 0) rfl rfl rfl rfl rfl rfl) rfl ?_
        refine k_op0 (d := 92) (b := 19) (j' := 2) rfl rfl rfl rfl (.plain rfl) (T_load_b D rfl rfl rfl rfl rfl rfl) rfl ?_
        refine k_done rfl ?_
        refine thenK_n ?_
        refine W_block ?_
        refine W_seq ?_
        refine W_seqK (b' := 67) rfl rfl ?_
        refine k_op0 (d := 94) (b := 35) (j' := 1) rfl rfl rfl rfl (.plain rfl) (T_cmp rfl rfl rfl rfl) rfl ?_
        refine k_op0 (d := 93) (b := 51) (j' := 2) rfl rfl rfl rfl (.plain rfl) (T_assign rfl rfl) rfl ?_
        refine k_done rfl ?_
        refine thenK_n ?_
        refine W_cond rfl (fun g16 => ?_) (fun g16 => ?_)
        · have h16 := g16; (try simp only [cmpB, decide_eq_true_eq, decide_eq_false_iff_not, beq_iff_eq, beq_eq_false_iff_ne, bne_iff_ne, ne_eq, bne_eq_false_iff_eq, Bool.not_eq_true', Bool.not_eq_false', Int.not_lt, Int.not_le] at h16)
          refine W_seqK (b' := 131) rfl rfl ?_
          refine k_op0 (d := 95) (b := 67) (j' := 1) rfl rfl rfl rfl (.plain rfl) (T_fa D (m := 7) rfl rfl rfl rfl rfl rfl) rfl ?_
          refine k_op0 (d := 96) (b := 83) (j' := 2) rfl rfl rfl rfl (.plain rfl) (T_load_b D rfl rfl rfl rfl rfl rfl) rfl ?_
          refine k_op0 (d := 97) (b := 99) (j' := 3) rfl rfl rfl rfl (.plain rfl) (T_fa D (m := 7) rfl rfl rfl rfl rfl rfl) rfl ?_
          refine k_st1 (b := 115) (j' := 4) rfl rfl rfl rfl (.plain rfl) (T_stB D (cs' := [_, _, _, _, _, _, _, _]) rfl rfl rfl rfl (flat_v rfl) rfl rfl (Nat.le_of_ble_eq_true rfl) rfl) rfl ?_
          refine k_done rfl ?_
          refine blockK_n ?_
          refine thenK_n ?_
          refine W_seq ?_
          refine W_seqK (b' := 195) rfl rfl ?_
          refine k_op0 (d := 163) (b := 131) (j' := 1) rfl rfl rfl rfl (.plain rfl) (T_load_bA D (l := [_, _, _, _, _, _, _, _]) rfl rfl rfl rfl rfl rfl rfl) rfl ?_
          refine k_op0 (d := 164) (b := 147) (j' := 2) rfl rfl rfl rfl (.plain rfl) (T_load_bA D (l := [_, _, _, _, _, _, _, _]) rfl rfl rfl rfl rfl rfl rfl) rfl ?_
          refine k_op0 (d := 165) (b := 163) (j' := 3) rfl rfl rfl rfl (.plain rfl) (T_eqTac8 t rfl rfl rfl) rfl ?_
          refine k_op0 (d := 8) (b := 179) (j' := 4) rfl rfl rfl rfl (.plain rfl) (T_assign rfl rfl) rfl ?_
          refine k_done rfl ?_
          refine thenK_n ?_
          refine W_ret ?_
          -- end 4
          exact .mk [] (.inr rfl) (.tmp rfl (.nil)) (by first | rfl | (simp only [resLV, LV.ren, LV.v.injEq, Value.bool.injEq]; refine fits_no (fun hF => ?_); obtain ⟨a1, a2, a3, a4, a5, a6, a7, a8⟩ := hF; first | omega | (have k4 := a4 (by omega); omega) | (have k6 := a6 (by omega); omega) | exact absurd ((a2 (by assumption)).symm.trans (by assumption : _ = false)) (by decide) | exact absurd ((a5 (by omega)).symm.trans (by assumption : _ = false)) (by decide) | exact absurd ((a7 (by omega)).symm.trans (by assumption : _ = false)) (by decide) | exact absurd ((a3 _ (getD_mem (i := j) (by omega))).symm.trans (by assumption : _ = false)) (by decide)) | (simp only [resLV, LV.ren, LV.v.injEq, Value.bool.injEq]; exact fits_fin hj18 (fun _ => by omega) (fun _ => by first | assumption | (exfalso; omega)) (fun _ => by omega) (fun _ => by first | assumption | (exfalso; omega)) (by first | exact (if_pos (by omega)).symm | exact (if_neg (by omega)).symm) (by first | exact (if_pos (by omega)).symm | exact (if_neg (by omega)).symm) (by first | exact (if_pos (by omega)).symm | exact (if_neg (by omega)).symm) (by first | exact (if_pos (by omega)).symm | exact (if_neg (by omega)).symm))) (.nil) rfl
        · have h16 := g16; (try simp only [cmpB, decide_eq_true_eq, decide_eq_false_iff_not, beq_iff_eq, beq_eq_false_iff_ne, bne_iff_ne, ne_eq, bne_eq_false_iff_eq, Bool.not_eq_true', Bool.not_eq_false', Int.not_lt, Int.not_le] at h16)
          refine W_seq ?_
          refine W_seqK (b' := 99) rfl rfl ?_
          refine k_op0 (d := 99) (b := 67) (j' := 1) rfl rfl rfl rfl (.plain rfl) (T_cmp rfl rfl rfl rfl) rfl ?_
          refine k_op0 (d := 98) (b := 83) (j' := 2) rfl rfl rfl rfl (.plain rfl) (T_assign rfl rfl) rfl ?_
          refine k_done rfl ?_
          refine thenK_n ?_
          refine W_cond rfl (fun g17 => ?_) (fun g17 => ?_)
          · have h17 := g17; (try simp only [cmpB, decide_eq_true_eq, decide_eq_false_iff_not, beq_iff_eq, beq_eq_false_iff_ne, bne_iff_ne, ne_eq, bne_eq_false_iff_eq, Bool.not_eq_true', Bool.not_eq_false', Int.not_lt, Int.not_le] at h17)
            refine W_seq ?_
            refine W_seqK (b' := 163) rfl rfl ?_
            refine k_op0 (d := 100) (b := 99) (j' := 1) rfl rfl rfl rfl (.plain rfl) (T_fa D (m := 4) rfl rfl rfl rfl rfl rfl) rfl ?_
            refine k_op0 (d := 101) (b := 115) (j' := 2) rfl rfl rfl rfl (.plain rfl) (T_load_b D rfl rfl rfl rfl rfl rfl) rfl ?_
            refine k_op0 (d := 102) (b := 131) (j' := 3) rfl rfl rfl rfl (.plain rfl) (T_fa D (m := 4) rfl rfl rfl rfl rfl rfl) rfl ?_
            refine k_st1 (b := 147) (j' := 4) rfl rfl rfl rfl (.plain rfl) (T_stB D (cs' := [_, _, _, _, _, _, _, _]) rfl rfl rfl rfl (flat_v rfl) rfl rfl (Nat.le_of_ble_eq_true rfl) rfl) rfl ?_
            refine k_done rfl ?_
            refine thenK_n ?_
            refine W_seq ?_
            refine W_seqK (b' := 291) rfl rfl ?_
            refine k_op0 (d := 103) (b := 163) (j' := 1) rfl rfl rfl rfl (.plain rfl) (T_fa D (m := 4) rfl rfl rfl rfl rfl rfl) rfl ?_
            refine k_op0 (d := 104) (b := 179) (j' := 2) rfl rfl rfl rfl (.plain rfl) (T_load_b D rfl rfl rfl rfl rfl rfl) rfl ?_
            refine k_op0 (d := 105) (b := 195) (j' := 3) rfl rfl rfl rfl (.plain rfl) (T_cmp rfl rfl rfl rfl) rfl ?_
            refine k_op0 (d := 106) (b := 211) (j' := 4) rfl rfl rfl rfl (.plain rfl) (T_move rfl rfl) rfl ?_
            refine k_split (d := 106) rfl (fun g18 => ?_) (fun g18 => ?_)
            · have h18 := g18; (try simp only [cmpB, decide_eq_true_eq, decide_eq_false_iff_not, beq_iff_eq, beq_eq_false_iff_ne, bne_iff_ne, ne_eq, bne_eq_false_iff_eq, Bool.not_eq_true', Bool.not_eq_false', Int.not_lt, Int.not_le] at h18)
              refine k_no (d := 107) (j' := 5) rfl rfl rfl (g_ft rfl rfl rfl g18) ?_
              refine k_no (d := 108) (j' := 6) rfl rfl rfl (g_ft rfl rfl rfl g18) ?_
              refine k_no (d := 109) (j' := 7) rfl rfl rfl (g_ft rfl rfl rfl g18) ?_
              refine k_op0 (d := 110) (b := 275) (j' := 8) rfl rfl rfl rfl (.plain rfl) (T_pick_t rfl rfl rfl g18) rfl ?_
              refine k_done rfl ?_
              refine thenK_n ?_
              refine W_cond rfl (fun g19 => ?_) (fun g19 => ?_)
              · skip
                refine W_seq ?_
                refine W_seqK (b' := 307) rfl rfl ?_
                refine k_op0 (d := 8) (b := 291) (j' := 1) rfl rfl rfl rfl (.plain rfl) (T_assign rfl rfl) rfl ?_
                refine k_done rfl ?_
                refine thenK_n ?_
                refine W_ret ?_
                refine blockK_r ?_
                refine thenK_r ?_
                -- end 5
                exact .mk [] (.inr rfl) (.tmp rfl (.nil)) (by first | rfl | (simp only [resLV, LV.ren, LV.v.injEq, Value.bool.injEq]; refine fits_no (fun hF => ?_); obtain ⟨a1, a2, a3, a4, a5, a6, a7, a8⟩ := hF; first | omega | (have k4 := a4 (by omega); omega) | (have k6 := a6 (by omega); omega) | exact absurd ((a2 (by assumption)).symm.trans (by assumption : _ = false)) (by decide) | exact absurd ((a5 (by omega)).symm.trans (by assumption : _ = false)) (by decide) | exact absurd ((a7 (by omega)).symm.trans (by assumption : _ = false)) (by decide) | exact absurd ((a3 _ (getD_mem (i := j) (by omega))).symm.trans (by assumption : _ = false)) (by decide)) | (simp only [resLV, LV.ren, LV.v.injEq, Value.bool.injEq]; exact fits_fin hj18 (fun _ => by omega) (fun _ => by first | assumption | (exfalso; omega)) (fun _ => by omega) (fun _ => by first | assumption | (exfalso; omega)) (by first | exact (if_pos (by omega)).symm | exact (if_neg (by omega)).symm) (by first | exact (if_pos (by omega)).symm | exact (if_neg (by omega)).symm) (by first | exact (if_pos (by omega)).symm | exact (if_neg (by omega)).symm) (by first | exact (if_pos (by omega)).symm | exact (if_neg (by omega)).symm))) (.nil) rfl
              · exact absurd (g19.symm.trans rfl) (by decide)
            · have h18 := g18; (try simp only [cmpB, decide_eq_true_eq, decide_eq_false_iff_not, beq_iff_eq, beq_eq_false_iff_ne, bne_iff_ne, ne_eq, bne_eq_false_iff_eq, Bool.not_eq_true', Bool.not_eq_false', Int.not_lt, Int.not_le] at h18)
              refine k_op0 (d := 107) (b := 227) (j' := 5) rfl rfl rfl rfl (g_ff rfl rfl rfl g18) (T_fa D (m := 4) rfl rfl rfl rfl rfl rfl) rfl ?_
              refine k_op0 (d := 108) (b := 243) (j' := 6) rfl rfl rfl rfl (g_ff rfl rfl rfl g18) (T_load_b D rfl rfl rfl rfl rfl rfl) rfl ?_
              refine k_op0 (d := 109) (b := 259) (j' := 7) rfl rfl rfl rfl (g_ff rfl rfl rfl g18) (T_cmp rfl rfl rfl rfl) rfl ?_
              refine k_op0 (d := 110) (b := 275) (j' := 8) rfl rfl rfl rfl (.plain rfl) (T_pick_f rfl rfl rfl g18) rfl ?_
              refine k_done rfl ?_
              refine thenK_n ?_
              refine W_cond rfl (fun g20 => ?_) (fun g20 => ?_)
              · have h20 := g20; (try simp only [cmpB, decide_eq_true_eq, decide_eq_false_iff_not, beq_iff_eq, beq_eq_false_iff_ne, bne_iff_ne, ne_eq, bne_eq_false_iff_eq, Bool.not_eq_true', Bool.not_eq_false', Int.not_lt, Int.not_le] at h20)
                refine W_seq ?_
                refine W_seqK (b' := 307) rfl rfl ?_
                refine k_op0 (d := 8) (b := 291) (j' := 1) rfl rfl rfl rfl (.plain rfl) (T_assign rfl rfl) rfl ?_
                refine k_done rfl ?_
                refine thenK_n ?_
                refine W_ret ?_
                refine blockK_r ?_
                refine thenK_r ?_
                -- end 6
                exact .mk [] (.inr rfl) (.tmp rfl (.nil)) (by first | rfl | (simp only [resLV, LV.ren, LV.v.injEq, Value.bool.injEq]; refine fits_no (fun hF => ?_); obtain ⟨a1, a2, a3, a4, a5, a6, a7, a8⟩ := hF; first | omega | (have k4 := a4 (by omega); omega) | (have k6 := a6 (by omega); omega) | exact absurd ((a2 (by assumption)).symm.trans (by assumption : _ = false)) (by decide) | exact absurd ((a5 (by omega)).symm.trans (by assumption : _ = false)) (by decide) | exact absurd ((a7 (by omega)).symm.trans (by assumption : _ = false)) (by decide) | exact absurd ((a3 _ (getD_mem (i := j) (by omega))).symm.trans (by assumption : _ = false)) (by decide)) | (simp only [resLV, LV.ren, LV.v.injEq, Value.bool.injEq]; exact fits_fin hj18 (fun _ => by omega) (fun _ => by first | assumption | (exfalso; omega)) (fun _ => by omega) (fun _ => by first | assumption | (exfalso; omega)) (by first | exact (if_pos (by omega)).symm | exact (if_neg (by omega)).symm) (by first | exact (if_pos (by omega)).symm | exact (if_neg (by omega)).symm) (by first | exact (if_pos (by omega)).symm | exact (if_neg (by omega)).symm) (by first | exact (if_pos (by omega)).symm | exact (if_neg (by omega)).symm))) (.nil) rfl
              · have h20 := g20; (try simp only [cmpB, decide_eq_true_eq, decide_eq_false_iff_not, beq_iff_eq, beq_eq_false_iff_ne, bne_iff_ne, ne_eq, bne_eq_false_iff_eq, Bool.not_eq_true', Bool.not_eq_false', Int.not_lt, Int.not_le] at h20)
                refine W_skip ?_
                refine blockK_n ?_
                refine thenK_n ?_
                refine W_seq ?_
                refine W_seqK (b' := 355) rfl rfl ?_
                refine k_op0 (d := 163) (b := 291) (j' := 1) rfl rfl rfl rfl (.plain rfl) (T_load_bA D (l := [_, _, _, _, _, _, _, _]) rfl rfl rfl rfl rfl rfl rfl) rfl ?_
                refine k_op0 (d := 164) (b := 307) (j' := 2) rfl rfl rfl rfl (.plain rfl) (T_load_bA D (l := [_, _, _, _, _, _, _, _]) rfl rfl rfl rfl rfl rfl rfl) rfl ?_
                refine k_op0 (d := 165) (b := 323) (j' := 3) rfl rfl rfl rfl (.plain rfl) (T_eqTac8 t rfl rfl rfl) rfl ?_
                refine k_op0 (d := 8) (b := 339) (j' := 4) rfl rfl rfl rfl (.plain rfl) (T_assign rfl rfl) rfl ?_
                refine k_done rfl ?_
                refine thenK_n ?_
                refine W_ret ?_
                -- end 7
                exact .mk [] (.inr rfl) (.tmp rfl (.nil)) (by first | rfl | (simp only [resLV, LV.ren, LV.v.injEq, Value.bool.injEq]; refine fits_no (fun hF => ?_); obtain ⟨a1, a2, a3, a4, a5, a6, a7, a8⟩ := hF; first | omega | (have k4 := a4 (by omega); omega) | (have k6 := a6 (by omega); omega) | exact absurd ((a2 (by assumption)).symm.trans (by assumption : _ = false)) (by decide) | exact absurd ((a5 (by omega)).symm.trans (by assumption : _ = false)) (by decide) | exact absurd ((a7 (by omega)).symm.trans (by assumption : _ = false)) (by decide) | exact absurd ((a3 _ (getD_mem (i := j) (by omega))).symm.trans (by assumption : _ = false)) (by decide)) | (simp only [resLV, LV.ren, LV.v.injEq, Value.bool.injEq]; exact fits_fin hj18 (fun _ => by omega) (fun _ => by first | assumption | (exfalso; omega)) (fun _ => by omega) (fun _ => by first | assumption | (exfalso; omega)) (by first | exact (if_pos (by omega)).symm | exact (if_neg (by omega)).symm) (by first | exact (if_pos (by omega)).symm | exact (if_neg (by omega)).symm) (by first | exact (if_pos (by omega)).symm | exact (if_neg (by omega)).symm) (by first | exact (if_pos (by omega)).symm | exact (if_neg (by omega)).symm))) (.nil) rfl
          · have h17 := g17; (try simp only [cmpB, decide_eq_true_eq, decide_eq_false_iff_not, beq_iff_eq, beq_eq_false_iff_ne, bne_iff_ne, ne_eq, bne_eq_false_iff_eq, Bool.not_eq_true', Bool.not_eq_false', Int.not_lt, Int.not_le] at h17)
            refine W_seq ?_
            refine W_seq ?_
            refine W_seqK (b' := 131) rfl rfl ?_
            refine k_op0 (d := 112) (b := 99) (j' := 1) rfl rfl rfl rfl (.plain rfl) (T_cmp rfl rfl rfl rfl) rfl ?_
            refine k_op0 (d := 111) (b := 115) (j' := 2) rfl rfl rfl rfl (.plain rfl) (T_assign rfl rfl) rfl ?_
            refine k_done rfl ?_
            refine thenK_n ?_
            refine W_cond rfl (fun g21 => ?_) (fun g21 => ?_)
            · have h21 := g21; (try simp only [cmpB, decide_eq_true_eq, decide_eq_false_iff_not, beq_iff_eq, beq_eq_false_iff_ne, bne_iff_ne, ne_eq, bne_eq_false_iff_eq, Bool.not_eq_true', Bool.not_eq_false', Int.not_lt, Int.not_le] at h21)
              refine W_skip ?_
              refine thenK_n ?_
              refine W_cond rfl (fun g22 => ?_) (fun g22 => ?_)
              · skip
                refine W_seq ?_
                refine W_seqK (b' := 195) rfl rfl ?_
                refine k_op0 (d := 114) (b := 131) (j' := 1) rfl rfl rfl rfl (.plain rfl) (T_fa D (m := 5) rfl rfl rfl rfl rfl rfl) rfl ?_
                refine k_op0 (d := 115) (b := 147) (j' := 2) rfl rfl rfl rfl (.plain rfl) (T_load_b D rfl rfl rfl rfl rfl rfl) rfl ?_
                refine k_op0 (d := 116) (b := 163) (j' := 3) rfl rfl rfl rfl (.plain rfl) (T_fa D (m := 5) rfl rfl rfl rfl rfl rfl) rfl ?_
                refine k_st1 (b := 179) (j' := 4) rfl rfl rfl rfl (.plain rfl) (T_stB D (cs' := [_, _, _, _, _, _, _, _]) rfl rfl rfl rfl (flat_v rfl) rfl rfl (Nat.le_of_ble_eq_true rfl) rfl) rfl ?_
                refine k_done rfl ?_
                refine thenK_n ?_
                refine W_seq ?_
                refine W_seqK (b' := 275) rfl rfl ?_
                refine k_op0 (d := 117) (b := 195) (j' := 1) rfl rfl rfl rfl (.plain rfl) (T_fa D (m := 5) rfl rfl rfl rfl rfl rfl) rfl ?_
                refine k_op0 (d := 118) (b := 211) (j' := 2) rfl rfl rfl rfl (.plain rfl) (T_load_b D rfl rfl rfl rfl rfl rfl) rfl ?_
                refine k_op0 (d := 119) (b := 227) (j' := 3) rfl rfl rfl rfl (.plain rfl) (T_move rfl rfl) rfl ?_
                refine k_op0 (d := 120) (b := 243) (j' := 4) rfl rfl rfl rfl (.plain rfl) (T_callV (lvs := [_, _]) (L := []) (within_spec _ _) body125 rfl rfl rfl rfl (.nil) rfl) rfl ?_
                refine k_op0 (d := 121) (b := 259) (j' := 5) rfl rfl rfl rfl (.plain rfl) (T_not rfl rfl) rfl ?_
                refine k_done rfl ?_
                refine thenK_n ?_
                refine W_cond rfl (fun g23 => ?_) (fun g23 => ?_)
                · have h23 := g23; (try simp only [cmpB, decide_eq_true_eq, decide_eq_false_iff_not, beq_iff_eq, beq_eq_false_iff_ne, bne_iff_ne, ne_eq, bne_eq_false_iff_eq, Bool.not_eq_true', Bool.not_eq_false', Int.not_lt, Int.not_le] at h23)
                  refine W_seq ?_
                  refine W_seqK (b' := 291) rfl rfl ?_
                  refine k_op0 (d := 8) (b := 275) (j' := 1) rfl rfl rfl rfl (.plain rfl) (T_assign rfl rfl) rfl ?_
                  refine k_done rfl ?_
                  refine thenK_n ?_
                  refine W_ret ?_
                  refine blockK_r ?_
                  refine thenK_r ?_
                  -- end 8
                  exact .mk [] (.inr rfl) (.tmp rfl (.nil)) (by first | rfl | (simp only [resLV, LV.ren, LV.v.injEq, Value.bool.injEq]; refine fits_no (fun hF => ?_); obtain ⟨a1, a2, a3, a4, a5, a6, a7, a8⟩ := hF; first | omega | (have k4 := a4 (by omega); omega) | (have k6 := a6 (by omega); omega) | exact absurd ((a2 (by assumption)).symm.trans (by assumption : _ = false)) (by decide) | exact absurd ((a5 (by omega)).symm.trans (by assumption : _ = false)) (by decide) | exact absurd ((a7 (by omega)).symm.trans (by assumption : _ = false)) (by decide) | exact absurd ((a3 _ (getD_mem (i := j) (by omega))).symm.trans (by assumption : _ = false)) (by decide)) | (simp only [resLV, LV.ren, LV.v.injEq, Value.bool.injEq]; exact fits_fin hj18 (fun _ => by omega) (fun _ => by first | assumption | (exfalso; omega)) (fun _ => by omega) (fun _ => by first | assumption | (exfalso; omega)) (by first | exact (if_pos (by omega)).symm | exact (if_neg (by omega)).symm) (by first | exact (if_pos (by omega)).symm | exact (if_neg (by omega)).symm) (by first | exact (if_pos (by omega)).symm | exact (if_neg (by omega)).symm) (by first | exact (if_pos (by omega)).symm | exact (if_neg (by omega)).symm))) (.nil) rfl
                · have h23 := g23; (try simp only [cmpB, decide_eq_true_eq, decide_eq_false_iff_not, beq_iff_eq, beq_eq_false_iff_ne, bne_iff_ne, ne_eq, bne_eq_false_iff_eq, Bool.not_eq_true', Bool.not_eq_false', Int.not_lt, Int.not_le] at h23)
                  refine W_skip ?_
                  refine blockK_n ?_
                  refine thenK_n ?_
                  refine W_seq ?_
                  refine W_seqK (b' := 339) rfl rfl ?_
                  refine k_op0 (d := 163) (b := 275) (j' := 1) rfl rfl rfl rfl (.plain rfl) (T_load_bA D (l := [_, _, _, _, _, _, _, _]) rfl rfl rfl rfl rfl rfl rfl) rfl ?_
                  refine k_op0 (d := 164) (b := 291) (j' := 2) rfl rfl rfl rfl (.plain rfl) (T_load_bA D (l := [_, _, _, _, _, _, _, _]) rfl rfl rfl rfl rfl rfl rfl) rfl ?_
                  refine k_op0 (d := 165) (b := 307) (j' := 3) rfl rfl rfl rfl (.plain rfl) (T_eqTac8 t rfl rfl rfl) rfl ?_
                  refine k_op0 (d := 8) (b := 323) (j' := 4) rfl rfl rfl rfl (.plain rfl) (T_assign rfl rfl) rfl ?_
                  refine k_done rfl ?_
                  refine thenK_n ?_
                  refine W_ret ?_
                  -- end 9
                  exact .mk [] (.inr rfl) (.tmp rfl (.nil)) (by first | rfl | (simp only [resLV, LV.ren, LV.v.injEq, Value.bool.injEq]; refine fits_no (fun hF => ?_); obtain ⟨a1, a2, a3, a4, a5, a6, a7, a8⟩ := hF; first | omega | (have k4 := a4 (by omega); omega) | (have k6 := a6 (by omega); omega) | exact absurd ((a2 (by assumption)).symm.trans (by assumption : _ = false)) (by decide) | exact absurd ((a5 (by omega)).symm.trans (by assumption : _ = false)) (by decide) | exact absurd ((a7 (by omega)).symm.trans (by assumption : _ = false)) (by decide) | exact absurd ((a3 _ (getD_mem (i := j) (by omega))).symm.trans (by assumption : _ = false)) (by decide)) | (simp only [resLV, LV.ren, LV.v.injEq, Value.bool.injEq]; exact fits_fin hj18 (fun _ => by omega) (fun _ => by first | assumption | (exfalso; omega)) (fun _ => by omega) (fun _ => by first | assumption | (exfalso; omega)) (by first | exact (if_pos (by omega)).symm | exact (if_neg (by omega)).symm) (by first | exact (if_pos (by omega)).symm | exact (if_neg (by omega)).symm) (by first | exact (if_pos (by omega)).symm | exact (if_neg (by omega)).symm) (by first | exact (if_pos (by omega)).symm | exact (if_neg (by omega)).symm))) (.nil) rfl
              · exact absurd (g22.symm.trans g21) (by decide)
            · have h21 := g21; (try simp only [cmpB, decide_eq_true_eq, decide_eq_false_iff_not, beq_iff_eq, beq_eq_false_iff_ne, bne_iff_ne, ne_eq, bne_eq_false_iff_eq, Bool.not_eq_true', Bool.not_eq_false', Int.not_lt, Int.not_le] at h21)
              refine W_seqK (b' := 163) rfl rfl ?_
              refine k_op0 (d := 113) (b := 131) (j' := 1) rfl rfl rfl rfl (.plain rfl) (T_cmp rfl rfl rfl rfl) rfl ?_
              refine k_op0 (d := 111) (b := 147) (j' := 2) rfl rfl rfl rfl (.plain rfl) (T_assign rfl rfl) rfl ?_
              refine k_done rfl ?_
              refine thenK_n ?_
              refine W_cond rfl (fun g24 => ?_) (fun g24 => ?_)
              · have h24 := g24; (try simp only [cmpB, decide_eq_true_eq, decide_eq_false_iff_not, beq_iff_eq, beq_eq_false_iff_ne, bne_iff_ne, ne_eq, bne_eq_false_iff_eq, Bool.not_eq_true', Bool.not_eq_false', Int.not_lt, Int.not_le] at h24)
                refine W_seq ?_
                refine W_seqK (b' := 227) rfl rfl ?_
                refine k_op0 (d := 114) (b := 163) (j' := 1) rfl rfl rfl rfl (.plain rfl) (T_fa D (m := 5) rfl rfl rfl rfl rfl rfl) rfl ?_
                refine k_op0 (d := 115) (b := 179) (j' := 2) rfl rfl rfl rfl (.plain rfl) (T_load_b D rfl rfl rfl rfl rfl rfl) rfl ?_
                refine k_op0 (d := 116) (b := 195) (j' := 3) rfl rfl rfl rfl (.plain rfl) (T_fa D (m := 5) rfl rfl rfl rfl rfl rfl) rfl ?_
                refine k_st1 (b := 211) (j' := 4) rfl rfl rfl rfl (.plain rfl) (T_stB D (cs' := [_, _, _, _, _, _, _, _]) rfl rfl rfl rfl (flat_v rfl) rfl rfl (Nat.le_of_ble_eq_true rfl) rfl) rfl ?_
                refine k_done rfl ?_
                refine thenK_n ?_
                refine W_seq ?_
                refine W_seqK (b' := 307) rfl rfl ?_
                refine k_op0 (d := 117) (b := 227) (j' := 1) rfl rfl rfl rfl (.plain rfl) (T_fa D (m := 5) rfl rfl rfl rfl rfl rfl) rfl ?_
                refine k_op0 (d := 118) (b := 243) (j' := 2) rfl rfl rfl rfl (.plain rfl) (T_load_b D rfl rfl rfl rfl rfl rfl) rfl ?_
                refine k_op0 (d := 119) (b := 259) (j' := 3) rfl rfl rfl rfl (.plain rfl) (T_move rfl rfl) rfl ?_
                refine k_op0 (d := 120) (b := 275) (j' := 4) rfl rfl rfl rfl (.plain rfl) (T_callV (lvs := [_, _]) (L := []) (within_spec _ _) body125 rfl rfl rfl rfl (.nil) rfl) rfl ?_
                refine k_op0 (d := 121) (b := 291) (j' := 5) rfl rfl rfl rfl (.plain rfl) (T_not rfl rfl) rfl ?_
                refine k_done rfl ?_
                refine thenK_n ?_
                refine W_cond rfl (fun g25 => ?_) (fun g25 => ?_)
                · have h25 := g25; (try simp only [cmpB, decide_eq_true_eq, decide_eq_false_iff_not, beq_iff_eq, beq_eq_false_iff_ne, bne_iff_ne, ne_eq, bne_eq_false_iff_eq, Bool.not_eq_true', Bool.not_eq_false', Int.not_lt, Int.not_le] at h25)
                  refine W_seq ?_
                  refine W_seqK (b' := 323) rfl rfl ?_
                  refine k_op0 (d := 8) (b := 307) (j' := 1) rfl rfl rfl rfl (.plain rfl) (T_assign rfl rfl) rfl ?_
                  refine k_done rfl ?_
                  refine thenK_n ?_
                  refine W_ret ?_
                  refine blockK_r ?_
                  refine thenK_r ?_
                  -- end 10
                  exact .mk [] (.inr rfl) (.tmp rfl (.nil)) (by first | rfl | (simp only [resLV, LV.ren, LV.v.injEq, Value.bool.injEq]; refine fits_no (fun hF => ?_); obtain ⟨a1, a2, a3, a4, a5, a6, a7, a8⟩ := hF; first | omega | (have k4 := a4 (by omega); omega) | (have k6 := a6 (by omega); omega) | exact absurd ((a2 (by assumption)).symm.trans (by assumption : _ = false)) (by decide) | exact absurd ((a5 (by omega)).symm.trans (by assumption : _ = false)) (by decide) | exact absurd ((a7 (by omega)).symm.trans (by assumption : _ = false)) (by decide) | exact absurd ((a3 _ (getD_mem (i := j) (by omega))).symm.trans (by assumption : _ = false)) (by decide)) | (simp only [resLV, LV.ren, LV.v.injEq, Value.bool.injEq]; exact fits_fin hj18 (fun _ => by omega) (fun _ => by first | assumption | (exfalso; omega)) (fun _ => by omega) (fun _ => by first | assumption | (exfalso; omega)) (by first | exact (if_pos (by omega)).symm | exact (if_neg (by omega)).symm) (by first | exact (if_pos (by omega)).symm | exact (if_neg (by omega)).symm) (by first | exact (if_pos (by omega)).symm | exact (if_neg (by omega)).symm) (by first | exact (if_pos (by omega)).symm | exact (if_neg (by omega)).symm))) (.nil) rfl
                · have h25 := g25; (try simp only [cmpB, decide_eq_true_eq, decide_eq_false_iff_not, beq_iff_eq, beq_eq_false_iff_ne, bne_iff_ne, ne_eq, bne_eq_false_iff_eq, Bool.not_eq_true', Bool.not_eq_false', Int.not_lt, Int.not_le] at h25)
                  refine W_skip ?_
                  refine blockK_n ?_
                  refine thenK_n ?_
                  refine W_seq ?_
                  refine W_seqK (b' := 371) rfl rfl ?_
                  refine k_op0 (d := 163) (b := 307) (j' := 1) rfl rfl rfl rfl (.plain rfl) (T_load_bA D (l := [_, _, _, _, _, _, _, _]) rfl rfl rfl rfl rfl rfl rfl) rfl ?_
                  refine k_op0 (d := 164) (b := 323) (j' := 2) rfl rfl rfl rfl (.plain rfl) (T_load_bA D (l := [_, _, _, _, _, _, _, _]) rfl rfl rfl rfl rfl rfl rfl) rfl ?_
                  refine k_op0 (d := 165) (b := 339) (j' := 3) rfl rfl rfl rfl (.plain rfl) (T_eqTac8 t rfl rfl rfl) rfl ?_
                  refine k_op0 (d := 8) (b := 355) (j' := 4) rfl rfl rfl rfl (.plain rfl) (T_assign rfl rfl) rfl ?_
                  refine k_done rfl ?_
                  refine thenK_n ?_
                  refine W_ret ?_
                  -- end 11
                  exact .mk [] (.inr rfl) (.tmp rfl (.nil)) (by first | rfl | (simp only [resLV, LV.ren, LV.v.injEq, Value.bool.injEq]; refine fits_no (fun hF => ?_); obtain ⟨a1, a2, a3, a4, a5, a6, a7, a8⟩ := hF; first | omega | (have k4 := a4 (by omega); omega) | (have k6 := a6 (by omega); omega) | exact absurd ((a2 (by assumption)).symm.trans (by assumption : _ = false)) (by decide) | exact absurd ((a5 (by omega)).symm.trans (by assumption : _ = false)) (by decide) | exact absurd ((a7 (by omega)).symm.trans (by assumption : _ = false)) (by decide) | exact absurd ((a3 _ (getD_mem (i := j) (by omega))).symm.trans (by assumption : _ = false)) (by decide)) | (simp only [resLV, LV.ren, LV.v.injEq, Value.bool.injEq]; exact fits_fin hj18 (fun _ => by omega) (fun _ => by first | assumption | (exfalso; omega)) (fun _ => by omega) (fun _ => by first | assumption | (exfalso; omega)) (by first | exact (if_pos (by omega)).symm | exact (if_neg (by omega)).symm) (by first | exact (if_pos (by omega)).symm | exact (if_neg (by omega)).symm) (by first | exact (if_pos (by omega)).symm | exact (if_neg (by omega)).symm) (by first | exact (if_pos (by omega)).symm | exact (if_neg (by omega)).symm))) (.nil) rfl
              · have h24 := g24; (try simp only [cmpB, decide_eq_true_eq, decide_eq_false_iff_not, beq_iff_eq, beq_eq_false_iff_ne, bne_iff_ne, ne_eq, bne_eq_false_iff_eq, Bool.not_eq_true', Bool.not_eq_false', Int.not_lt, Int.not_le] at h24)
                refine W_seq ?_
                refine W_seq ?_
                refine W_seqK (b' := 195) rfl rfl ?_
                refine k_op0 (d := 123) (b := 163) (j' := 1) rfl rfl rfl rfl (.plain rfl) (T_cmp rfl rfl rfl rfl) rfl ?_
                refine k_op0 (d := 122) (b := 179) (j' := 2) rfl rfl rfl rfl (.plain rfl) (T_assign rfl rfl) rfl ?_
                refine k_done rfl ?_
                refine thenK_n ?_
                refine W_cond rfl (fun g26 => ?_) (fun g26 => ?_)
                · have h26 := g26; (try simp only [cmpB, decide_eq_true_eq, decide_eq_false_iff_not, beq_iff_eq, beq_eq_false_iff_ne, bne_iff_ne, ne_eq, bne_eq_false_iff_eq, Bool.not_eq_true', Bool.not_eq_false', Int.not_lt, Int.not_le] at h26)
                  refine W_skip ?_
                  refine thenK_n ?_
                  refine W_cond rfl (fun g27 => ?_) (fun g27 => ?_)
                  · skip
                    refine W_seq ?_
                    refine W_anyK (b' := 323) rfl rfl rfl ?_
                    refine k_op0 (d := 125) (b := 195) (j' := 1) rfl rfl rfl rfl (.plain rfl) (T_fa D (m := 5) rfl rfl rfl rfl rfl rfl) rfl ?_
                    refine k_op0 (d := 126) (b := 211) (j' := 2) rfl rfl rfl rfl (.plain rfl) (T_load_b D rfl rfl rfl rfl rfl rfl) rfl ?_
                    refine k_op0 (d := 127) (b := 227) (j' := 3) rfl rfl rfl rfl (.plain rfl) (T_fa D (m := 6) rfl rfl rfl rfl rfl rfl) rfl ?_
                    refine k_op0 (d := 128) (b := 243) (j' := 4) rfl rfl rfl rfl (.plain rfl) (T_load_b D rfl rfl rfl rfl rfl rfl) rfl ?_
                    refine k_op0 (d := 129) (b := 259) (j' := 5) rfl rfl rfl rfl (.plain rfl) (T_fa D (m := 5) rfl rfl rfl rfl rfl rfl) rfl ?_
                    refine k_st1 (b := 275) (j' := 6) rfl rfl rfl rfl (.plain rfl) (T_stB D (cs' := [_, _, _, _, _, _, _, _]) rfl rfl rfl rfl (flat_v rfl) rfl rfl (Nat.le_of_ble_eq_true rfl) rfl) rfl ?_
                    refine k_op0 (d := 130) (b := 291) (j' := 7) rfl rfl rfl rfl (.plain rfl) (T_fa D (m := 6) rfl rfl rfl rfl rfl rfl) rfl ?_
                    refine k_st1 (b := 307) (j' := 8) rfl rfl rfl rfl (.plain rfl) (T_stB D (cs' := [_, _, _, _, _, _, _, _]) rfl rfl rfl rfl (flat_v rfl) rfl rfl (Nat.le_of_ble_eq_true rfl) rfl) rfl ?_
                    refine k_done rfl ?_
                    refine ⟨rfl, ?_⟩
                    refine thenK_n ?_
                    refine W_seq ?_
                    refine W_seqK (b' := 675) rfl rfl ?_
                    refine k_op0 (d := 131) (b := 323) (j' := 1) rfl rfl rfl rfl (.plain rfl) (T_fa D (m := 6) rfl rfl rfl rfl rfl rfl) rfl ?_
                    refine k_op0 (d := 132) (b := 339) (j' := 2) rfl rfl rfl rfl (.plain rfl) (T_load_b D rfl rfl rfl rfl rfl rfl) rfl ?_
                    refine k_op0 (d := 133) (b := 355) (j' := 3) rfl rfl rfl rfl (.plain rfl) (T_cmp rfl rfl rfl rfl) rfl ?_
                    refine k_op0 (d := 134) (b := 371) (j' := 4) rfl rfl rfl rfl (.plain rfl) (T_move rfl rfl) rfl ?_
                    refine k_split (d := 134) rfl (fun g28 => ?_) (fun g28 => ?_)
                    · have h28 := g28; (try simp only [cmpB, decide_eq_true_eq, decide_eq_false_iff_not, beq_iff_eq, beq_eq_false_iff_ne, bne_iff_ne, ne_eq, bne_eq_false_iff_eq, Bool.not_eq_true', Bool.not_eq_false', Int.not_lt, Int.not_le] at h28)
                      refine k_no (d := 135) (j' := 5) rfl rfl rfl (g_ft rfl rfl rfl g28) ?_
                      refine k_no (d := 136) (j' := 6) rfl rfl rfl (g_ft rfl rfl rfl g28) ?_
                      refine k_no (d := 137) (j' := 7) rfl rfl rfl (g_ft rfl rfl rfl g28) ?_
                      refine k_op0 (d := 138) (b := 435) (j' := 8) rfl rfl rfl rfl (.plain rfl) (T_pick_t rfl rfl rfl g28) rfl ?_
                      refine k_op0 (d := 139) (b := 451) (j' := 9) rfl rfl rfl rfl (.plain rfl) (T_move rfl rfl) rfl ?_
                      refine k_no (d := 140) (j' := 10) rfl rfl rfl (g_ft rfl rfl rfl rfl) ?_
                      refine k_no (d := 141) (j' := 11) rfl rfl rfl (g_ft rfl rfl rfl rfl) ?_
                      refine k_no (d := 142) (j' := 12) rfl rfl rfl (g_ft rfl rfl rfl rfl) ?_
                      refine k_op0 (d := 143) (b := 515) (j' := 13) rfl rfl rfl rfl (.plain rfl) (T_pick_t rfl rfl rfl rfl) rfl ?_
                      refine k_op0 (d := 144) (b := 531) (j' := 14) rfl rfl rfl rfl (.plain rfl) (T_move rfl rfl) rfl ?_
                      refine k_no (d := 145) (j' := 15) rfl rfl rfl (g_ft rfl rfl rfl rfl) ?_
                      refine k_no (d := 146) (j' := 16) rfl rfl rfl (g_ft rfl rfl rfl rfl) ?_
                      refine k_no (d := 147) (j' := 17) rfl rfl rfl (g_ft rfl rfl rfl rfl) ?_
                      refine k_no (d := 148) (j' := 18) rfl rfl rfl (g_ft rfl rfl rfl rfl) ?_
                      refine k_no (d := 149) (j' := 19) rfl rfl rfl (g_ft rfl rfl rfl rfl) ?_
                      refine k_no (d := 150) (j' := 20) rfl rfl rfl (g_ft rfl rfl rfl rfl) ?_
                      refine k_no (d := 151) (j' := 21) rfl rfl rfl (g_ft rfl rfl rfl rfl) ?_
                      refine k_op0 (d := 152) (b := 659) (j' := 22) rfl rfl rfl rfl (.plain rfl) (T_pick_t rfl rfl rfl rfl) rfl ?_
                      refine k_done rfl ?_
                      refine thenK_n ?_
                      refine W_cond rfl (fun g29 => ?_) (fun g29 => ?_)
                      · skip
                        refine W_seq ?_
                        refine W_seqK (b' := 691) rfl rfl ?_
                        refine k_op0 (d := 8) (b := 675) (j' := 1) rfl rfl rfl rfl (.plain rfl) (T_assign rfl rfl) rfl ?_
                        refine k_done rfl ?_
                        refine thenK_n ?_
                        refine W_ret ?_
                        refine blockK_r ?_
                        refine thenK_r ?_
                        -- end 12
                        exact .mk [] (.inr rfl) (.tmp rfl (.nil)) (by first | rfl | (simp only [resLV, LV.ren, LV.v.injEq, Value.bool.injEq]; refine fits_no (fun hF => ?_); obtain ⟨a1, a2, a3, a4, a5, a6, a7, a8⟩ := hF; first | omega | (have k4 := a4 (by omega); omega) | (have k6 := a6 (by omega); omega) | exact absurd ((a2 (by assumption)).symm.trans (by assumption : _ = false)) (by decide) | exact absurd ((a5 (by omega)).symm.trans (by assumption : _ = false)) (by decide) | exact absurd ((a7 (by omega)).symm.trans (by assumption : _ = false)) (by decide) | exact absurd ((a3 _ (getD_mem (i := j) (by omega))).symm.trans (by assumption : _ = false)) (by decide)) | (simp only [resLV, LV.ren, LV.v.injEq, Value.bool.injEq]; exact fits_fin hj18 (fun _ => by omega) (fun _ => by first | assumption | (exfalso; omega)) (fun _ => by omega) (fun _ => by first | assumption | (exfalso; omega)) (by first | exact (if_pos (by omega)).symm | exact (if_neg (by omega)).symm) (by first | exact (if_pos (by omega)).symm | exact (if_neg (by omega)).symm) (by first | exact (if_pos (by omega)).symm | exact (if_neg (by omega)).symm) (by first | exact (if_pos (by omega)).symm | exact (if_neg (by omega)).symm))) (.nil) rfl
                      · exact absurd (g29.symm.trans rfl) (by decide)
                    · have h28 := g28; (try simp only [cmpB, decide_eq_true_eq, decide_eq_false_iff_not, beq_iff_eq, beq_eq_false_iff_ne, bne_iff_ne, ne_eq, bne_eq_false_iff_eq, Bool.not_eq_true', Bool.not_eq_false', Int.not_lt, Int.not_le] at h28)
                      refine k_op0 (d := 135) (b := 387) (j' := 5) rfl rfl rfl rfl (g_ff rfl rfl rfl g28) (T_fa D (m := 6) rfl rfl rfl rfl rfl rfl) rfl ?_
                      refine k_op0 (d := 136) (b := 403) (j' := 6) rfl rfl rfl rfl (g_ff rfl rfl rfl g28) (T_load_b D rfl rfl rfl rfl rfl rfl) rfl ?_
                      refine k_op0 (d := 137) (b := 419) (j' := 7) rfl rfl rfl rfl (g_ff rfl rfl rfl g28) (T_cmp rfl rfl rfl rfl) rfl ?_
                      refine k_op0 (d := 138) (b := 435) (j' := 8) rfl rfl rfl rfl (.plain rfl) (T_pick_f rfl rfl rfl g28) rfl ?_
                      refine k_op0 (d := 139) (b := 451) (j' := 9) rfl rfl rfl rfl (.plain rfl) (T_move rfl rfl) rfl ?_
                      refine k_split (d := 139) rfl (fun g30 => ?_) (fun g30 => ?_)
                      · have h30 := g30; (try simp only [cmpB, decide_eq_true_eq, decide_eq_false_iff_not, beq_iff_eq, beq_eq_false_iff_ne, bne_iff_ne, ne_eq, bne_eq_false_iff_eq, Bool.not_eq_true', Bool.not_eq_false', Int.not_lt, Int.not_le] at h30)
                        refine k_no (d := 140) (j' := 10) rfl rfl rfl (g_ft rfl rfl rfl g30) ?_
                        refine k_no (d := 141) (j' := 11) rfl rfl rfl (g_ft rfl rfl rfl g30) ?_
                        refine k_no (d := 142) (j' := 12) rfl rfl rfl (g_ft rfl rfl rfl g30) ?_
                        refine k_op0 (d := 143) (b := 515) (j' := 13) rfl rfl rfl rfl (.plain rfl) (T_pick_t rfl rfl rfl g30) rfl ?_
                        refine k_op0 (d := 144) (b := 531) (j' := 14) rfl rfl rfl rfl (.plain rfl) (T_move rfl rfl) rfl ?_
                        refine k_no (d := 145) (j' := 15) rfl rfl rfl (g_ft rfl rfl rfl rfl) ?_
                        refine k_no (d := 146) (j' := 16) rfl rfl rfl (g_ft rfl rfl rfl rfl) ?_
                        refine k_no (d := 147) (j' := 17) rfl rfl rfl (g_ft rfl rfl rfl rfl) ?_
                        refine k_no (d := 148) (j' := 18) rfl rfl rfl (g_ft rfl rfl rfl rfl) ?_
                        refine k_no (d := 149) (j' := 19) rfl rfl rfl (g_ft rfl rfl rfl rfl) ?_
                        refine k_no (d := 150) (j' := 20) rfl rfl rfl (g_ft rfl rfl rfl rfl) ?_
                        refine k_no (d := 151) (j' := 21) rfl rfl rfl (g_ft rfl rfl rfl rfl) ?_
                        refine k_op0 (d := 152) (b := 659) (j' := 22) rfl rfl rfl rfl (.plain rfl) (T_pick_t rfl rfl rfl rfl) rfl ?_
                        refine k_done rfl ?_
                        refine thenK_n ?_
                        refine W_cond rfl (fun g31 => ?_) (fun g31 => ?_)
                        · skip
                          refine W_seq ?_
                          refine W_seqK (b' := 691) rfl rfl ?_
                          refine k_op0 (d := 8) (b := 675) (j' := 1) rfl rfl rfl rfl (.plain rfl) (T_assign rfl rfl) rfl ?_
                          refine k_done rfl ?_
                          refine thenK_n ?_
                          refine W_ret ?_
                          refine blockK_r ?_
                          refine thenK_r ?_
                          -- end 13
                          exact .mk [] (.inr rfl) (.tmp rfl (.nil)) (by first | rfl | (simp only [resLV, LV.ren, LV.v.injEq, Value.bool.injEq]; refine fits_no (fun hF => ?_); obtain ⟨a1, a2, a3, a4, a5, a6, a7, a8⟩ := hF; first | omega | (have k4 := a4 (by omega); omega) | (have k6 := a6 (by omega); omega) | exact absurd ((a2 (by assumption)).symm.trans (by assumption : _ = false)) (by decide) | exact absurd ((a5 (by omega)).symm.trans (by assumption : _ = false)) (by decide) | exact absurd ((a7 (by omega)).symm.trans (by assumption : _ = false)) (by decide) | exact absurd ((a3 _ (getD_mem (i := j) (by omega))).symm.trans (by assumption : _ = false)) (by decide)) | (simp only [resLV, LV.ren, LV.v.injEq, Value.bool.injEq]; exact fits_fin hj18 (fun _ => by omega) (fun _ => by first | assumption | (exfalso; omega)) (fun _ => by omega) (fun _ => by first | assumption | (exfalso; omega)) (by first | exact (if_pos (by omega)).symm | exact (if_neg (by omega)).symm) (by first | exact (if_pos (by omega)).symm | exact (if_neg (by omega)).symm) (by first | exact (if_pos (by omega)).symm | exact (if_neg (by omega)).symm) (by first | exact (if_pos (by omega)).symm | exact (if_neg (by omega)).symm))) (.nil) rfl
                        · exact absurd (g31.symm.trans rfl) (by decide)
                      · have h30 := g30; (try simp only [cmpB, decide_eq_true_eq, decide_eq_false_iff_not, beq_iff_eq, beq_eq_false_iff_ne, bne_iff_ne, ne_eq, bne_eq_false_iff_eq, Bool.not_eq_true', Bool.not_eq_false', Int.not_lt, Int.not_le] at h30)
                        refine k_op0 (d := 140) (b := 467) (j' := 10) rfl rfl rfl rfl (g_ff rfl rfl rfl g30) (T_fa D (m := 5) rfl rfl rfl rfl rfl rfl) rfl ?_
                        refine k_op0 (d := 141) (b := 483) (j' := 11) rfl rfl rfl rfl (g_ff rfl rfl rfl g30) (T_load_b D rfl rfl rfl rfl rfl rfl) rfl ?_
                        refine k_op0 (d := 142) (b := 499) (j' := 12) rfl rfl rfl rfl (g_ff rfl rfl rfl g30) (T_cmp rfl rfl rfl rfl) rfl ?_
                        refine k_op0 (d := 143) (b := 515) (j' := 13) rfl rfl rfl rfl (.plain rfl) (T_pick_f rfl rfl rfl g30) rfl ?_
                        refine k_op0 (d := 144) (b := 531) (j' := 14) rfl rfl rfl rfl (.plain rfl) (T_move rfl rfl) rfl ?_
                        refine k_split (d := 144) rfl (fun g32 => ?_) (fun g32 => ?_)
                        · have h32 := g32; (try simp only [cmpB, decide_eq_true_eq, decide_eq_false_iff_not, beq_iff_eq, beq_eq_false_iff_ne, bne_iff_ne, ne_eq, bne_eq_false_iff_eq, Bool.not_eq_true', Bool.not_eq_false', Int.not_lt, Int.not_le] at h32)
                          refine k_no (d := 145) (j' := 15) rfl rfl rfl (g_ft rfl rfl rfl g32) ?_
                          refine k_no (d := 146) (j' := 16) rfl rfl rfl (g_ft rfl rfl rfl g32) ?_
                          refine k_no (d := 147) (j' := 17) rfl rfl rfl (g_ft rfl rfl rfl g32) ?_
                          refine k_no (d := 148) (j' := 18) rfl rfl rfl (g_ft rfl rfl rfl g32) ?_
                          refine k_no (d := 149) (j' := 19) rfl rfl rfl (g_ft rfl rfl rfl g32) ?_
                          refine k_no (d := 150) (j' := 20) rfl rfl rfl (g_ft rfl rfl rfl g32) ?_
                          refine k_no (d := 151) (j' := 21) rfl rfl rfl (g_ft rfl rfl rfl g32) ?_
                          refine k_op0 (d := 152) (b := 659) (j' := 22) rfl rfl rfl rfl (.plain rfl) (T_pick_t rfl rfl rfl g32) rfl ?_
                          refine k_done rfl ?_
                          refine thenK_n ?_
                          refine W_cond rfl (fun g33 => ?_) (fun g33 => ?_)
                          · skip
                            refine W_seq ?_
                            refine W_seqK (b' := 691) rfl rfl ?_
                            refine k_op0 (d := 8) (b := 675) (j' := 1) rfl rfl rfl rfl (.plain rfl) (T_assign rfl rfl) rfl ?_
                            refine k_done rfl ?_
                            refine thenK_n ?_
                            refine W_ret ?_
                            refine blockK_r ?_
                            refine thenK_r ?_
                            -- end 14
                            exact .mk [] (.inr rfl) (.tmp rfl (.nil)) (by first | rfl | (simp only [resLV, LV.ren, LV.v.injEq, Value.bool.injEq]; refine fits_no (fun hF => ?_); obtain ⟨a1, a2, a3, a4, a5, a6, a7, a8⟩ := hF; first | omega | (have k4 := a4 (by omega); omega) | (have k6 := a6 (by omega); omega) | exact absurd ((a2 (by assumption)).symm.trans (by assumption : _ = false)) (by decide) | exact absurd ((a5 (by omega)).symm.trans (by assumption : _ = false)) (by decide) | exact absurd ((a7 (by omega)).symm.trans (by assumption : _ = false)) (by decide) | exact absurd ((a3 _ (getD_mem (i := j) (by omega))).symm.trans (by assumption : _ = false)) (by decide)) | (simp only [resLV, LV.ren, LV.v.injEq, Value.bool.injEq]; exact fits_fin hj18 (fun _ => by omega) (fun _ => by first | assumption | (exfalso; omega)) (fun _ => by omega) (fun _ => by first | assumption | (exfalso; omega)) (by first | exact (if_pos (by omega)).symm | exact (if_neg (by omega)).symm) (by first | exact (if_pos (by omega)).symm | exact (if_neg (by omega)).symm) (by first | exact (if_pos (by omega)).symm | exact (if_neg (by omega)).symm) (by first | exact (if_pos (by omega)).symm | exact (if_neg (by omega)).symm))) (.nil) rfl
                          · exact absurd (g33.symm.trans rfl) (by decide)
                        · have h32 := g32; (try simp only [cmpB, decide_eq_true_eq, decide_eq_false_iff_not, beq_iff_eq, beq_eq_false_iff_ne, bne_iff_ne, ne_eq, bne_eq_false_iff_eq, Bool.not_eq_true', Bool.not_eq_false', Int.not_lt, Int.not_le] at h32)
                          refine k_op0 (d := 145) (b := 547) (j' := 15) rfl rfl rfl rfl (g_ff rfl rfl rfl g32) (T_fa D (m := 5) rfl rfl rfl rfl rfl rfl) rfl ?_
                          refine k_op0 (d := 146) (b := 563) (j' := 16) rfl rfl rfl rfl (g_ff rfl rfl rfl g32) (T_load_b D rfl rfl rfl rfl rfl rfl) rfl ?_
                          refine k_op0 (d := 147) (b := 579) (j' := 17) rfl rfl rfl rfl (g_ff rfl rfl rfl g32) (T_move rfl rfl) rfl ?_
                          refine k_op0 (d := 148) (b := 595) (j' := 18) rfl rfl rfl rfl (g_ff rfl rfl rfl g32) (T_fa D (m := 6) rfl rfl rfl rfl rfl rfl) rfl ?_
                          refine k_op0 (d := 149) (b := 611) (j' := 19) rfl rfl rfl rfl (g_ff rfl rfl rfl g32) (T_load_b D rfl rfl rfl rfl rfl rfl) rfl ?_
                          refine k_op0 (d := 150) (b := 627) (j' := 20) rfl rfl rfl rfl (g_ff rfl rfl rfl g32) (T_sub64 rfl rfl rfl (by first | assumption | omega | (simp; omega))) rfl ?_
                          refine k_op0 (d := 151) (b := 643) (j' := 21) rfl rfl rfl rfl (g_ff rfl rfl rfl g32) (T_cmp rfl rfl rfl rfl) rfl ?_
                          refine k_op0 (d := 152) (b := 659) (j' := 22) rfl rfl rfl rfl (.plain rfl) (T_pick_f rfl rfl rfl g32) rfl ?_
                          refine k_done rfl ?_
                          refine thenK_n ?_
                          refine W_cond rfl (fun g34 => ?_) (fun g34 => ?_)
                          · have h34 := g34; (try simp only [cmpB, decide_eq_true_eq, decide_eq_false_iff_not, beq_iff_eq, beq_eq_false_iff_ne, bne_iff_ne, ne_eq, bne_eq_false_iff_eq, Bool.not_eq_true', Bool.not_eq_false', Int.not_lt, Int.not_le] at h34)
                            refine W_seq ?_
                            refine W_seqK (b' := 691) rfl rfl ?_
                            refine k_op0 (d := 8) (b := 675) (j' := 1) rfl rfl rfl rfl (.plain rfl) (T_assign rfl rfl) rfl ?_
                            refine k_done rfl ?_
                            refine thenK_n ?_
                            refine W_ret ?_
                            refine blockK_r ?_
                            refine thenK_r ?_
                            -- end 15
                            exact .mk [] (.inr rfl) (.tmp rfl (.nil)) (by first | rfl | (simp only [resLV, LV.ren, LV.v.injEq, Value.bool.injEq]; refine fits_no (fun hF => ?_); obtain ⟨a1, a2, a3, a4, a5, a6, a7, a8⟩ := hF; first | omega | (have k4 := a4 (by omega); omega) | (have k6 := a6 (by omega); omega) | exact absurd ((a2 (by assumption)).symm.trans (by assumption : _ = false)) (by decide) | exact absurd ((a5 (by omega)).symm.trans (by assumption : _ = false)) (by decide) | exact absurd ((a7 (by omega)).symm.trans (by assumption : _ = false)) (by decide) | exact absurd ((a3 _ (getD_mem (i := j) (by omega))).symm.trans (by assumption : _ = false)) (by decide)) | (simp only [resLV, LV.ren, LV.v.injEq, Value.bool.injEq]; exact fits_fin hj18 (fun _ => by omega) (fun _ => by first | assumption | (exfalso; omega)) (fun _ => by omega) (fun _ => by first | assumption | (exfalso; omega)) (by first | exact (if_pos (by omega)).symm | exact (if_neg (by omega)).symm) (by first | exact (if_pos (by omega)).symm | exact (if_neg (by omega)).symm) (by first | exact (if_pos (by omega)).symm | exact (if_neg (by omega)).symm) (by first | exact (if_pos (by omega)).symm | exact (if_neg (by omega)).symm))) (.nil) rfl
                          · have h34 := g34; (try simp only [cmpB, decide_eq_true_eq, decide_eq_false_iff_not, beq_iff_eq, beq_eq_false_iff_ne, bne_iff_ne, ne_eq, bne_eq_false_iff_eq, Bool.not_eq_true', Bool.not_eq_false', Int.not_lt, Int.not_le] at h34)
                            refine W_skip ?_
                            refine blockK_n ?_
                            refine thenK_n ?_
                            refine W_seq ?_
                            refine W_seqK (b' := 739) rfl rfl ?_
                            refine k_op0 (d := 163) (b := 675) (j' := 1) rfl rfl rfl rfl (.plain rfl) (T_load_bA D (l := [_, _, _, _, _, _, _, _]) rfl rfl rfl rfl rfl rfl rfl) rfl ?_
                            refine k_op0 (d := 164) (b := 691) (j' := 2) rfl rfl rfl rfl (.plain rfl) (T_load_bA D (l := [_, _, _, _, _, _, _, _]) rfl rfl rfl rfl rfl rfl rfl) rfl ?_
                            refine k_op0 (d := 165) (b := 707) (j' := 3) rfl rfl rfl rfl (.plain rfl) (T_eqTac8 t rfl rfl rfl) rfl ?_
                            refine k_op0 (d := 8) (b := 723) (j' := 4) rfl rfl rfl rfl (.plain rfl) (T_assign rfl rfl) rfl ?_
                            refine k_done rfl ?_
                            refine thenK_n ?_
                            refine W_ret ?_
                            -- end 16
                            exact .mk [] (.inr rfl) (.tmp rfl (.nil)) (by first | rfl | (simp only [resLV, LV.ren, LV.v.injEq, Value.bool.injEq]; refine fits_no (fun hF => ?_); obtain ⟨a1, a2, a3, a4, a5, a6, a7, a8⟩ := hF; first | omega | (have k4 := a4 (by omega); omega) | (have k6 := a6 (by omega); omega) | exact absurd ((a2 (by assumption)).symm.trans (by assumption : _ = false)) (by decide) | exact absurd ((a5 (by omega)).symm.trans (by assumption : _ = false)) (by decide) | exact absurd ((a7 (by omega)).symm.trans (by assumption : _ = false)) (by decide) | exact absurd ((a3 _ (getD_mem (i := j) (by omega))).symm.trans (by assumption : _ = false)) (by decide)) | (simp only [resLV, LV.ren, LV.v.injEq, Value.bool.injEq]; exact fits_fin hj18 (fun _ => by omega) (fun _ => by first | assumption | (exfalso; omega)) (fun _ => by omega) (fun _ => by first | assumption | (exfalso; omega)) (by first | exact (if_pos (by omega)).symm | exact (if_neg (by omega)).symm) (by first | exact (if_pos (by omega)).symm | exact (if_neg (by omega)).symm) (by first | exact (if_pos (by omega)).symm | exact (if_neg (by omega)).symm) (by first | exact (if_pos (by omega)).symm | exact (if_neg (by omega)).symm))) (.nil) rfl
                  · exact absurd (g27.symm.trans g26) (by decide)
                · have h26 := g26; (try simp only [cmpB, decide_eq_true_eq, decide_eq_false_iff_not, beq_iff_eq, beq_eq_false_iff_ne, bne_iff_ne, ne_eq, bne_eq_false_iff_eq, Bool.not_eq_true', Bool.not_eq_false', Int.not_lt, Int.not_le] at h26)
                  refine W_seqK (b' := 227) rfl rfl ?_
                  refine k_op0 (d := 124) (b := 195) (j' := 1) rfl rfl rfl rfl (.plain rfl) (T_cmp rfl rfl rfl rfl) rfl ?_
                  refine k_op0 (d := 122) (b := 211) (j' := 2) rfl rfl rfl rfl (.plain rfl) (T_assign rfl rfl) rfl ?_
                  refine k_done rfl ?_
                  refine thenK_n ?_
                  refine W_cond rfl (fun g35 => ?_) (fun g35 => ?_)
                  · have h35 := g35; (try simp only [cmpB, decide_eq_true_eq, decide_eq_false_iff_not, beq_iff_eq, beq_eq_false_iff_ne, bne_iff_ne, ne_eq, bne_eq_false_iff_eq, Bool.not_eq_true', Bool.not_eq_false', Int.not_lt, Int.not_le] at h35)
                    refine W_seq ?_
                    refine W_anyK (b' := 355) rfl rfl rfl ?_
                    refine k_op0 (d := 125) (b := 227) (j' := 1) rfl rfl rfl rfl (.plain rfl) (T_fa D (m := 5) rfl rfl rfl rfl rfl rfl) rfl ?_
                    refine k_op0 (d := 126) (b := 243) (j' := 2) rfl rfl rfl rfl (.plain rfl) (T_load_b D rfl rfl rfl rfl rfl rfl) rfl ?_
                    refine k_op0 (d := 127) (b := 259) (j' := 3) rfl rfl rfl rfl (.plain rfl) (T_fa D (m := 6) rfl rfl rfl rfl rfl rfl) rfl ?_
                    refine k_op0 (d := 128) (b := 275) (j' := 4) rfl rfl rfl rfl (.plain rfl) (T_load_b D rfl rfl rfl rfl rfl rfl) rfl ?_
                    refine k_op0 (d := 129) (b := 291) (j' := 5) rfl rfl rfl rfl (.plain rfl) (T_fa D (m := 5) rfl rfl rfl rfl rfl rfl) rfl ?_
                    refine k_st1 (b := 307) (j' := 6) rfl rfl rfl rfl (.plain rfl) (T_stB D (cs' := [_, _, _, _, _, _, _, _]) rfl rfl rfl rfl (flat_v rfl) rfl rfl (Nat.le_of_ble_eq_true rfl) rfl) rfl ?_
                    refine k_op0 (d := 130) (b := 323) (j' := 7) rfl rfl rfl rfl (.plain rfl) (T_fa D (m := 6) rfl rfl rfl rfl rfl rfl) rfl ?_
                    refine k_st1 (b := 339) (j' := 8) rfl rfl rfl rfl (.plain rfl) (T_stB D (cs' := [_, _, _, _, _, _, _, _]) rfl rfl rfl rfl (flat_v rfl) rfl rfl (Nat.le_of_ble_eq_true rfl) rfl) rfl ?_
                    refine k_done rfl ?_
                    refine ⟨rfl, ?_⟩
                    refine thenK_n ?_
                    refine W_seq ?_
                    refine W_seqK (b' := 707) rfl rfl ?_
                    refine k_op0 (d := 131) (b := 355) (j' := 1) rfl rfl rfl rfl (.plain rfl) (T_fa D (m := 6) rfl rfl rfl rfl rfl rfl) rfl ?_
                    refine k_op0 (d := 132) (b := 371) (j' := 2) rfl rfl rfl rfl (.plain rfl) (T_load_b D rfl rfl rfl rfl rfl rfl) rfl ?_
                    refine k_op0 (d := 133) (b := 387) (j' := 3) rfl rfl rfl rfl (.plain rfl) (T_cmp rfl rfl rfl rfl) rfl ?_
                    refine k_op0 (d := 134) (b := 403) (j' := 4) rfl rfl rfl rfl (.plain rfl) (T_move rfl rfl) rfl ?_
                    refine k_split (d := 134) rfl (fun g36 => ?_) (fun g36 => ?_)
                    · have h36 := g36; (try simp only [cmpB, decide_eq_true_eq, decide_eq_false_iff_not, beq_iff_eq, beq_eq_false_iff_ne, bne_iff_ne, ne_eq, bne_eq_false_iff_eq, Bool.not_eq_true', Bool.not_eq_false', Int.not_lt, Int.not_le] at h36)
                      refine k_no (d := 135) (j' := 5) rfl rfl rfl (g_ft rfl rfl rfl g36) ?_
                      refine k_no (d := 136) (j' := 6) rfl rfl rfl (g_ft rfl rfl rfl g36) ?_
                      refine k_no (d := 137) (j' := 7) rfl rfl rfl (g_ft rfl rfl rfl g36) ?_
                      refine k_op0 (d := 138) (b := 467) (j' := 8) rfl rfl rfl rfl (.plain rfl) (T_pick_t rfl rfl rfl g36) rfl ?_
                      refine k_op0 (d := 139) (b := 483) (j' := 9) rfl rfl rfl rfl (.plain rfl) (T_move rfl rfl) rfl ?_
                      refine k_no (d := 140) (j' := 10) rfl rfl rfl (g_ft rfl rfl rfl rfl) ?_
                      refine k_no (d := 141) (j' := 11) rfl rfl rfl (g_ft rfl rfl rfl rfl) ?_
                      refine k_no (d := 142) (j' := 12) rfl rfl rfl (g_ft rfl rfl rfl rfl) ?_
                      refine k_op0 (d := 143) (b := 547) (j' := 13) rfl rfl rfl rfl (.plain rfl) (T_pick_t rfl rfl rfl rfl) rfl ?_
                      refine k_op0 (d := 144) (b := 563) (j' := 14) rfl rfl rfl rfl (.plain rfl) (T_move rfl rfl) rfl ?_
                      refine k_no (d := 145) (j' := 15) rfl rfl rfl (g_ft rfl rfl rfl rfl) ?_
                      refine k_no (d := 146) (j' := 16) rfl rfl rfl (g_ft rfl rfl rfl rfl) ?_
                      refine k_no (d := 147) (j' := 17) rfl rfl rfl (g_ft rfl rfl rfl rfl) ?_
                      refine k_no (d := 148) (j' := 18) rfl rfl rfl (g_ft rfl rfl rfl rfl) ?_
                      refine k_no (d := 149) (j' := 19) rfl rfl rfl (g_ft rfl rfl rfl rfl) ?_
                      refine k_no (d := 150) (j' := 20) rfl rfl rfl (g_ft rfl rfl rfl rfl) ?_
                      refine k_no (d := 151) (j' := 21) rfl rfl rfl (g_ft rfl rfl rfl rfl) ?_
                      refine k_op0 (d := 152) (b := 691) (j' := 22) rfl rfl rfl rfl (.plain rfl) (T_pick_t rfl rfl rfl rfl) rfl ?_
                      refine k_done rfl ?_
                      refine thenK_n ?_
                      refine W_cond rfl (fun g37 => ?_) (fun g37 => ?_)
                      · skip
                        refine W_seq ?_
                        refine W_seqK (b' := 723) rfl rfl ?_
                        refine k_op0 (d := 8) (b := 707) (j' := 1) rfl rfl rfl rfl (.plain rfl) (T_assign rfl rfl) rfl ?_
                        refine k_done rfl ?_
                        refine thenK_n ?_
                        refine W_ret ?_
                        refine blockK_r ?_
                        refine thenK_r ?_
                        -- end 17
                        exact .mk [] (.inr rfl) (.tmp rfl (.nil)) (by first | rfl | (simp only [resLV, LV.ren, LV.v.injEq, Value.bool.injEq]; refine fits_no (fun hF => ?_); obtain ⟨a1, a2, a3, a4, a5, a6, a7, a8⟩ := hF; first | omega | (have k4 := a4 (by omega); omega) | (have k6 := a6 (by omega); omega) | exact absurd ((a2 (by assumption)).symm.trans (by assumption : _ = false)) (by decide) | exact absurd ((a5 (by omega)).symm.trans (by assumption : _ = false)) (by decide) | exact absurd ((a7 (by omega)).symm.trans (by assumption : _ = false)) (by decide) | exact absurd ((a3 _ (getD_mem (i := j) (by omega))).symm.trans (by assumption : _ = false)) (by decide)) | (simp only [resLV, LV.ren, LV.v.injEq, Value.bool.injEq]; exact fits_fin hj18 (fun _ => by omega) (fun _ => by first | assumption | (exfalso; omega)) (fun _ => by omega) (fun _ => by first | assumption | (exfalso; omega)) (by first | exact (if_pos (by omega)).symm | exact (if_neg (by omega)).symm) (by first | exact (if_pos (by omega)).symm | exact (if_neg (by omega)).symm) (by first | exact (if_pos (by omega)).symm | exact (if_neg (by omega)).symm) (by first | exact (if_pos (by omega)).symm | exact (if_neg (by omega)).symm))) (.nil) rfl
                      · exact absurd (g37.symm.trans rfl) (by decide)
                    · have h36 := g36; (try simp only [cmpB, decide_eq_true_eq, decide_eq_false_iff_not, beq_iff_eq, beq_eq_false_iff_ne, bne_iff_ne, ne_eq, bne_eq_false_iff_eq, Bool.not_eq_true', Bool.not_eq_false', Int.not_lt, Int.not_le] at h36)
                      refine k_op0 (d := 135) (b := 419) (j' := 5) rfl rfl rfl rfl (g_ff rfl rfl rfl g36) (T_fa D (m := 6) rfl rfl rfl rfl rfl rfl) rfl ?_
                      refine k_op0 (d := 136) (b := 435) (j' := 6) rfl rfl rfl rfl (g_ff rfl rfl rfl g36) (T_load_b D rfl rfl rfl rfl rfl rfl) rfl ?_
                      refine k_op0 (d := 137) (b := 451) (j' := 7) rfl rfl rfl rfl (g_ff rfl rfl rfl g36) (T_cmp rfl rfl rfl rfl) rfl ?_
                      refine k_op0 (d := 138) (b := 467) (j' := 8) rfl rfl rfl rfl (.plain rfl) (T_pick_f rfl rfl rfl g36) rfl ?_
                      refine k_op0 (d := 139) (b := 483) (j' := 9) rfl rfl rfl rfl (.plain rfl) (T_move rfl rfl) rfl ?_
                      refine k_split (d := 139) rfl (fun g38 => ?_) (fun g38 => ?_)
                      · have h38 := g38; (try simp only [cmpB, decide_eq_true_eq, decide_eq_false_iff_not, beq_iff_eq, beq_eq_false_iff_ne, bne_iff_ne, ne_eq, bne_eq_false_iff_eq, Bool.not_eq_true', Bool.not_eq_false', Int.not_lt, Int.not_le] at h38)
                        refine k_no (d := 140) (j' := 10) rfl rfl rfl (g_ft rfl rfl rfl g38) ?_
                        refine k_no (d := 141) (j' := 11) rfl rfl rfl (g_ft rfl rfl rfl g38) ?_
                        refine k_no (d := 142) (j' := 12) rfl rfl rfl (g_ft rfl rfl rfl g38) ?_
                        refine k_op0 (d := 143) (b := 547) (j' := 13) rfl rfl rfl rfl (.plain rfl) (T_pick_t rfl rfl rfl g38) rfl ?_
                        refine k_op0 (d := 144) (b := 563) (j' := 14) rfl rfl rfl rfl (.plain rfl) (T_move rfl rfl) rfl ?_
                        refine k_no (d := 145) (j' := 15) rfl rfl rfl (g_ft rfl rfl rfl rfl) ?_
                        refine k_no (d := 146) (j' := 16) rfl rfl rfl (g_ft rfl rfl rfl rfl) ?_
                        refine k_no (d := 147) (j' := 17) rfl rfl rfl (g_ft rfl rfl rfl rfl) ?_
                        refine k_no (d := 148) (j' := 18) rfl rfl rfl (g_ft rfl rfl rfl rfl) ?_
                        refine k_no (d := 149) (j' := 19) rfl rfl rfl (g_ft rfl rfl rfl rfl) ?_
                        refine k_no (d := 150) (j' := 20) rfl rfl rfl (g_ft rfl rfl rfl rfl) ?_
                        refine k_no (d := 151) (j' := 21) rfl rfl rfl (g_ft rfl rfl rfl rfl) ?_
                        refine k_op0 (d := 152) (b := 691) (j' := 22) rfl rfl rfl rfl (.plain rfl) (T_pick_t rfl rfl rfl rfl) rfl ?_
                        refine k_done rfl ?_
                        refine thenK_n ?_
                        refine W_cond rfl (fun g39 => ?_) (fun g39 => ?_)
                        · skip
                          refine W_seq ?_
                          refine W_seqK (b' := 723) rfl rfl ?_
                          refine k_op0 (d := 8) (b := 707) (j' := 1) rfl rfl rfl rfl (.plain rfl) (T_assign rfl rfl) rfl ?_
                          refine k_done rfl ?_
                          refine thenK_n ?_
                          refine W_ret ?_
                          refine blockK_r ?_
                          refine thenK_r ?_
                          -- end 18
                          exact .mk [] (.inr rfl) (.tmp rfl (.nil)) (by first | rfl | (simp only [resLV, LV.ren, LV.v.injEq, Value.bool.injEq]; refine fits_no (fun hF => ?_); obtain ⟨a1, a2, a3, a4, a5, a6, a7, a8⟩ := hF; first | omega | (have k4 := a4 (by omega); omega) | (have k6 := a6 (by omega); omega) | exact absurd ((a2 (by assumption)).symm.trans (by assumption : _ = false)) (by decide) | exact absurd ((a5 (by omega)).symm.trans (by assumption : _ = false)) (by decide) | exact absurd ((a7 (by omega)).symm.trans (by assumption : _ = false)) (by decide) | exact absurd ((a3 _ (getD_mem (i := j) (by omega))).symm.trans (by assumption : _ = false)) (by decide)) | (simp only [resLV, LV.ren, LV.v.injEq, Value.bool.injEq]; exact fits_fin hj18 (fun _ => by omega) (fun _ => by first | assumption | (exfalso; omega)) (fun _ => by omega) (fun _ => by first | assumption | (exfalso; omega)) (by first | exact (if_pos (by omega)).symm | exact (if_neg (by omega)).symm) (by first | exact (if_pos (by omega)).symm | exact (if_neg (by omega)).symm) (by first | exact (if_pos (by omega)).symm | exact (if_neg (by omega)).symm) (by first | exact (if_pos (by omega)).symm | exact (if_neg (by omega)).symm))) (.nil) rfl
                        · exact absurd (g39.symm.trans rfl) (by decide)
                      · have h38 := g38; (try simp only [cmpB, decide_eq_true_eq, decide_eq_false_iff_not, beq_iff_eq, beq_eq_false_iff_ne, bne_iff_ne, ne_eq, bne_eq_false_iff_eq, Bool.not_eq_true', Bool.not_eq_false', Int.not_lt, Int.not_le] at h38)
                        refine k_op0 (d := 140) (b := 499) (j' := 10) rfl rfl rfl rfl (g_ff rfl rfl rfl g38) (T_fa D (m := 5) rfl rfl rfl rfl rfl rfl) rfl ?_
                        refine k_op0 (d := 141) (b := 515) (j' := 11) rfl rfl rfl rfl (g_ff rfl rfl rfl g38) (T_load_b D rfl rfl rfl rfl rfl rfl) rfl ?_
                        refine k_op0 (d := 142) (b := 531) (j' := 12) rfl rfl rfl rfl (g_ff rfl rfl rfl g38) (T_cmp rfl rfl rfl rfl) rfl ?_
                        refine k_op0 (d := 143) (b := 547) (j' := 13) rfl rfl rfl rfl (.plain rfl) (T_pick_f rfl rfl rfl g38) rfl ?_
                        refine k_op0 (d := 144) (b := 563) (j' := 14) rfl rfl rfl rfl (.plain rfl) (T_move rfl rfl) rfl ?_
                        refine k_split (d := 144) rfl (fun g40 => ?_) (fun g40 => ?_)
                        · have h40 := g40; (try simp only [cmpB, decide_eq_true_eq, decide_eq_false_iff_not, beq_iff_eq, beq_eq_false_iff_ne, bne_iff_ne, ne_eq, bne_eq_false_iff_eq, Bool.not_eq_true', Bool.not_eq_false', Int.not_lt, Int.not_le] at h40)
                          refine k_no (d := 145) (j' := 15) rfl rfl rfl (g_ft rfl rfl rfl g40) ?_
                          refine k_no (d := 146) (j' := 16) rfl rfl rfl (g_ft rfl rfl rfl g40) ?_
                          refine k_no (d := 147) (j' := 17) rfl rfl rfl (g_ft rfl rfl rfl g40) ?_
                          refine k_no (d := 148) (j' := 18) rfl rfl rfl (g_ft rfl rfl rfl g40) ?_
                          refine k_no (d := 149) (j' := 19) rfl rfl rfl (g_ft rfl rfl rfl g40) ?_
                          refine k_no (d := 150) (j' := 20) rfl rfl rfl (g_ft rfl rfl rfl g40) ?_
                          refine k_no (d := 151) (j' := 21) rfl rfl rfl (g_ft rfl rfl rfl g40) ?_
                          refine k_op0 (d := 152) (b := 691) (j' := 22) rfl rfl rfl rfl (.plain rfl) (T_pick_t rfl rfl rfl g40) rfl ?_
                          refine k_done rfl ?_
                          refine thenK_n ?_
                          refine W_cond rfl (fun g41 => ?_) (fun g41 => ?_)
                          · skip
                            refine W_seq ?_
                            refine W_seqK (b' := 723) rfl rfl ?_
                            refine k_op0 (d := 8) (b := 707) (j' := 1) rfl rfl rfl rfl (.plain rfl) (T_assign rfl rfl) rfl ?_
                            refine k_done rfl ?_
                            refine thenK_n ?_
                            refine W_ret ?_
                            refine blockK_r ?_
                            refine thenK_r ?_
                            -- end 19
                            exact .mk [] (.inr rfl) (.tmp rfl (.nil)) (by first | rfl | (simp only [resLV, LV.ren, LV.v.injEq, Value.bool.injEq]; refine fits_no (fun hF => ?_); obtain ⟨a1, a2, a3, a4, a5, a6, a7, a8⟩ := hF; first | omega | (have k4 := a4 (by omega); omega) | (have k6 := a6 (by omega); omega) | exact absurd ((a2 (by assumption)).symm.trans (by assumption : _ = false)) (by decide) | exact absurd ((a5 (by omega)).symm.trans (by assumption : _ = false)) (by decide) | exact absurd ((a7 (by omega)).symm.trans (by assumption : _ = false)) (by decide) | exact absurd ((a3 _ (getD_mem (i := j) (by omega))).symm.trans (by assumption : _ = false)) (by decide)) | (simp only [resLV, LV.ren, LV.v.injEq, Value.bool.injEq]; exact fits_fin hj18 (fun _ => by omega) (fun _ => by first | assumption | (exfalso; omega)) (fun _ => by omega) (fun _ => by first | assumption | (exfalso; omega)) (by first | exact (if_pos (by omega)).symm | exact (if_neg (by omega)).symm) (by first | exact (if_pos (by omega)).symm | exact (if_neg (by omega)).symm) (by first | exact (if_pos (by omega)).symm | exact (if_neg (by omega)).symm) (by first | exact (if_pos (by omega)).symm | exact (if_neg (by omega)).symm))) (.nil) rfl
                          · exact absurd (g41.symm.trans rfl) (by decide)
                        · have h40 := g40; (try simp only [cmpB, decide_eq_true_eq, decide_eq_false_iff_not, beq_iff_eq, beq_eq_false_iff_ne, bne_iff_ne, ne_eq, bne_eq_false_iff_eq, Bool.not_eq_true', Bool.not_eq_false', Int.not_lt, Int.not_le] at h40)
                          refine k_op0 (d := 145) (b := 579) (j' := 15) rfl rfl rfl rfl (g_ff rfl rfl rfl g40) (T_fa D (m := 5) rfl rfl rfl rfl rfl rfl) rfl ?_
                          refine k_op0 (d := 146) (b := 595) (j' := 16) rfl rfl rfl rfl (g_ff rfl rfl rfl g40) (T_load_b D rfl rfl rfl rfl rfl rfl) rfl ?_
                          refine k_op0 (d := 147) (b := 611) (j' := 17) rfl rfl rfl rfl (g_ff rfl rfl rfl g40) (T_move rfl rfl) rfl ?_
                          refine k_op0 (d := 148) (b := 627) (j' := 18) rfl rfl rfl rfl (g_ff rfl rfl rfl g40) (T_fa D (m := 6) rfl rfl rfl rfl rfl rfl) rfl ?_
                          refine k_op0 (d := 149) (b := 643) (j' := 19) rfl rfl rfl rfl (g_ff rfl rfl rfl g40) (T_load_b D rfl rfl rfl rfl rfl rfl) rfl ?_
                          refine k_op0 (d := 150) (b := 659) (j' := 20) rfl rfl rfl rfl (g_ff rfl rfl rfl g40) (T_sub64 rfl rfl rfl (by first | assumption | omega | (simp; omega))) rfl ?_
                          refine k_op0 (d := 151) (b := 675) (j' := 21) rfl rfl rfl rfl (g_ff rfl rfl rfl g40) (T_cmp rfl rfl rfl rfl) rfl ?_
                          refine k_op0 (d := 152) (b := 691) (j' := 22) rfl rfl rfl rfl (.plain rfl) (T_pick_f rfl rfl rfl g40) rfl ?_
                          refine k_done rfl ?_
                          refine thenK_n ?_
                          refine W_cond rfl (fun g42 => ?_) (fun g42 => ?_)
                          · have h42 := g42; (try simp only [cmpB, decide_eq_true_eq, decide_eq_false_iff_not, beq_iff_eq, beq_eq_false_iff_ne, bne_iff_ne, ne_eq, bne_eq_false_iff_eq, Bool.not_eq_true', Bool.not_eq_false', Int.not_lt, Int.not_le] at h42)
                            refine W_seq ?_
                            refine W_seqK (b' := 723) rfl rfl ?_
                            refine k_op0 (d := 8) (b := 707) (j' := 1) rfl rfl rfl rfl (.plain rfl) (T_assign rfl rfl) rfl ?_
                            refine k_done rfl ?_
                            refine thenK_n ?_
                            refine W_ret ?_
                            refine blockK_r ?_
                            refine thenK_r ?_
                            -- end 20
                            exact .mk [] (.inr rfl) (.tmp rfl (.nil)) (by first | rfl | (simp only [resLV, LV.ren, LV.v.injEq, Value.bool.injEq]; refine fits_no (fun hF => ?_); obtain ⟨a1, a2, a3, a4, a5, a6, a7, a8⟩ := hF; first | omega | (have k4 := a4 (by omega); omega) | (have k6 := a6 (by omega); omega) | exact absurd ((a2 (by assumption)).symm.trans (by assumption : _ = false)) (by decide) | exact absurd ((a5 (by omega)).symm.trans (by assumption : _ = false)) (by decide) | exact absurd ((a7 (by omega)).symm.trans (by assumption : _ = false)) (by decide) | exact absurd ((a3 _ (getD_mem (i := j) (by omega))).symm.trans (by assumption : _ = false)) (by decide)) | (simp only [resLV, LV.ren, LV.v.injEq, Value.bool.injEq]; exact fits_fin hj18 (fun _ => by omega) (fun _ => by first | assumption | (exfalso; omega)) (fun _ => by omega) (fun _ => by first | assumption | (exfalso; omega)) (by first | exact (if_pos (by omega)).symm | exact (if_neg (by omega)).symm) (by first | exact (if_pos (by omega)).symm | exact (if_neg (by omega)).symm) (by first | exact (if_pos (by omega)).symm | exact (if_neg (by omega)).symm) (by first | exact (if_pos (by omega)).symm | exact (if_neg (by omega)).symm))) (.nil) rfl
                          · have h42 := g42; (try simp only [cmpB, decide_eq_true_eq, decide_eq_false_iff_not, beq_iff_eq, beq_eq_false_iff_ne, bne_iff_ne, ne_eq, bne_eq_false_iff_eq, Bool.not_eq_true', Bool.not_eq_false', Int.not_lt, Int.not_le] at h42)
                            refine W_skip ?_
                            refine blockK_n ?_
                            refine thenK_n ?_
                            refine W_seq ?_
                            refine W_seqK (b' := 771) rfl rfl ?_
                            refine k_op0 (d := 163) (b := 707) (j' := 1) rfl rfl rfl rfl (.plain rfl) (T_load_bA D (l := [_, _, _, _, _, _, _, _]) rfl rfl rfl rfl rfl rfl rfl) rfl ?_
                            refine k_op0 (d := 164) (b := 723) (j' := 2) rfl rfl rfl rfl (.plain rfl) (T_load_bA D (l := [_, _, _, _, _, _, _, _]) rfl rfl rfl rfl rfl rfl rfl) rfl ?_
                            refine k_op0 (d := 165) (b := 739) (j' := 3) rfl rfl rfl rfl (.plain rfl) (T_eqTac8 t rfl rfl rfl) rfl ?_
                            refine k_op0 (d := 8) (b := 755) (j' := 4) rfl rfl rfl rfl (.plain rfl) (T_assign rfl rfl) rfl ?_
                            refine k_done rfl ?_
                            refine thenK_n ?_
                            refine W_ret ?_
                            -- end 21
                            exact .mk [] (.inr rfl) (.tmp rfl (.nil)) (by first | rfl | (simp only [resLV, LV.ren, LV.v.injEq, Value.bool.injEq]; refine fits_no (fun hF => ?_); obtain ⟨a1, a2, a3, a4, a5, a6, a7, a8⟩ := hF; first | omega | (have k4 := a4 (by omega); omega) | (have k6 := a6 (by omega); omega) | exact absurd ((a2 (by assumption)).symm.trans (by assumption : _ = false)) (by decide) | exact absurd ((a5 (by omega)).symm.trans (by assumption : _ = false)) (by decide) | exact absurd ((a7 (by omega)).symm.trans (by assumption : _ = false)) (by decide) | exact absurd ((a3 _ (getD_mem (i := j) (by omega))).symm.trans (by assumption : _ = false)) (by decide)) | (simp only [resLV, LV.ren, LV.v.injEq, Value.bool.injEq]; exact fits_fin hj18 (fun _ => by omega) (fun _ => by first | assumption | (exfalso; omega)) (fun _ => by omega) (fun _ => by first | assumption | (exfalso; omega)) (by first | exact (if_pos (by omega)).symm | exact (if_neg (by omega)).symm) (by first | exact (if_pos (by omega)).symm | exact (if_neg (by omega)).symm) (by first | exact (if_pos (by omega)).symm | exact (if_neg (by omega)).symm) (by first | exact (if_pos (by omega)).symm | exact (if_neg (by omega)).symm))) (.nil) rfl
                  · have h35 := g35; (try simp only [cmpB, decide_eq_true_eq, decide_eq_false_iff_not, beq_iff_eq, beq_eq_false_iff_ne, bne_iff_ne, ne_eq, bne_eq_false_iff_eq, Bool.not_eq_true', Bool.not_eq_false', Int.not_lt, Int.not_le] at h35)
                    refine W_seq ?_
                    refine W_seqK (b' := 259) rfl rfl ?_
                    refine k_op0 (d := 154) (b := 227) (j' := 1) rfl rfl rfl rfl (.plain rfl) (T_cmp rfl rfl rfl rfl) rfl ?_
                    refine k_op0 (d := 153) (b := 243) (j' := 2) rfl rfl rfl rfl (.plain rfl) (T_assign rfl rfl) rfl ?_
                    refine k_done rfl ?_
                    refine thenK_n ?_
                    refine W_cond rfl (fun g43 => ?_) (fun g43 => ?_)
                    · have h43 := g43; (try simp only [cmpB, decide_eq_true_eq, decide_eq_false_iff_not, beq_iff_eq, beq_eq_false_iff_ne, bne_iff_ne, ne_eq, bne_eq_false_iff_eq, Bool.not_eq_true', Bool.not_eq_false', Int.not_lt, Int.not_le] at h43)
                      refine W_seq ?_
                      refine W_seqK (b' := 323) rfl rfl ?_
                      refine k_op0 (d := 155) (b := 259) (j' := 1) rfl rfl rfl rfl (.plain rfl) (T_fa D (m := 5) rfl rfl rfl rfl rfl rfl) rfl ?_
                      refine k_op0 (d := 156) (b := 275) (j' := 2) rfl rfl rfl rfl (.plain rfl) (T_load_b D rfl rfl rfl rfl rfl rfl) rfl ?_
                      refine k_op0 (d := 157) (b := 291) (j' := 3) rfl rfl rfl rfl (.plain rfl) (T_fa D (m := 5) rfl rfl rfl rfl rfl rfl) rfl ?_
                      refine k_st1 (b := 307) (j' := 4) rfl rfl rfl rfl (.plain rfl) (T_stB D (cs' := [_, _, _, _, _, _, _, _]) rfl rfl rfl rfl (flat_v rfl) rfl rfl (Nat.le_of_ble_eq_true rfl) rfl) rfl ?_
                      refine k_done rfl ?_
                      refine thenK_n ?_
                      refine W_seq ?_
                      refine W_seqK (b' := 403) rfl rfl ?_
                      refine k_op0 (d := 158) (b := 323) (j' := 1) rfl rfl rfl rfl (.plain rfl) (T_fa D (m := 5) rfl rfl rfl rfl rfl rfl) rfl ?_
                      refine k_op0 (d := 159) (b := 339) (j' := 2) rfl rfl rfl rfl (.plain rfl) (T_load_b D rfl rfl rfl rfl rfl rfl) rfl ?_
                      refine k_op0 (d := 160) (b := 355) (j' := 3) rfl rfl rfl rfl (.plain rfl) (T_move rfl rfl) rfl ?_
                      refine k_op0 (d := 161) (b := 371) (j' := 4) rfl rfl rfl rfl (.plain rfl) (T_callV (lvs := [_, _]) (L := []) (within_spec _ _) body125 rfl rfl rfl rfl (.nil) rfl) rfl ?_
                      refine k_op0 (d := 162) (b := 387) (j' := 5) rfl rfl rfl rfl (.plain rfl) (T_not rfl rfl) rfl ?_
                      refine k_done rfl ?_
                      refine thenK_n ?_
                      refine W_cond rfl (fun g44 => ?_) (fun g44 => ?_)
                      · have h44 := g44; (try simp only [cmpB, decide_eq_true_eq, decide_eq_false_iff_not, beq_iff_eq, beq_eq_false_iff_ne, bne_iff_ne, ne_eq, bne_eq_false_iff_eq, Bool.not_eq_true', Bool.not_eq_false', Int.not_lt, Int.not_le] at h44)
                        refine W_seq ?_
                        refine W_seqK (b' := 419) rfl rfl ?_
                        refine k_op0 (d := 8) (b := 403) (j' := 1) rfl rfl rfl rfl (.plain rfl) (T_assign rfl rfl) rfl ?_
                        refine k_done rfl ?_
                        refine thenK_n ?_
                        refine W_ret ?_
                        refine blockK_r ?_
                        refine thenK_r ?_
                        -- end 22
                        exact .mk [] (.inr rfl) (.tmp rfl (.nil)) (by first | rfl | (simp only [resLV, LV.ren, LV.v.injEq, Value.bool.injEq]; refine fits_no (fun hF => ?_); obtain ⟨a1, a2, a3, a4, a5, a6, a7, a8⟩ := hF; first | omega | (have k4 := a4 (by omega); omega) | (have k6 := a6 (by omega); omega) | exact absurd ((a2 (by assumption)).symm.trans (by assumption : _ = false)) (by decide) | exact absurd ((a5 (by omega)).symm.trans (by assumption : _ = false)) (by decide) | exact absurd ((a7 (by omega)).symm.trans (by assumption : _ = false)) (by decide) | exact absurd ((a3 _ (getD_mem (i := j) (by omega))).symm.trans (by assumption : _ = false)) (by decide)) | (simp only [resLV, LV.ren, LV.v.injEq, Value.bool.injEq]; exact fits_fin hj18 (fun _ => by omega) (fun _ => by first | assumption | (exfalso; omega)) (fun _ => by omega) (fun _ => by first | assumption | (exfalso; omega)) (by first | exact (if_pos (by omega)).symm | exact (if_neg (by omega)).symm) (by first | exact (if_pos (by omega)).symm | exact (if_neg (by omega)).symm) (by first | exact (if_pos (by omega)).symm | exact (if_neg (by omega)).symm) (by first | exact (if_pos (by omega)).symm | exact (if_neg (by omega)).symm))) (.nil) rfl
                      · have h44 := g44; (try simp only [cmpB, decide_eq_true_eq, decide_eq_false_iff_not, beq_iff_eq, beq_eq_false_iff_ne, bne_iff_ne, ne_eq, bne_eq_false_iff_eq, Bool.not_eq_true', Bool.not_eq_false', Int.not_lt, Int.not_le] at h44)
                        refine W_skip ?_
                        refine blockK_n ?_
                        refine thenK_n ?_
                        refine W_seq ?_
                        refine W_seqK (b' := 467) rfl rfl ?_
                        refine k_op0 (d := 163) (b := 403) (j' := 1) rfl rfl rfl rfl (.plain rfl) (T_load_bA D (l := [_, _, _, _, _, _, _, _]) rfl rfl rfl rfl rfl rfl rfl) rfl ?_
                        refine k_op0 (d := 164) (b := 419) (j' := 2) rfl rfl rfl rfl (.plain rfl) (T_load_bA D (l := [_, _, _, _, _, _, _, _]) rfl rfl rfl rfl rfl rfl rfl) rfl ?_
                        refine k_op0 (d := 165) (b := 435) (j' := 3) rfl rfl rfl rfl (.plain rfl) (T_eqTac8 t rfl rfl rfl) rfl ?_
                        refine k_op0 (d := 8) (b := 451) (j' := 4) rfl rfl rfl rfl (.plain rfl) (T_assign rfl rfl) rfl ?_
                        refine k_done rfl ?_
                        refine thenK_n ?_
                        refine W_ret ?_
                        -- end 23
                        exact .mk [] (.inr rfl) (.tmp rfl (.nil)) (by first | rfl | (simp only [resLV, LV.ren, LV.v.injEq, Value.bool.injEq]; refine fits_no (fun hF => ?_); obtain ⟨a1, a2, a3, a4, a5, a6, a7, a8⟩ := hF; first | omega | (have k4 := a4 (by omega); omega) | (have k6 := a6 (by omega); omega) | exact absurd ((a2 (by assumption)).symm.trans (by assumption : _ = false)) (by decide) | exact absurd ((a5 (by omega)).symm.trans (by assumption : _ = false)) (by decide) | exact absurd ((a7 (by omega)).symm.trans (by assumption : _ = false)) (by decide) | exact absurd ((a3 _ (getD_mem (i := j) (by omega))).symm.trans (by assumption : _ = false)) (by decide)) | (simp only [resLV, LV.ren, LV.v.injEq, Value.bool.injEq]; exact fits_fin hj18 (fun _ => by omega) (fun _ => by first | assumption | (exfalso; omega)) (fun _ => by omega) (fun _ => by first | assumption | (exfalso; omega)) (by first | exact (if_pos (by omega)).symm | exact (if_neg (by omega)).symm) (by first | exact (if_pos (by omega)).symm | exact (if_neg (by omega)).symm) (by first | exact (if_pos (by omega)).symm | exact (if_neg (by omega)).symm) (by first | exact (if_pos (by omega)).symm | exact (if_neg (by omega)).symm))) (.nil) rfl
                    · have h43 := g43; (try simp only [cmpB, decide_eq_true_eq, decide_eq_false_iff_not, beq_iff_eq, beq_eq_false_iff_ne, bne_iff_ne, ne_eq, bne_eq_false_iff_eq, Bool.not_eq_true', Bool.not_eq_false', Int.not_lt, Int.not_le] at h43)
                      refine W_skip ?_
                      refine blockK_n ?_
                      refine thenK_n ?_
                      refine W_seq ?_
                      refine W_seqK (b' := 323) rfl rfl ?_
                      refine k_op0 (d := 163) (b := 259) (j' := 1) rfl rfl rfl rfl (.plain rfl) (T_load_bA D (l := [_, _, _, _, _, _, _, _]) rfl rfl rfl rfl rfl rfl rfl) rfl ?_
                      refine k_op0 (d := 164) (b := 275) (j' := 2) rfl rfl rfl rfl (.plain rfl) (T_load_bA D (l := [_, _, _, _, _, _, _, _]) rfl rfl rfl rfl rfl rfl rfl) rfl ?_
                      refine k_op0 (d := 165) (b := 291) (j' := 3) rfl rfl rfl rfl (.plain rfl) (T_eqTac8 t rfl rfl rfl) rfl ?_
                      refine k_op0 (d := 8) (b := 307) (j' := 4) rfl rfl rfl rfl (.plain rfl) (T_assign rfl rfl) rfl ?_
                      refine k_done rfl ?_
                      refine thenK_n ?_
                      refine W_ret ?_
                      -- end 24
                      exact .mk [] (.inr rfl) (.tmp rfl (.nil)) (by first | rfl | (simp only [resLV, LV.ren, LV.v.injEq, Value.bool.injEq]; refine fits_no (fun hF => ?_); obtain ⟨a1, a2, a3, a4, a5, a6, a7, a8⟩ := hF; first | omega | (have k4 := a4 (by omega); omega) | (have k6 := a6 (by omega); omega) | exact absurd ((a2 (by assumption)).symm.trans (by assumption : _ = false)) (by decide) | exact absurd ((a5 (by omega)).symm.trans (by assumption : _ = false)) (by decide) | exact absurd ((a7 (by omega)).symm.trans (by assumption : _ = false)) (by decide) | exact absurd ((a3 _ (getD_mem (i := j) (by omega))).symm.trans (by assumption : _ = false)) (by decide)) | (simp only [resLV, LV.ren, LV.v.injEq, Value.bool.injEq]; exact fits_fin hj18 (fun _ => by omega) (fun _ => by first | assumption | (exfalso; omega)) (fun _ => by omega) (fun _ => by first | assumption | (exfalso; omega)) (by first | exact (if_pos (by omega)).symm | exact (if_neg (by omega)).symm) (by first | exact (if_pos (by omega)).symm | exact (if_neg (by omega)).symm) (by first | exact (if_pos (by omega)).symm | exact (if_neg (by omega)).symm) (by first | exact (if_pos (by omega)).symm | exact (if_neg (by omega)).symm))) (.nil) rfl
end Lg
end Go.Proofs.Ytpfhmodjjljpjaa

namespace Go.Proofs.Ytpfhmodjjljpjaa
open Go.RowKit
namespace Lg
set_option maxRecDepth 100000
set_option linter.unusedVariables false
set_option linter.unusedSimpArgs false



theorem body47 : (Try.prog.funcs[47]?).map (fun fn => (fn.name == "runtime.NumGoroutine" || fn.body.isNone)) = some false := by kernel_rfl
theorem one_fn_spec (f : GFn) (number words : Int) (hf : FnOk f) (hw : -4611686018427387904 ≤ words ∧ words ≤ 4611686018427387904) : Spec Try.prog 47 [.agg [.v (.int .i64 f.regs), .r 1], .v (.int .i64 number), .v (.int .i64 words)] 2 [(1, .fz 5 (f.blocks.map eBlock))] (.v (.bool (oneB f number words))) 2 [] := by
  have hf1 := hf.1
  refine spec_of D (fn := Try.f47) rfl rfl (Nat.le_of_ble_eq_true rfl) ?_
  refine W_seq ?_
  refine W_seqK (b' := 34) rfl rfl ?_
  refine k_op1 (d := 3) (b := 2) (j' := 1) rfl rfl rfl rfl (.plain rfl) (T_box rfl rfl flat_agg) rfl ?_
  refine k_op0 (d := 6) (b := 18) (j' := 2) rfl rfl rfl rfl (.plain rfl) (T_assign rfl rfl) rfl ?_
  refine k_done rfl ?_
  refine thenK_n ?_
  refine W_seq ?_
  refine W_seq ?_
  refine W_seqK (b' := 258) rfl rfl ?_
  refine k_op0 (d := 9) (b := 34) (j' := 1) rfl rfl rfl rfl (.plain rfl) (T_fa D (m := 0) rfl rfl rfl rfl rfl rfl) rfl ?_
  refine k_op0 (d := 10) (b := 50) (j' := 2) rfl rfl rfl rfl (.plain rfl) (T_load_b D rfl rfl rfl rfl rfl rfl) rfl ?_
  refine k_op0 (d := 11) (b := 66) (j' := 3) rfl rfl rfl rfl (.plain rfl) (T_cmp rfl rfl rfl rfl) rfl ?_
  refine k_op0 (d := 12) (b := 82) (j' := 4) rfl rfl rfl rfl (.plain rfl) (T_move rfl rfl) rfl ?_
  refine k_split (d := 12) rfl (fun g1 => ?_) (fun g1 => ?_)
  · have h1 := g1; (try simp only [cmpB, decide_eq_true_eq, decide_eq_false_iff_not, beq_iff_eq, beq_eq_false_iff_ne, bne_iff_ne, ne_eq, bne_eq_false_iff_eq, Bool.not_eq_true', Bool.not_eq_false', Int.not_lt, Int.not_le] at h1)
    refine k_no (d := 13) (j' := 5) rfl rfl rfl (g_ft rfl rfl rfl g1) ?_
    refine k_no (d := 14) (j' := 6) rfl rfl rfl (g_ft rfl rfl rfl g1) ?_
    refine k_no (d := 15) (j' := 7) rfl rfl rfl (g_ft rfl rfl rfl g1) ?_
    refine k_op0 (d := 16) (b := 146) (j' := 8) rfl rfl rfl rfl (.plain rfl) (T_pick_t rfl rfl rfl g1) rfl ?_
    refine k_op0 (d := 17) (b := 162) (j' := 9) rfl rfl rfl rfl (.plain rfl) (T_move rfl rfl) rfl ?_
    refine k_no (d := 18) (j' := 10) rfl rfl rfl (g_ft rfl rfl rfl rfl) ?_
    refine k_no (d := 19) (j' := 11) rfl rfl rfl (g_ft rfl rfl rfl rfl) ?_
    refine k_no (d := 20) (j' := 12) rfl rfl rfl (g_ft rfl rfl rfl rfl) ?_
    refine k_no (d := 21) (j' := 13) rfl rfl rfl (g_ft rfl rfl rfl rfl) ?_
    refine k_op0 (d := 22) (b := 242) (j' := 14) rfl rfl rfl rfl (.plain rfl) (T_pick_t rfl rfl rfl rfl) rfl ?_
    refine k_done rfl ?_
    refine thenK_n ?_
    refine W_cond rfl (fun g2 => ?_) (fun g2 => ?_)
    · skip
      refine W_seq ?_
      refine W_seqK (b' := 274) rfl rfl ?_
      refine k_op0 (d := 6) (b := 258) (j' := 1) rfl rfl rfl rfl (.plain rfl) (T_assign rfl rfl) rfl ?_
      refine k_done rfl ?_
      refine thenK_n ?_
      refine W_ret ?_
      refine thenK_r ?_
      -- end 0
      exact .mk [] (.inr rfl) (.tmp rfl (.nil)) (by first | rfl | (simp only [resLV, LV.ren, LV.v.injEq, Value.bool.injEq]; first | exact one_no1 (by omega) | exact one_no2 (j := j) (by omega) (by assumption) | exact one_no3 (j := j) (i := i) (by omega) (by omega) (by assumption) | exact one_yes (by omega) (by omega) (fun i h => hJ.2 i (by omega)))) (.nil) rfl
    · exact absurd (g2.symm.trans rfl) (by decide)
  · have h1 := g1; (try simp only [cmpB, decide_eq_true_eq, decide_eq_false_iff_not, beq_iff_eq, beq_eq_false_iff_ne, bne_iff_ne, ne_eq, bne_eq_false_iff_eq, Bool.not_eq_true', Bool.not_eq_false', Int.not_lt, Int.not_le] at h1)
    refine k_op0 (d := 13) (b := 98) (j' := 5) rfl rfl rfl rfl (g_ff rfl rfl rfl g1) (T_fa D (m := 0) rfl rfl rfl rfl rfl rfl) rfl ?_
    refine k_op0 (d := 14) (b := 114) (j' := 6) rfl rfl rfl rfl (g_ff rfl rfl rfl g1) (T_load_b D rfl rfl rfl rfl rfl rfl) rfl ?_
    refine k_op0 (d := 15) (b := 130) (j' := 7) rfl rfl rfl rfl (g_ff rfl rfl rfl g1) (T_cmp rfl rfl rfl rfl) rfl ?_
    refine k_op0 (d := 16) (b := 146) (j' := 8) rfl rfl rfl rfl (.plain rfl) (T_pick_f rfl rfl rfl g1) rfl ?_
    refine k_op0 (d := 17) (b := 162) (j' := 9) rfl rfl rfl rfl (.plain rfl) (T_move rfl rfl) rfl ?_
    refine k_split (d := 17) rfl (fun g3 => ?_) (fun g3 => ?_)
    · have h3 := g3; (try simp only [cmpB, decide_eq_true_eq, decide_eq_false_iff_not, beq_iff_eq, beq_eq_false_iff_ne, bne_iff_ne, ne_eq, bne_eq_false_iff_eq, Bool.not_eq_true', Bool.not_eq_false', Int.not_lt, Int.not_le] at h3)
      refine k_no (d := 18) (j' := 10) rfl rfl rfl (g_ft rfl rfl rfl g3) ?_
      refine k_no (d := 19) (j' := 11) rfl rfl rfl (g_ft rfl rfl rfl g3) ?_
      refine k_no (d := 20) (j' := 12) rfl rfl rfl (g_ft rfl rfl rfl g3) ?_
      refine k_no (d := 21) (j' := 13) rfl rfl rfl (g_ft rfl rfl rfl g3) ?_
      refine k_op0 (d := 22) (b := 242) (j' := 14) rfl rfl rfl rfl (.plain rfl) (T_pick_t rfl rfl rfl g3) rfl ?_
      refine k_done rfl ?_
      refine thenK_n ?_
      refine W_cond rfl (fun g4 => ?_) (fun g4 => ?_)
      · skip
        refine W_seq ?_
        refine W_seqK (b' := 274) rfl rfl ?_
        refine k_op0 (d := 6) (b := 258) (j' := 1) rfl rfl rfl rfl (.plain rfl) (T_assign rfl rfl) rfl ?_
        refine k_done rfl ?_
        refine thenK_n ?_
        refine W_ret ?_
        refine thenK_r ?_
        -- end 1
        exact .mk [] (.inr rfl) (.tmp rfl (.nil)) (by first | rfl | (simp only [resLV, LV.ren, LV.v.injEq, Value.bool.injEq]; first | exact one_no1 (by omega) | exact one_no2 (j := j) (by omega) (by assumption) | exact one_no3 (j := j) (i := i) (by omega) (by omega) (by assumption) | exact one_yes (by omega) (by omega) (fun i h => hJ.2 i (by omega)))) (.nil) rfl
      · exact absurd (g4.symm.trans rfl) (by decide)
    · have h3 := g3; (try simp only [cmpB, decide_eq_true_eq, decide_eq_false_iff_not, beq_iff_eq, beq_eq_false_iff_ne, bne_iff_ne, ne_eq, bne_eq_false_iff_eq, Bool.not_eq_true', Bool.not_eq_false', Int.not_lt, Int.not_le] at h3)
      refine k_op0 (d := 18) (b := 178) (j' := 10) rfl rfl rfl rfl (g_ff rfl rfl rfl g3) (T_fa D (m := 1) rfl rfl rfl rfl rfl rfl) rfl ?_
      refine k_op0 (d := 19) (b := 194) (j' := 11) rfl rfl rfl rfl (g_ff rfl rfl rfl g3) (T_load_b D rfl rfl rfl rfl rfl rfl) rfl ?_
      refine k_op0 (d := 20) (b := 210) (j' := 12) rfl rfl rfl rfl (g_ff rfl rfl rfl g3) (T_len D rfl rfl rfl rfl rfl rfl) rfl ?_
      refine k_op0 (d := 21) (b := 226) (j' := 13) rfl rfl rfl rfl (g_ff rfl rfl rfl g3) (T_cmp rfl rfl rfl rfl) rfl ?_
      refine k_op0 (d := 22) (b := 242) (j' := 14) rfl rfl rfl rfl (.plain rfl) (T_pick_f rfl rfl rfl g3) rfl ?_
      refine k_done rfl ?_
      refine thenK_n ?_
      refine W_cond rfl (fun g5 => ?_) (fun g5 => ?_)
      · have h5 := g5; (try simp only [cmpB, decide_eq_true_eq, decide_eq_false_iff_not, beq_iff_eq, beq_eq_false_iff_ne, bne_iff_ne, ne_eq, bne_eq_false_iff_eq, Bool.not_eq_true', Bool.not_eq_false', Int.not_lt, Int.not_le] at h5)
        refine W_seq ?_
        refine W_seqK (b' := 274) rfl rfl ?_
        refine k_op0 (d := 6) (b := 258) (j' := 1) rfl rfl rfl rfl (.plain rfl) (T_assign rfl rfl) rfl ?_
        refine k_done rfl ?_
        refine thenK_n ?_
        refine W_ret ?_
        refine thenK_r ?_
        -- end 2
        exact .mk [] (.inr rfl) (.tmp rfl (.nil)) (by first | rfl | (simp only [resLV, LV.ren, LV.v.injEq, Value.bool.injEq]; first | exact one_no1 (by omega) | exact one_no2 (j := j) (by omega) (by assumption) | exact one_no3 (j := j) (i := i) (by omega) (by omega) (by assumption) | exact one_yes (by omega) (by omega) (fun i h => hJ.2 i (by omega)))) (.nil) rfl
      · have h5 := g5; (try simp only [cmpB, decide_eq_true_eq, decide_eq_false_iff_not, beq_iff_eq, beq_eq_false_iff_ne, bne_iff_ne, ne_eq, bne_eq_false_iff_eq, Bool.not_eq_true', Bool.not_eq_false', Int.not_lt, Int.not_le] at h5)
        refine W_skip ?_
        refine thenK_n ?_
        refine W_seq ?_
        refine W_seq ?_
        refine W_seqK (b' := 274) rfl rfl ?_
        refine k_op0 (d := 7) (b := 258) (j' := 1) rfl rfl rfl rfl (.plain rfl) (T_assign rfl rfl) rfl ?_
        refine k_done rfl ?_
        refine thenK_n ?_
        refine W_block ?_
        refine W_loop (ι := Nat) 3 (fun j => ⟨[(1, .v (.int .i64 number)), (2, .v (.int .i64 words)), (3, .p 2 0), (7, .v (.int .i64 (j : Int)))], [(1, .fz 5 (f.blocks.map eBlock)), (2, .box 29 [.v (.int .i64 f.regs), .r 1])]⟩) (fun j => j ≤ f.blocks.length ∧ ∀ i, i < j → blockB (f.blocks.getD i default) f.blocks.length number f.regs words = true) (fun j => f.blocks.length - j) (0) (by exact ⟨Nat.zero_le _, fun i h => absurd h (Nat.not_lt_zero _)⟩) ?_ (fun j hJ => ?_)
        · exact ⟨[(2, 2)], .eq rfl (.eq rfl (.same rfl rfl (.eq rfl (.nil) (by first | rfl | simp))) (by first | rfl | simp)) (by first | rfl | simp), .fzE rfl (.box (by first | rfl | simp) (.nil)) (by first | rfl | simp), rfl⟩
        refine W_seq ?_
        refine W_seq ?_
        refine W_seqK (b' := 83) rfl rfl ?_
        refine k_op0 (d := 23) (b := 3) (j' := 1) rfl rfl rfl rfl (.plain rfl) (T_move rfl rfl) rfl ?_
        refine k_op0 (d := 24) (b := 19) (j' := 2) rfl rfl rfl rfl (.plain rfl) (T_fa D (m := 1) rfl rfl rfl rfl rfl rfl) rfl ?_
        refine k_op0 (d := 25) (b := 35) (j' := 3) rfl rfl rfl rfl (.plain rfl) (T_load_b D rfl rfl rfl rfl rfl rfl) rfl ?_
        refine k_op0 (d := 26) (b := 51) (j' := 4) rfl rfl rfl rfl (.plain rfl) (T_len D rfl rfl rfl rfl rfl rfl) rfl ?_
        refine k_op0 (d := 27) (b := 67) (j' := 5) rfl rfl rfl rfl (.plain rfl) (T_cmp rfl rfl rfl rfl) rfl ?_
        refine k_done rfl ?_
        refine thenK_n ?_
        refine W_cond rfl (fun g6 => ?_) (fun g6 => ?_)
        · have h6 := g6; (try simp only [cmpB, decide_eq_true_eq, decide_eq_false_iff_not, beq_iff_eq, beq_eq_false_iff_ne, bne_iff_ne, ne_eq, bne_eq_false_iff_eq, Bool.not_eq_true', Bool.not_eq_false', Int.not_lt, Int.not_le] at h6)
          refine W_skip ?_
          refine thenK_n ?_
          refine W_seq ?_
          refine W_block ?_
          refine W_seq ?_
          refine W_seq ?_
          refine W_anyK (b' := 275) rfl rfl rfl ?_
          refine k_op0 (d := 30) (b := 83) (j' := 1) rfl rfl rfl rfl (.plain rfl) (T_fa D (m := 1) rfl rfl rfl rfl rfl rfl) rfl ?_
          refine k_op0 (d := 31) (b := 99) (j' := 2) rfl rfl rfl rfl (.plain rfl) (T_load_b D rfl rfl rfl rfl rfl rfl) rfl ?_
          refine k_op0 (d := 32) (b := 115) (j' := 3) rfl rfl rfl rfl (.plain rfl) (T_move rfl rfl) rfl ?_
          first | refine k_op0 (d := 33) (b := 131) (j' := 4) rfl rfl rfl rfl (.plain rfl) (T_indexAddr D rfl rfl rfl rfl rfl rfl rfl rfl (by first | assumption | omega | (simp; omega))) rfl ?_ | refine k_op0 (d := 33) (b := 131) (j' := 4) rfl rfl rfl rfl (.plain rfl) (T_indexAddrZ D rfl rfl rfl rfl rfl rfl rfl rfl (by first | assumption | omega | (simp; omega)) (by first | assumption | omega | (simp; omega))) rfl ?_
          refine k_op1 (d := 34) (b := 147) (j' := 5) rfl rfl rfl rfl (.plain rfl) (T_ldEA D (l := [.r 147, .v _, .v _, .v _, .v _]) (nn := 1) (upd := [(147, .fz 8 _)]) rfl rfl rfl rfl rfl (by first | assumption | omega | (simp; omega)) rfl rfl rfl rfl rfl) rfl ?_
          refine k_op0 (d := 35) (b := 163) (j' := 6) rfl rfl rfl rfl (.plain rfl) (T_fa D (m := 1) rfl rfl rfl rfl rfl rfl) rfl ?_
          refine k_op0 (d := 36) (b := 179) (j' := 7) rfl rfl rfl rfl (.plain rfl) (T_load_b D rfl rfl rfl rfl rfl rfl) rfl ?_
          refine k_op0 (d := 37) (b := 195) (j' := 8) rfl rfl rfl rfl (.plain rfl) (T_len D rfl rfl rfl rfl rfl rfl) rfl ?_
          refine k_op0 (d := 38) (b := 211) (j' := 9) rfl rfl rfl rfl (.plain rfl) (T_fa D (m := 0) rfl rfl rfl rfl rfl rfl) rfl ?_
          refine k_op0 (d := 39) (b := 227) (j' := 10) rfl rfl rfl rfl (.plain rfl) (T_load_b D rfl rfl rfl rfl rfl rfl) rfl ?_
          refine k_op0 (d := 40) (b := 243) (j' := 11) rfl rfl rfl rfl (.plain rfl) (T_callV (lvs := [_, _, _]) (L := [(1, 147)]) (ends_spec _ _ _) body87 rfl rfl rfl rfl (.fz rfl (.nil)) rfl) rfl ?_
          refine k_op0 (d := 41) (b := 259) (j' := 12) rfl rfl rfl rfl (.plain rfl) (T_not rfl rfl) rfl ?_
          refine k_done rfl ?_
          refine ⟨rfl, ?_⟩
          refine thenK_n ?_
          refine W_cond rfl (fun g7 => ?_) (fun g7 => ?_)
          · have h7 := g7; (try simp only [cmpB, decide_eq_true_eq, decide_eq_false_iff_not, beq_iff_eq, beq_eq_false_iff_ne, bne_iff_ne, ne_eq, bne_eq_false_iff_eq, Bool.not_eq_true', Bool.not_eq_false', Int.not_lt, Int.not_le] at h7)
            refine W_seq ?_
            refine W_seqK (b' := 291) rfl rfl ?_
            refine k_op0 (d := 6) (b := 275) (j' := 1) rfl rfl rfl rfl (.plain rfl) (T_assign rfl rfl) rfl ?_
            refine k_done rfl ?_
            refine thenK_n ?_
            refine W_ret ?_
            refine thenK_r ?_
            refine blockK_r ?_
            refine thenK_r ?_
            refine thenK_r ?_
            refine blockK_r ?_
            refine thenK_r ?_
            -- end 3
            exact .mk [] (.inr rfl) (.tmp rfl (.nil)) (by first | rfl | (simp only [resLV, LV.ren, LV.v.injEq, Value.bool.injEq]; first | exact one_no1 (by omega) | exact one_no2 (j := j) (by omega) (by assumption) | exact one_no3 (j := j) (i := i) (by omega) (by omega) (by assumption) | exact one_yes (by omega) (by omega) (fun i h => hJ.2 i (by omega)))) (.nil) rfl
          · have h7 := g7; (try simp only [cmpB, decide_eq_true_eq, decide_eq_false_iff_not, beq_iff_eq, beq_eq_false_iff_ne, bne_iff_ne, ne_eq, bne_eq_false_iff_eq, Bool.not_eq_true', Bool.not_eq_false', Int.not_lt, Int.not_le] at h7)
            refine W_skip ?_
            refine thenK_n ?_
            refine W_seq ?_
            refine W_seqK (b' := 291) rfl rfl ?_
            refine k_op0 (d := 8) (b := 275) (j' := 1) rfl rfl rfl rfl (.plain rfl) (T_assign rfl rfl) rfl ?_
            refine k_done rfl ?_
            refine thenK_n ?_
            refine W_block ?_
            have hij := hf.2 (f.blocks.getD j default) (getD_mem (by omega))
            have hends : endsB (f.blocks.getD j default) f.blocks.length f.regs = true := by assumption
            refine W_loop (ι := Nat) 3 (fun i => ⟨[(1, .v (.int .i64 number)), (2, .v (.int .i64 words)), (3, .p 2 0), (7, .v (.int .i64 (j : Int))), (8, .v (.int .i64 (i : Int)))], [(1, .fz 5 (f.blocks.map eBlock)), (2, .box 29 [.v (.int .i64 f.regs), .r 1])]⟩) (fun i => i ≤ (f.blocks.getD j default).ins.length ∧ ∀ m, m < i → fitsB ((f.blocks.getD j default).ins.getD m default) number f.regs words = true) (fun i => (f.blocks.getD j default).ins.length - i) (0) (by exact ⟨Nat.zero_le _, fun m h => absurd h (Nat.not_lt_zero _)⟩) ?_ (fun i hI => ?_)
            · exact ⟨[(2, 2)], .eq rfl (.eq rfl (.same rfl rfl (.eq rfl (.eq rfl (.nil) (by first | rfl | simp)) (by first | rfl | simp))) (by first | rfl | simp)) (by first | rfl | simp), .fzE rfl (.box (by first | rfl | simp) (.nil)) (by first | rfl | simp), rfl⟩
            refine W_seq ?_
            refine W_seq ?_
            refine W_seqK (b' := 147) rfl rfl ?_
            refine k_op0 (d := 42) (b := 3) (j' := 1) rfl rfl rfl rfl (.plain rfl) (T_move rfl rfl) rfl ?_
            refine k_op0 (d := 43) (b := 19) (j' := 2) rfl rfl rfl rfl (.plain rfl) (T_fa D (m := 1) rfl rfl rfl rfl rfl rfl) rfl ?_
            refine k_op0 (d := 44) (b := 35) (j' := 3) rfl rfl rfl rfl (.plain rfl) (T_load_b D rfl rfl rfl rfl rfl rfl) rfl ?_
            refine k_op0 (d := 45) (b := 51) (j' := 4) rfl rfl rfl rfl (.plain rfl) (T_move rfl rfl) rfl ?_
            first | refine k_op0 (d := 46) (b := 67) (j' := 5) rfl rfl rfl rfl (.plain rfl) (T_indexAddr D rfl rfl rfl rfl rfl rfl rfl rfl (by first | assumption | omega | (simp; omega))) rfl ?_ | refine k_op0 (d := 46) (b := 67) (j' := 5) rfl rfl rfl rfl (.plain rfl) (T_indexAddrZ D rfl rfl rfl rfl rfl rfl rfl rfl (by first | assumption | omega | (simp; omega)) (by first | assumption | omega | (simp; omega))) rfl ?_
            refine k_op0 (d := 47) (b := 83) (j' := 6) rfl rfl rfl rfl (.plain rfl) (T_fae D (m := 0) rfl rfl rfl rfl rfl rfl) rfl ?_
            refine k_op1 (d := 48) (b := 99) (j' := 7) rfl rfl rfl rfl (.plain rfl) (T_ldE D (lv := .r 99) (nn := 1) (upd := [(99, .fz 8 _)]) rfl rfl rfl rfl rfl (by first | assumption | omega | (simp; omega)) rfl rfl rfl rfl) rfl ?_
            refine k_op0 (d := 49) (b := 115) (j' := 8) rfl rfl rfl rfl (.plain rfl) (T_len D rfl rfl rfl rfl rfl rfl) rfl ?_
            refine k_op0 (d := 50) (b := 131) (j' := 9) rfl rfl rfl rfl (.plain rfl) (T_cmp rfl rfl rfl rfl) rfl ?_
            refine k_done rfl ?_
            refine thenK_n ?_
            refine W_cond rfl (fun g8 => ?_) (fun g8 => ?_)
            · have h8 := g8; (try simp only [cmpB, decide_eq_true_eq, decide_eq_false_iff_not, beq_iff_eq, beq_eq_false_iff_ne, bne_iff_ne, ne_eq, bne_eq_false_iff_eq, Bool.not_eq_true', Bool.not_eq_false', Int.not_lt, Int.not_le] at h8)
              refine W_skip ?_
              refine thenK_n ?_
              refine W_seq ?_
              refine W_block ?_
              refine W_seq ?_
              refine W_anyK (b' := 387) rfl rfl rfl ?_
              refine k_op0 (d := 53) (b := 147) (j' := 1) rfl rfl rfl rfl (.plain rfl) (T_fa D (m := 1) rfl rfl rfl rfl rfl rfl) rfl ?_
              refine k_op0 (d := 54) (b := 163) (j' := 2) rfl rfl rfl rfl (.plain rfl) (T_load_b D rfl rfl rfl rfl rfl rfl) rfl ?_
              refine k_op0 (d := 55) (b := 179) (j' := 3) rfl rfl rfl rfl (.plain rfl) (T_move rfl rfl) rfl ?_
              first | refine k_op0 (d := 56) (b := 195) (j' := 4) rfl rfl rfl rfl (.plain rfl) (T_indexAddr D rfl rfl rfl rfl rfl rfl rfl rfl (by first | assumption | omega | (simp; omega))) rfl ?_ | refine k_op0 (d := 56) (b := 195) (j' := 4) rfl rfl rfl rfl (.plain rfl) (T_indexAddrZ D rfl rfl rfl rfl rfl rfl rfl rfl (by first | assumption | omega | (simp; omega)) (by first | assumption | omega | (simp; omega))) rfl ?_
              refine k_op0 (d := 57) (b := 211) (j' := 5) rfl rfl rfl rfl (.plain rfl) (T_fae D (m := 0) rfl rfl rfl rfl rfl rfl) rfl ?_
              refine k_op1 (d := 58) (b := 227) (j' := 6) rfl rfl rfl rfl (.plain rfl) (T_ldE D (lv := .r 227) (nn := 1) (upd := [(227, .fz 8 _)]) rfl rfl rfl rfl rfl (by first | assumption | omega | (simp; omega)) rfl rfl rfl rfl) rfl ?_
              refine k_op0 (d := 59) (b := 243) (j' := 7) rfl rfl rfl rfl (.plain rfl) (T_move rfl rfl) rfl ?_
              first | refine k_op0 (d := 60) (b := 259) (j' := 8) rfl rfl rfl rfl (.plain rfl) (T_indexAddr D rfl rfl rfl rfl rfl rfl rfl rfl (by first | assumption | omega | (simp; omega))) rfl ?_ | refine k_op0 (d := 60) (b := 259) (j' := 8) rfl rfl rfl rfl (.plain rfl) (T_indexAddrZ D rfl rfl rfl rfl rfl rfl rfl rfl (by first | assumption | omega | (simp; omega)) (by first | assumption | omega | (simp; omega))) rfl ?_
              refine k_op0 (d := 61) (b := 275) (j' := 9) rfl rfl rfl rfl (.plain rfl) (T_ldEA D (l := [.v _, .v _, .v _, .v _, .v _, .v _, .v _, .v _]) (nn := 0) (upd := []) rfl rfl rfl rfl rfl (by first | assumption | omega | (simp; omega)) rfl rfl rfl rfl rfl) rfl ?_
              refine k_op0 (d := 62) (b := 291) (j' := 10) rfl rfl rfl rfl (.plain rfl) (T_move rfl rfl) rfl ?_
              refine k_op0 (d := 63) (b := 307) (j' := 11) rfl rfl rfl rfl (.plain rfl) (T_fa D (m := 0) rfl rfl rfl rfl rfl rfl) rfl ?_
              refine k_op0 (d := 64) (b := 323) (j' := 12) rfl rfl rfl rfl (.plain rfl) (T_load_b D rfl rfl rfl rfl rfl rfl) rfl ?_
              refine k_op0 (d := 65) (b := 339) (j' := 13) rfl rfl rfl rfl (.plain rfl) (T_move rfl rfl) rfl ?_
              refine k_op0 (d := 66) (b := 355) (j' := 14) rfl rfl rfl rfl (.plain rfl) (T_callV (lvs := [_, _, _, _]) (L := []) (fits_spec _ _ _ _ hw) body88 rfl rfl rfl rfl (.nil) rfl) rfl ?_
              refine k_op0 (d := 67) (b := 371) (j' := 15) rfl rfl rfl rfl (.plain rfl) (T_not rfl rfl) rfl ?_
              refine k_done rfl ?_
              refine ⟨rfl, ?_⟩
              refine thenK_n ?_
              refine W_cond rfl (fun g9 => ?_) (fun g9 => ?_)
              · have h9 := g9; (try simp only [cmpB, decide_eq_true_eq, decide_eq_false_iff_not, beq_iff_eq, beq_eq_false_iff_ne, bne_iff_ne, ne_eq, bne_eq_false_iff_eq, Bool.not_eq_true', Bool.not_eq_false', Int.not_lt, Int.not_le] at h9)
                refine W_seq ?_
                refine W_seqK (b' := 403) rfl rfl ?_
                refine k_op0 (d := 6) (b := 387) (j' := 1) rfl rfl rfl rfl (.plain rfl) (T_assign rfl rfl) rfl ?_
                refine k_done rfl ?_
                refine thenK_n ?_
                refine W_ret ?_
                refine blockK_r ?_
                refine thenK_r ?_
                refine thenK_r ?_
                refine blockK_r ?_
                refine blockK_r ?_
                refine thenK_r ?_
                refine thenK_r ?_
                refine blockK_r ?_
                refine thenK_r ?_
                -- end 4
                exact .mk [] (.inr rfl) (.tmp rfl (.nil)) (by first | rfl | (simp only [resLV, LV.ren, LV.v.injEq, Value.bool.injEq]; first | exact one_no1 (by omega) | exact one_no2 (j := j) (by omega) (by assumption) | exact one_no3 (j := j) (i := i) (by omega) (by omega) (by assumption) | exact one_yes (by omega) (by omega) (fun i h => hJ.2 i (by omega)))) (.nil) rfl
              · have h9 := g9; (try simp only [cmpB, decide_eq_true_eq, decide_eq_false_iff_not, beq_iff_eq, beq_eq_false_iff_ne, bne_iff_ne, ne_eq, bne_eq_false_iff_eq, Bool.not_eq_true', Bool.not_eq_false', Int.not_lt, Int.not_le] at h9)
                refine W_skip ?_
                refine blockK_n ?_
                refine thenK_n ?_
                refine W_seqK (b' := 435) rfl rfl ?_
                refine k_op0 (d := 51) (b := 387) (j' := 1) rfl rfl rfl rfl (.plain rfl) (T_move rfl rfl) rfl ?_
                refine k_op0 (d := 52) (b := 403) (j' := 2) rfl rfl rfl rfl (.plain rfl) (T_add64 rfl rfl rfl (by first | assumption | omega | (simp; omega))) rfl ?_
                refine k_op0 (d := 8) (b := 419) (j' := 3) rfl rfl rfl rfl (.plain rfl) (T_assign rfl rfl) rfl ?_
                refine k_done rfl ?_
                refine thenK_n ?_
                refine ⟨i + 1, by (try dsimp only); exact ⟨by omega, fun m hm => by rcases Nat.lt_or_ge m i with h | h; exact hI.2 m h; rw [show m = i by omega]; assumption⟩, by (try dsimp only); omega, ?_⟩
                exact ⟨[(2, 2)], .eq rfl (.eq rfl (.same rfl rfl (.eq rfl (.eq rfl (.nil) (by first | rfl | simp)) (by first | rfl | simp))) (by first | rfl | simp)) (by first | rfl | simp), .fzE rfl (.box (by first | rfl | simp) (.nil)) (by first | rfl | simp), rfl⟩
            · have h8 := g8; (try simp only [cmpB, decide_eq_true_eq, decide_eq_false_iff_not, beq_iff_eq, beq_eq_false_iff_ne, bne_iff_ne, ne_eq, bne_eq_false_iff_eq, Bool.not_eq_true', Bool.not_eq_false', Int.not_lt, Int.not_le] at h8)
              refine W_exit ?_
              refine thenK_e ?_
              refine thenK_e ?_
              refine blockK_hit ?_
              refine blockK_n ?_
              refine thenK_n ?_
              refine W_seqK (b' := 195) rfl rfl ?_
              refine k_op0 (d := 28) (b := 147) (j' := 1) rfl rfl rfl rfl (.plain rfl) (T_move rfl rfl) rfl ?_
              refine k_op0 (d := 29) (b := 163) (j' := 2) rfl rfl rfl rfl (.plain rfl) (T_add64 rfl rfl rfl (by first | assumption | omega | (simp; omega))) rfl ?_
              refine k_op0 (d := 7) (b := 179) (j' := 3) rfl rfl rfl rfl (.plain rfl) (T_assign rfl rfl) rfl ?_
              refine k_done rfl ?_
              refine thenK_n ?_
              refine ⟨j + 1, by (try dsimp only); exact ⟨by omega, fun i1 h => by rcases Nat.lt_or_ge i1 j with h0 | h0; exact hJ.2 i1 h0; rw [show i1 = j by omega]; exact blockB_t hends (fun m hm => hI.2 m (by omega))⟩, by (try dsimp only); omega, ?_⟩
              exact ⟨[(2, 2)], .eq rfl (.eq rfl (.same rfl rfl (.eq rfl (.nil) (by first | rfl | simp))) (by first | rfl | simp)) (by first | rfl | simp), .fzE rfl (.box (by first | rfl | simp) (.nil)) (by first | rfl | simp), rfl⟩
        · have h6 := g6; (try simp only [cmpB, decide_eq_true_eq, decide_eq_false_iff_not, beq_iff_eq, beq_eq_false_iff_ne, bne_iff_ne, ne_eq, bne_eq_false_iff_eq, Bool.not_eq_true', Bool.not_eq_false', Int.not_lt, Int.not_le] at h6)
          refine W_exit ?_
          refine thenK_e ?_
          refine thenK_e ?_
          refine blockK_hit ?_
          refine thenK_n ?_
          refine W_seq ?_
          refine W_seqK (b' := 99) rfl rfl ?_
          refine k_op0 (d := 6) (b := 83) (j' := 1) rfl rfl rfl rfl (.plain rfl) (T_assign rfl rfl) rfl ?_
          refine k_done rfl ?_
          refine thenK_n ?_
          refine W_ret ?_
          -- end 5
          exact .mk [] (.inr rfl) (.tmp rfl (.nil)) (by first | rfl | (simp only [resLV, LV.ren, LV.v.injEq, Value.bool.injEq]; first | exact one_no1 (by omega) | exact one_no2 (j := j) (by omega) (by assumption) | exact one_no3 (j := j) (i := i) (by omega) (by omega) (by assumption) | exact one_yes (by omega) (by omega) (fun i h => hJ.2 i (by omega)))) (.nil) rfl
end Lg
end Go.Proofs.Ytpfhmodjjljpjaa

namespace Go.Proofs.Ytpfhmodjjljpjaa
open Go.RowKit
namespace Lg
def PgOk (p : GProg) : Prop := p.funcs.length ≤ 140737488351232 ∧ ∀ f ∈ p.funcs, FnOk f
theorem pgOk {p : GProg} (h : WProg p) : PgOk p := ⟨by have := h.len; omega, fun f hf => fnOk (h.each f hf)⟩
theorem right_no1 {p : GProg} (h : ¬ (0 ≤ p.words ∧ p.words ≤ 1048576 ∧ ¬ (p.funcs.length : Int) = 0)) : false = rightB p := by
  unfold rightB
  rw [decide_eq_false (fun hk => h ⟨hk.1, hk.2.1, fun e => hk.2.2 (List.eq_nil_of_length_eq_zero (by omega))⟩)]
  rfl
theorem right_no2 {p : GProg} {j : Nat} (hj : j < p.funcs.length) (h : oneB (p.funcs.getD j default) (j : Int) p.words = false) : false = rightB p := by
  unfold rightB
  rw [range_all_false hj h, Bool.and_false]
theorem right_yes {p : GProg} (h : 0 ≤ p.words ∧ p.words ≤ 1048576) (h0 : ¬ (p.funcs.length : Int) = 0) (hb : ∀ i, i < p.funcs.length → oneB (p.funcs.getD i default) (i : Int) p.words = true) : true = rightB p := by
  unfold rightB
  rw [decide_eq_true ⟨h.1, h.2, fun e => h0 (by rw [e]; rfl)⟩, range_all_true hb]
  rfl
def szB (f : GFn) (i : Nat) : Nat := ((f.blocks.take i).map (fun b => 1 + b.ins.length)).sum
def szP (p : GProg) (j : Nat) : Nat := ((p.funcs.take j).map (fun f => szB f f.blocks.length)).sum
theorem szB_succ {f : GFn} {i : Nat} (h : i < f.blocks.length) : szB f (i + 1) = szB f i + 1 + (f.blocks.getD i default).ins.length := by
  unfold szB
  rw [take_succ_getD h]
  simp only [List.map_append, List.sum_append, List.map_cons, List.map_nil, List.sum_cons, List.sum_nil]
  omega
theorem szP_succ {p : GProg} {j : Nat} (h : j < p.funcs.length) : szP p (j + 1) = szP p j + szB (p.funcs.getD j default) (p.funcs.getD j default).blocks.length := by
  unfold szP
  rw [take_succ_getD h]
  simp only [List.map_append, List.sum_append, List.map_cons, List.map_nil, List.sum_cons, List.sum_nil]
  omega
theorem szB_le {f : GFn} (hf : FnOk f) : ∀ (i : Nat), i ≤ f.blocks.length → szB f i ≤ i * 140737488351233
  | 0, _ => by simp [szB]
  | i + 1, h => by
    have h1 := szB_le hf i (by omega)
    have h2 := hf.2 (f.blocks.getD i default) (getD_mem (by omega))
    rw [szB_succ (by omega), Nat.succ_mul]
    omega
def smallF (f : GFn) : Bool := decide (f.regs ≤ 60) && decide ((f.blocks.length : Int) ≤ 40)
def smallG (p : GProg) (most : Int) : Bool := decide (p.words ≤ 500 ∧ (p.funcs.length : Int) ≤ 10) && p.funcs.all smallF && decide ((szP p p.funcs.length : Int) ≤ most) && rightB p
theorem small_no1 {p : GProg} {most : Int} (h : ¬ (p.words ≤ 500 ∧ (p.funcs.length : Int) ≤ 10)) : false = smallG p most := by
  unfold smallG
  rw [decide_eq_false h]; rfl
theorem small_no2 {p : GProg} {most : Int} {j : Nat} (hj : j < p.funcs.length) (h : ¬ ((p.funcs.getD j default).regs ≤ 60 ∧ ((p.funcs.getD j default).blocks.length : Int) ≤ 40)) : false = smallG p most := by
  unfold smallG
  rw [all_false_at hj (by
    unfold smallF
    by_cases h1 : (p.funcs.getD j default).regs ≤ 60
    · rw [decide_eq_false (fun h2 => h ⟨h1, h2⟩), Bool.and_false]
    · rw [decide_eq_false h1]; rfl), Bool.and_false]; rfl
theorem small_yes {p : GProg} {most : Int} {x : Bool} (h : p.words ≤ 500 ∧ (p.funcs.length : Int) ≤ 10) (hj : ∀ j, j < p.funcs.length → (p.funcs.getD j default).regs ≤ 60 ∧ ((p.funcs.getD j default).blocks.length : Int) ≤ 40) (hx : x = (decide ((szP p p.funcs.length : Int) ≤ most) && rightB p)) : x = smallG p most := by
  unfold smallG
  rw [decide_eq_true h, all_iff_getD.2 (fun i hi => by unfold smallF; rw [decide_eq_true (hj i hi).1, decide_eq_true (hj i hi).2]; rfl), hx]
  rfl
end Lg
end Go.Proofs.Ytpfhmodjjljpjaa

namespace Go.Proofs.Ytpfhmodjjljpjaa
open Go.RowKit
namespace Lg
set_option maxRecDepth 100000
set_option linter.unusedVariables false
set_option linter.unusedSimpArgs false



theorem body35 : (Try.prog.funcs[35]?).map (fun fn => (fn.name == "runtime.NumGoroutine" || fn.body.isNone)) = some false := by kernel_rfl
theorem right_spec (p : GProg) (hp : PgOk p) : Spec Try.prog 35 [.agg [.v (.int .i64 p.words), .r 1]] 2 [(1, .fz 2 (p.funcs.map eFn))] (.v (.bool (rightB p))) 2 [] := by
  have hp1 := hp.1
  refine spec_of D (fn := Try.f35) rfl rfl (Nat.le_of_ble_eq_true rfl) ?_
  refine W_seq ?_
  refine W_seqK (b' := 34) rfl rfl ?_
  refine k_op1 (d := 1) (b := 2) (j' := 1) rfl rfl rfl rfl (.plain rfl) (T_box rfl rfl flat_agg) rfl ?_
  refine k_op0 (d := 2) (b := 18) (j' := 2) rfl rfl rfl rfl (.plain rfl) (T_assign rfl rfl) rfl ?_
  refine k_done rfl ?_
  refine thenK_n ?_
  refine W_seq ?_
  refine W_seq ?_
  refine W_seqK (b' := 258) rfl rfl ?_
  refine k_op0 (d := 4) (b := 34) (j' := 1) rfl rfl rfl rfl (.plain rfl) (T_fa D (m := 0) rfl rfl rfl rfl rfl rfl) rfl ?_
  refine k_op0 (d := 5) (b := 50) (j' := 2) rfl rfl rfl rfl (.plain rfl) (T_load_b D rfl rfl rfl rfl rfl rfl) rfl ?_
  refine k_op0 (d := 6) (b := 66) (j' := 3) rfl rfl rfl rfl (.plain rfl) (T_cmp rfl rfl rfl rfl) rfl ?_
  refine k_op0 (d := 7) (b := 82) (j' := 4) rfl rfl rfl rfl (.plain rfl) (T_move rfl rfl) rfl ?_
  refine k_split (d := 7) rfl (fun g1 => ?_) (fun g1 => ?_)
  · have h1 := g1; (try simp only [cmpB, decide_eq_true_eq, decide_eq_false_iff_not, beq_iff_eq, beq_eq_false_iff_ne, bne_iff_ne, ne_eq, bne_eq_false_iff_eq, Bool.not_eq_true', Bool.not_eq_false', Int.not_lt, Int.not_le] at h1)
    refine k_no (d := 8) (j' := 5) rfl rfl rfl (g_ft rfl rfl rfl g1) ?_
    refine k_no (d := 9) (j' := 6) rfl rfl rfl (g_ft rfl rfl rfl g1) ?_
    refine k_no (d := 10) (j' := 7) rfl rfl rfl (g_ft rfl rfl rfl g1) ?_
    refine k_op0 (d := 11) (b := 146) (j' := 8) rfl rfl rfl rfl (.plain rfl) (T_pick_t rfl rfl rfl g1) rfl ?_
    refine k_op0 (d := 12) (b := 162) (j' := 9) rfl rfl rfl rfl (.plain rfl) (T_move rfl rfl) rfl ?_
    refine k_no (d := 13) (j' := 10) rfl rfl rfl (g_ft rfl rfl rfl rfl) ?_
    refine k_no (d := 14) (j' := 11) rfl rfl rfl (g_ft rfl rfl rfl rfl) ?_
    refine k_no (d := 15) (j' := 12) rfl rfl rfl (g_ft rfl rfl rfl rfl) ?_
    refine k_no (d := 16) (j' := 13) rfl rfl rfl (g_ft rfl rfl rfl rfl) ?_
    refine k_op0 (d := 17) (b := 242) (j' := 14) rfl rfl rfl rfl (.plain rfl) (T_pick_t rfl rfl rfl rfl) rfl ?_
    refine k_done rfl ?_
    refine thenK_n ?_
    refine W_cond rfl (fun g2 => ?_) (fun g2 => ?_)
    · skip
      refine W_seq ?_
      refine W_seqK (b' := 274) rfl rfl ?_
      refine k_op0 (d := 2) (b := 258) (j' := 1) rfl rfl rfl rfl (.plain rfl) (T_assign rfl rfl) rfl ?_
      refine k_done rfl ?_
      refine thenK_n ?_
      refine W_ret ?_
      refine thenK_r ?_
      -- end 0
      exact .mk [] (.inr rfl) (.tmp rfl (.nil)) (by first | rfl | (simp only [resLV, LV.ren, LV.v.injEq, Value.bool.injEq]; first | exact right_no1 (by omega) | exact right_no2 (j := j) (by omega) (by assumption) | exact right_yes (by omega) (by omega) (fun i h => hJ.2 i (by omega)))) (.nil) rfl
    · exact absurd (g2.symm.trans rfl) (by decide)
  · have h1 := g1; (try simp only [cmpB, decide_eq_true_eq, decide_eq_false_iff_not, beq_iff_eq, beq_eq_false_iff_ne, bne_iff_ne, ne_eq, bne_eq_false_iff_eq, Bool.not_eq_true', Bool.not_eq_false', Int.not_lt, Int.not_le] at h1)
    refine k_op0 (d := 8) (b := 98) (j' := 5) rfl rfl rfl rfl (g_ff rfl rfl rfl g1) (T_fa D (m := 0) rfl rfl rfl rfl rfl rfl) rfl ?_
    refine k_op0 (d := 9) (b := 114) (j' := 6) rfl rfl rfl rfl (g_ff rfl rfl rfl g1) (T_load_b D rfl rfl rfl rfl rfl rfl) rfl ?_
    refine k_op0 (d := 10) (b := 130) (j' := 7) rfl rfl rfl rfl (g_ff rfl rfl rfl g1) (T_cmp rfl rfl rfl rfl) rfl ?_
    refine k_op0 (d := 11) (b := 146) (j' := 8) rfl rfl rfl rfl (.plain rfl) (T_pick_f rfl rfl rfl g1) rfl ?_
    refine k_op0 (d := 12) (b := 162) (j' := 9) rfl rfl rfl rfl (.plain rfl) (T_move rfl rfl) rfl ?_
    refine k_split (d := 12) rfl (fun g3 => ?_) (fun g3 => ?_)
    · have h3 := g3; (try simp only [cmpB, decide_eq_true_eq, decide_eq_false_iff_not, beq_iff_eq, beq_eq_false_iff_ne, bne_iff_ne, ne_eq, bne_eq_false_iff_eq, Bool.not_eq_true', Bool.not_eq_false', Int.not_lt, Int.not_le] at h3)
      refine k_no (d := 13) (j' := 10) rfl rfl rfl (g_ft rfl rfl rfl g3) ?_
      refine k_no (d := 14) (j' := 11) rfl rfl rfl (g_ft rfl rfl rfl g3) ?_
      refine k_no (d := 15) (j' := 12) rfl rfl rfl (g_ft rfl rfl rfl g3) ?_
      refine k_no (d := 16) (j' := 13) rfl rfl rfl (g_ft rfl rfl rfl g3) ?_
      refine k_op0 (d := 17) (b := 242) (j' := 14) rfl rfl rfl rfl (.plain rfl) (T_pick_t rfl rfl rfl g3) rfl ?_
      refine k_done rfl ?_
      refine thenK_n ?_
      refine W_cond rfl (fun g4 => ?_) (fun g4 => ?_)
      · skip
        refine W_seq ?_
        refine W_seqK (b' := 274) rfl rfl ?_
        refine k_op0 (d := 2) (b := 258) (j' := 1) rfl rfl rfl rfl (.plain rfl) (T_assign rfl rfl) rfl ?_
        refine k_done rfl ?_
        refine thenK_n ?_
        refine W_ret ?_
        refine thenK_r ?_
        -- end 1
        exact .mk [] (.inr rfl) (.tmp rfl (.nil)) (by first | rfl | (simp only [resLV, LV.ren, LV.v.injEq, Value.bool.injEq]; first | exact right_no1 (by omega) | exact right_no2 (j := j) (by omega) (by assumption) | exact right_yes (by omega) (by omega) (fun i h => hJ.2 i (by omega)))) (.nil) rfl
      · exact absurd (g4.symm.trans rfl) (by decide)
    · have h3 := g3; (try simp only [cmpB, decide_eq_true_eq, decide_eq_false_iff_not, beq_iff_eq, beq_eq_false_iff_ne, bne_iff_ne, ne_eq, bne_eq_false_iff_eq, Bool.not_eq_true', Bool.not_eq_false', Int.not_lt, Int.not_le] at h3)
      refine k_op0 (d := 13) (b := 178) (j' := 10) rfl rfl rfl rfl (g_ff rfl rfl rfl g3) (T_fa D (m := 1) rfl rfl rfl rfl rfl rfl) rfl ?_
      refine k_op0 (d := 14) (b := 194) (j' := 11) rfl rfl rfl rfl (g_ff rfl rfl rfl g3) (T_load_b D rfl rfl rfl rfl rfl rfl) rfl ?_
      refine k_op0 (d := 15) (b := 210) (j' := 12) rfl rfl rfl rfl (g_ff rfl rfl rfl g3) (T_len D rfl rfl rfl rfl rfl rfl) rfl ?_
      refine k_op0 (d := 16) (b := 226) (j' := 13) rfl rfl rfl rfl (g_ff rfl rfl rfl g3) (T_cmp rfl rfl rfl rfl) rfl ?_
      refine k_op0 (d := 17) (b := 242) (j' := 14) rfl rfl rfl rfl (.plain rfl) (T_pick_f rfl rfl rfl g3) rfl ?_
      refine k_done rfl ?_
      refine thenK_n ?_
      refine W_cond rfl (fun g5 => ?_) (fun g5 => ?_)
      · have h5 := g5; (try simp only [cmpB, decide_eq_true_eq, decide_eq_false_iff_not, beq_iff_eq, beq_eq_false_iff_ne, bne_iff_ne, ne_eq, bne_eq_false_iff_eq, Bool.not_eq_true', Bool.not_eq_false', Int.not_lt, Int.not_le] at h5)
        refine W_seq ?_
        refine W_seqK (b' := 274) rfl rfl ?_
        refine k_op0 (d := 2) (b := 258) (j' := 1) rfl rfl rfl rfl (.plain rfl) (T_assign rfl rfl) rfl ?_
        refine k_done rfl ?_
        refine thenK_n ?_
        refine W_ret ?_
        refine thenK_r ?_
        -- end 2
        exact .mk [] (.inr rfl) (.tmp rfl (.nil)) (by first | rfl | (simp only [resLV, LV.ren, LV.v.injEq, Value.bool.injEq]; first | exact right_no1 (by omega) | exact right_no2 (j := j) (by omega) (by assumption) | exact right_yes (by omega) (by omega) (fun i h => hJ.2 i (by omega)))) (.nil) rfl
      · have h5 := g5; (try simp only [cmpB, decide_eq_true_eq, decide_eq_false_iff_not, beq_iff_eq, beq_eq_false_iff_ne, bne_iff_ne, ne_eq, bne_eq_false_iff_eq, Bool.not_eq_true', Bool.not_eq_false', Int.not_lt, Int.not_le] at h5)
        refine W_skip ?_
        refine thenK_n ?_
        refine W_seq ?_
        refine W_seq ?_
        refine W_seqK (b' := 274) rfl rfl ?_
        refine k_op0 (d := 3) (b := 258) (j' := 1) rfl rfl rfl rfl (.plain rfl) (T_assign rfl rfl) rfl ?_
        refine k_done rfl ?_
        refine thenK_n ?_
        refine W_block ?_
        refine W_loop (ι := Nat) 3 (fun j => ⟨[(1, .p 2 0), (3, .v (.int .i64 (j : Int)))], [(1, .fz 2 (p.funcs.map eFn)), (2, .box 24 [.v (.int .i64 p.words), .r 1])]⟩) (fun j => j ≤ p.funcs.length ∧ ∀ i, i < j → oneB (p.funcs.getD i default) (i : Int) p.words = true) (fun j => p.funcs.length - j) (0) (by exact ⟨Nat.zero_le _, fun i h => absurd h (Nat.not_lt_zero _)⟩) ?_ (fun j hJ => ?_)
        · exact ⟨[(2, 2)], .same rfl rfl (.eq rfl (.nil) (by first | rfl | simp)), .fzE rfl (.box (by first | rfl | simp) (.nil)) (by first | rfl | simp), rfl⟩
        refine W_seq ?_
        refine W_seq ?_
        refine W_seqK (b' := 83) rfl rfl ?_
        refine k_op0 (d := 18) (b := 3) (j' := 1) rfl rfl rfl rfl (.plain rfl) (T_move rfl rfl) rfl ?_
        refine k_op0 (d := 19) (b := 19) (j' := 2) rfl rfl rfl rfl (.plain rfl) (T_fa D (m := 1) rfl rfl rfl rfl rfl rfl) rfl ?_
        refine k_op0 (d := 20) (b := 35) (j' := 3) rfl rfl rfl rfl (.plain rfl) (T_load_b D rfl rfl rfl rfl rfl rfl) rfl ?_
        refine k_op0 (d := 21) (b := 51) (j' := 4) rfl rfl rfl rfl (.plain rfl) (T_len D rfl rfl rfl rfl rfl rfl) rfl ?_
        refine k_op0 (d := 22) (b := 67) (j' := 5) rfl rfl rfl rfl (.plain rfl) (T_cmp rfl rfl rfl rfl) rfl ?_
        refine k_done rfl ?_
        refine thenK_n ?_
        refine W_cond rfl (fun g6 => ?_) (fun g6 => ?_)
        · have h6 := g6; (try simp only [cmpB, decide_eq_true_eq, decide_eq_false_iff_not, beq_iff_eq, beq_eq_false_iff_ne, bne_iff_ne, ne_eq, bne_eq_false_iff_eq, Bool.not_eq_true', Bool.not_eq_false', Int.not_lt, Int.not_le] at h6)
          refine W_skip ?_
          refine thenK_n ?_
          refine W_seq ?_
          refine W_block ?_
          refine W_seq ?_
          refine W_anyK (b' := 243) rfl rfl rfl ?_
          refine k_op0 (d := 25) (b := 83) (j' := 1) rfl rfl rfl rfl (.plain rfl) (T_fa D (m := 1) rfl rfl rfl rfl rfl rfl) rfl ?_
          refine k_op0 (d := 26) (b := 99) (j' := 2) rfl rfl rfl rfl (.plain rfl) (T_load_b D rfl rfl rfl rfl rfl rfl) rfl ?_
          refine k_op0 (d := 27) (b := 115) (j' := 3) rfl rfl rfl rfl (.plain rfl) (T_move rfl rfl) rfl ?_
          first | refine k_op0 (d := 28) (b := 131) (j' := 4) rfl rfl rfl rfl (.plain rfl) (T_indexAddr D rfl rfl rfl rfl rfl rfl rfl rfl (by first | assumption | omega | (simp; omega))) rfl ?_ | refine k_op0 (d := 28) (b := 131) (j' := 4) rfl rfl rfl rfl (.plain rfl) (T_indexAddrZ D rfl rfl rfl rfl rfl rfl rfl rfl (by first | assumption | omega | (simp; omega)) (by first | assumption | omega | (simp; omega))) rfl ?_
          refine k_op1 (d := 29) (b := 147) (j' := 5) rfl rfl rfl rfl (.plain rfl) (T_ldEA D (l := [.v _, .r 147]) (nn := 1) (upd := [(147, .fz 5 _)]) rfl rfl rfl rfl rfl (by first | assumption | omega | (simp; omega)) rfl rfl rfl rfl rfl) rfl ?_
          refine k_op0 (d := 30) (b := 163) (j' := 6) rfl rfl rfl rfl (.plain rfl) (T_move rfl rfl) rfl ?_
          refine k_op0 (d := 31) (b := 179) (j' := 7) rfl rfl rfl rfl (.plain rfl) (T_fa D (m := 0) rfl rfl rfl rfl rfl rfl) rfl ?_
          refine k_op0 (d := 32) (b := 195) (j' := 8) rfl rfl rfl rfl (.plain rfl) (T_load_b D rfl rfl rfl rfl rfl rfl) rfl ?_
          refine k_op0 (d := 33) (b := 211) (j' := 9) rfl rfl rfl rfl (.plain rfl) (T_callV (lvs := [_, _, _]) (L := [(1, 147)]) (one_fn_spec _ _ _ (hp.2 _ (getD_mem (by omega))) (by omega)) body47 rfl rfl rfl rfl (.fz rfl (.nil)) rfl) rfl ?_
          refine k_op0 (d := 34) (b := 227) (j' := 10) rfl rfl rfl rfl (.plain rfl) (T_not rfl rfl) rfl ?_
          refine k_done rfl ?_
          refine ⟨rfl, ?_⟩
          refine thenK_n ?_
          refine W_cond rfl (fun g7 => ?_) (fun g7 => ?_)
          · have h7 := g7; (try simp only [cmpB, decide_eq_true_eq, decide_eq_false_iff_not, beq_iff_eq, beq_eq_false_iff_ne, bne_iff_ne, ne_eq, bne_eq_false_iff_eq, Bool.not_eq_true', Bool.not_eq_false', Int.not_lt, Int.not_le] at h7)
            refine W_seq ?_
            refine W_seqK (b' := 259) rfl rfl ?_
            refine k_op0 (d := 2) (b := 243) (j' := 1) rfl rfl rfl rfl (.plain rfl) (T_assign rfl rfl) rfl ?_
            refine k_done rfl ?_
            refine thenK_n ?_
            refine W_ret ?_
            refine blockK_r ?_
            refine thenK_r ?_
            refine thenK_r ?_
            refine blockK_r ?_
            refine thenK_r ?_
            -- end 3
            exact .mk [] (.inr rfl) (.tmp rfl (.nil)) (by first | rfl | (simp only [resLV, LV.ren, LV.v.injEq, Value.bool.injEq]; first | exact right_no1 (by omega) | exact right_no2 (j := j) (by omega) (by assumption) | exact right_yes (by omega) (by omega) (fun i h => hJ.2 i (by omega)))) (.nil) rfl
          · have h7 := g7; (try simp only [cmpB, decide_eq_true_eq, decide_eq_false_iff_not, beq_iff_eq, beq_eq_false_iff_ne, bne_iff_ne, ne_eq, bne_eq_false_iff_eq, Bool.not_eq_true', Bool.not_eq_false', Int.not_lt, Int.not_le] at h7)
            refine W_skip ?_
            refine blockK_n ?_
            refine thenK_n ?_
            refine W_seqK (b' := 291) rfl rfl ?_
            refine k_op0 (d := 23) (b := 243) (j' := 1) rfl rfl rfl rfl (.plain rfl) (T_move rfl rfl) rfl ?_
            refine k_op0 (d := 24) (b := 259) (j' := 2) rfl rfl rfl rfl (.plain rfl) (T_add64 rfl rfl rfl (by first | assumption | omega | (simp; omega))) rfl ?_
            refine k_op0 (d := 3) (b := 275) (j' := 3) rfl rfl rfl rfl (.plain rfl) (T_assign rfl rfl) rfl ?_
            refine k_done rfl ?_
            refine thenK_n ?_
            refine ⟨j + 1, by (try dsimp only); exact ⟨by omega, fun i1 h => by rcases Nat.lt_or_ge i1 j with h0 | h0; exact hJ.2 i1 h0; rw [show i1 = j by omega]; assumption⟩, by (try dsimp only); omega, ?_⟩
            exact ⟨[(2, 2)], .same rfl rfl (.eq rfl (.nil) (by first | rfl | simp)), .fzE rfl (.box (by first | rfl | simp) (.nil)) (by first | rfl | simp), rfl⟩
        · have h6 := g6; (try simp only [cmpB, decide_eq_true_eq, decide_eq_false_iff_not, beq_iff_eq, beq_eq_false_iff_ne, bne_iff_ne, ne_eq, bne_eq_false_iff_eq, Bool.not_eq_true', Bool.not_eq_false', Int.not_lt, Int.not_le] at h6)
          refine W_exit ?_
          refine thenK_e ?_
          refine thenK_e ?_
          refine blockK_hit ?_
          refine thenK_n ?_
          refine W_seq ?_
          refine W_seqK (b' := 99) rfl rfl ?_
          refine k_op0 (d := 2) (b := 83) (j' := 1) rfl rfl rfl rfl (.plain rfl) (T_assign rfl rfl) rfl ?_
          refine k_done rfl ?_
          refine thenK_n ?_
          refine W_ret ?_
          -- end 4
          exact .mk [] (.inr rfl) (.tmp rfl (.nil)) (by first | rfl | (simp only [resLV, LV.ren, LV.v.injEq, Value.bool.injEq]; first | exact right_no1 (by omega) | exact right_no2 (j := j) (by omega) (by assumption) | exact right_yes (by omega) (by omega) (fun i h => hJ.2 i (by omega)))) (.nil) rfl

theorem body25 : (Try.prog.funcs[25]?).map (fun fn => (fn.name == "runtime.NumGoroutine" || fn.body.isNone)) = some false := by kernel_rfl
theorem small30_spec (p : GProg) (most : Int) (hp : PgOk p) : Spec Try.prog 25 [.agg [.v (.int .i64 p.words), .r 1], .v (.int .i64 most)] 2 [(1, .fz 2 (p.funcs.map eFn))] (.v (.bool (smallG p most))) 2 [] := by
  have hp1 := hp.1
  refine spec_of D (fn := Try.f25) rfl rfl (Nat.le_of_ble_eq_true rfl) ?_
  refine W_seq ?_
  refine W_seqK (b' := 34) rfl rfl ?_
  refine k_op1 (d := 2) (b := 2) (j' := 1) rfl rfl rfl rfl (.plain rfl) (T_box rfl rfl flat_agg) rfl ?_
  refine k_op0 (d := 4) (b := 18) (j' := 2) rfl rfl rfl rfl (.plain rfl) (T_assign rfl rfl) rfl ?_
  refine k_done rfl ?_
  refine thenK_n ?_
  refine W_seq ?_
  refine W_seqK (b' := 50) rfl rfl ?_
  refine k_op0 (d := 5) (b := 34) (j' := 1) rfl rfl rfl rfl (.plain rfl) (T_assign rfl rfl) rfl ?_
  refine k_done rfl ?_
  refine thenK_n ?_
  refine W_seq ?_
  refine W_seq ?_
  refine W_seqK (b' := 194) rfl rfl ?_
  refine k_op0 (d := 8) (b := 50) (j' := 1) rfl rfl rfl rfl (.plain rfl) (T_fa D (m := 0) rfl rfl rfl rfl rfl rfl) rfl ?_
  refine k_op0 (d := 9) (b := 66) (j' := 2) rfl rfl rfl rfl (.plain rfl) (T_load_b D rfl rfl rfl rfl rfl rfl) rfl ?_
  refine k_op0 (d := 10) (b := 82) (j' := 3) rfl rfl rfl rfl (.plain rfl) (T_cmp rfl rfl rfl rfl) rfl ?_
  refine k_op0 (d := 11) (b := 98) (j' := 4) rfl rfl rfl rfl (.plain rfl) (T_move rfl rfl) rfl ?_
  refine k_split (d := 11) rfl (fun g1 => ?_) (fun g1 => ?_)
  · have h1 := g1; (try simp only [cmpB, decide_eq_true_eq, decide_eq_false_iff_not, beq_iff_eq, beq_eq_false_iff_ne, bne_iff_ne, ne_eq, bne_eq_false_iff_eq, Bool.not_eq_true', Bool.not_eq_false', Int.not_lt, Int.not_le] at h1)
    refine k_no (d := 12) (j' := 5) rfl rfl rfl (g_ft rfl rfl rfl g1) ?_
    refine k_no (d := 13) (j' := 6) rfl rfl rfl (g_ft rfl rfl rfl g1) ?_
    refine k_no (d := 14) (j' := 7) rfl rfl rfl (g_ft rfl rfl rfl g1) ?_
    refine k_no (d := 15) (j' := 8) rfl rfl rfl (g_ft rfl rfl rfl g1) ?_
    refine k_op0 (d := 16) (b := 178) (j' := 9) rfl rfl rfl rfl (.plain rfl) (T_pick_t rfl rfl rfl g1) rfl ?_
    refine k_done rfl ?_
    refine thenK_n ?_
    refine W_cond rfl (fun g2 => ?_) (fun g2 => ?_)
    · skip
      refine W_seq ?_
      refine W_seqK (b' := 210) rfl rfl ?_
      refine k_op0 (d := 4) (b := 194) (j' := 1) rfl rfl rfl rfl (.plain rfl) (T_assign rfl rfl) rfl ?_
      refine k_done rfl ?_
      refine thenK_n ?_
      refine W_ret ?_
      refine thenK_r ?_
      -- end 0
      exact .mk [] (.inr rfl) (.tmp rfl (.nil)) (by first | rfl | (simp only [resLV, LV.ren, LV.v.injEq, Value.bool.injEq]; first | exact small_no1 (by omega) | exact small_no2 (j := j) (by omega) (by omega) | exact small_yes (by omega) (fun i h => hJ.2 i (by omega)) (by have e : j = p.funcs.length := (by omega); subst e; first | rfl | (rw [decide_eq_true (by omega)]; rfl) | (rw [decide_eq_false (by omega)]; rfl) | (simp [*, cmpB]; done)))) (.nil) rfl
    · exact absurd (g2.symm.trans rfl) (by decide)
  · have h1 := g1; (try simp only [cmpB, decide_eq_true_eq, decide_eq_false_iff_not, beq_iff_eq, beq_eq_false_iff_ne, bne_iff_ne, ne_eq, bne_eq_false_iff_eq, Bool.not_eq_true', Bool.not_eq_false', Int.not_lt, Int.not_le] at h1)
    refine k_op0 (d := 12) (b := 114) (j' := 5) rfl rfl rfl rfl (g_ff rfl rfl rfl g1) (T_fa D (m := 1) rfl rfl rfl rfl rfl rfl) rfl ?_
    refine k_op0 (d := 13) (b := 130) (j' := 6) rfl rfl rfl rfl (g_ff rfl rfl rfl g1) (T_load_b D rfl rfl rfl rfl rfl rfl) rfl ?_
    refine k_op0 (d := 14) (b := 146) (j' := 7) rfl rfl rfl rfl (g_ff rfl rfl rfl g1) (T_len D rfl rfl rfl rfl rfl rfl) rfl ?_
    refine k_op0 (d := 15) (b := 162) (j' := 8) rfl rfl rfl rfl (g_ff rfl rfl rfl g1) (T_cmp rfl rfl rfl rfl) rfl ?_
    refine k_op0 (d := 16) (b := 178) (j' := 9) rfl rfl rfl rfl (.plain rfl) (T_pick_f rfl rfl rfl g1) rfl ?_
    refine k_done rfl ?_
    refine thenK_n ?_
    refine W_cond rfl (fun g3 => ?_) (fun g3 => ?_)
    · have h3 := g3; (try simp only [cmpB, decide_eq_true_eq, decide_eq_false_iff_not, beq_iff_eq, beq_eq_false_iff_ne, bne_iff_ne, ne_eq, bne_eq_false_iff_eq, Bool.not_eq_true', Bool.not_eq_false', Int.not_lt, Int.not_le] at h3)
      refine W_seq ?_
      refine W_seqK (b' := 210) rfl rfl ?_
      refine k_op0 (d := 4) (b := 194) (j' := 1) rfl rfl rfl rfl (.plain rfl) (T_assign rfl rfl) rfl ?_
      refine k_done rfl ?_
      refine thenK_n ?_
      refine W_ret ?_
      refine thenK_r ?_
      -- end 1
      exact .mk [] (.inr rfl) (.tmp rfl (.nil)) (by first | rfl | (simp only [resLV, LV.ren, LV.v.injEq, Value.bool.injEq]; first | exact small_no1 (by omega) | exact small_no2 (j := j) (by omega) (by omega) | exact small_yes (by omega) (fun i h => hJ.2 i (by omega)) (by have e : j = p.funcs.length := (by omega); subst e; first | rfl | (rw [decide_eq_true (by omega)]; rfl) | (rw [decide_eq_false (by omega)]; rfl) | (simp [*, cmpB]; done)))) (.nil) rfl
    · have h3 := g3; (try simp only [cmpB, decide_eq_true_eq, decide_eq_false_iff_not, beq_iff_eq, beq_eq_false_iff_ne, bne_iff_ne, ne_eq, bne_eq_false_iff_eq, Bool.not_eq_true', Bool.not_eq_false', Int.not_lt, Int.not_le] at h3)
      refine W_skip ?_
      refine thenK_n ?_
      refine W_seq ?_
      refine W_seq ?_
      refine W_seqK (b' := 210) rfl rfl ?_
      refine k_op0 (d := 6) (b := 194) (j' := 1) rfl rfl rfl rfl (.plain rfl) (T_assign rfl rfl) rfl ?_
      refine k_done rfl ?_
      refine thenK_n ?_
      refine W_block ?_
      refine W_loop (ι := Nat) 3 (fun j => ⟨[(1, .v (.int .i64 most)), (2, .p 2 0), (5, .v (.int .i64 (szP p j : Int))), (6, .v (.int .i64 (j : Int)))], [(1, .fz 2 (p.funcs.map eFn)), (2, .box 24 [.v (.int .i64 p.words), .r 1])]⟩) (fun j => (j ≤ p.funcs.length ∧ szP p j ≤ j * 5629499534049320) ∧ ∀ i, i < j → (p.funcs.getD i default).regs ≤ 60 ∧ ((p.funcs.getD i default).blocks.length : Int) ≤ 40) (fun j => p.funcs.length - j) (0) (by exact ⟨⟨Nat.zero_le _, by simp [szP]⟩, fun i h => absurd h (Nat.not_lt_zero _)⟩) ?_ (fun j hJ => ?_)
      · exact ⟨[(2, 2)], .eq rfl (.same rfl rfl (.eq rfl (.eq rfl (.nil) (by first | rfl | simp)) (by first | rfl | simp))) (by first | rfl | simp), .fzE rfl (.box (by first | rfl | simp) (.nil)) (by first | rfl | simp), rfl⟩
      have hfo := fun h => hp.2 (p.funcs.getD j default) (getD_mem h)
      have hsp := fun h => szP_succ (p := p) (j := j) h
      refine W_seq ?_
      refine W_seq ?_
      refine W_seqK (b' := 83) rfl rfl ?_
      refine k_op0 (d := 17) (b := 3) (j' := 1) rfl rfl rfl rfl (.plain rfl) (T_move rfl rfl) rfl ?_
      refine k_op0 (d := 18) (b := 19) (j' := 2) rfl rfl rfl rfl (.plain rfl) (T_fa D (m := 1) rfl rfl rfl rfl rfl rfl) rfl ?_
      refine k_op0 (d := 19) (b := 35) (j' := 3) rfl rfl rfl rfl (.plain rfl) (T_load_b D rfl rfl rfl rfl rfl rfl) rfl ?_
      refine k_op0 (d := 20) (b := 51) (j' := 4) rfl rfl rfl rfl (.plain rfl) (T_len D rfl rfl rfl rfl rfl rfl) rfl ?_
      refine k_op0 (d := 21) (b := 67) (j' := 5) rfl rfl rfl rfl (.plain rfl) (T_cmp rfl rfl rfl rfl) rfl ?_
      refine k_done rfl ?_
      refine thenK_n ?_
      refine W_cond rfl (fun g4 => ?_) (fun g4 => ?_)
      · have h4 := g4; (try simp only [cmpB, decide_eq_true_eq, decide_eq_false_iff_not, beq_iff_eq, beq_eq_false_iff_ne, bne_iff_ne, ne_eq, bne_eq_false_iff_eq, Bool.not_eq_true', Bool.not_eq_false', Int.not_lt, Int.not_le] at h4)
        refine W_skip ?_
        refine thenK_n ?_
        refine W_seq ?_
        refine W_block ?_
        refine W_seq ?_
        refine W_seq ?_
        refine W_seqK (b' := 355) rfl rfl ?_
        refine k_op0 (d := 24) (b := 83) (j' := 1) rfl rfl rfl rfl (.plain rfl) (T_fa D (m := 1) rfl rfl rfl rfl rfl rfl) rfl ?_
        refine k_op0 (d := 25) (b := 99) (j' := 2) rfl rfl rfl rfl (.plain rfl) (T_load_b D rfl rfl rfl rfl rfl rfl) rfl ?_
        refine k_op0 (d := 26) (b := 115) (j' := 3) rfl rfl rfl rfl (.plain rfl) (T_move rfl rfl) rfl ?_
        first | refine k_op0 (d := 27) (b := 131) (j' := 4) rfl rfl rfl rfl (.plain rfl) (T_indexAddr D rfl rfl rfl rfl rfl rfl rfl rfl (by first | assumption | omega | (simp; omega))) rfl ?_ | refine k_op0 (d := 27) (b := 131) (j' := 4) rfl rfl rfl rfl (.plain rfl) (T_indexAddrZ D rfl rfl rfl rfl rfl rfl rfl rfl (by first | assumption | omega | (simp; omega)) (by first | assumption | omega | (simp; omega))) rfl ?_
        refine k_op0 (d := 28) (b := 147) (j' := 5) rfl rfl rfl rfl (.plain rfl) (T_fae D (m := 0) rfl rfl rfl rfl rfl rfl) rfl ?_
        refine k_op0 (d := 29) (b := 163) (j' := 6) rfl rfl rfl rfl (.plain rfl) (T_ldE D (lv := .v _) (nn := 0) (upd := []) rfl rfl rfl rfl rfl (by first | assumption | omega | (simp; omega)) rfl rfl rfl rfl) rfl ?_
        refine k_op0 (d := 30) (b := 179) (j' := 7) rfl rfl rfl rfl (.plain rfl) (T_cmp rfl rfl rfl rfl) rfl ?_
        refine k_op0 (d := 31) (b := 195) (j' := 8) rfl rfl rfl rfl (.plain rfl) (T_move rfl rfl) rfl ?_
        refine k_split (d := 31) rfl (fun g5 => ?_) (fun g5 => ?_)
        · have h5 := g5; (try simp only [cmpB, decide_eq_true_eq, decide_eq_false_iff_not, beq_iff_eq, beq_eq_false_iff_ne, bne_iff_ne, ne_eq, bne_eq_false_iff_eq, Bool.not_eq_true', Bool.not_eq_false', Int.not_lt, Int.not_le] at h5)
          refine k_no (d := 32) (j' := 9) rfl rfl rfl (g_ft rfl rfl rfl g5) ?_
          refine k_no (d := 33) (j' := 10) rfl rfl rfl (g_ft rfl rfl rfl g5) ?_
          refine k_no (d := 34) (j' := 11) rfl rfl rfl (g_ft rfl rfl rfl g5) ?_
          refine k_no (d := 35) (j' := 12) rfl rfl rfl (g_ft rfl rfl rfl g5) ?_
          refine k_no (d := 36) (j' := 13) rfl rfl rfl (g_ft rfl rfl rfl g5) ?_
          refine k_no (d := 37) (j' := 14) rfl rfl rfl (g_ft rfl rfl rfl g5) ?_
          refine k_no (d := 38) (j' := 15) rfl rfl rfl (g_ft rfl rfl rfl g5) ?_
          refine k_no (d := 39) (j' := 16) rfl rfl rfl (g_ft rfl rfl rfl g5) ?_
          refine k_op0 (d := 40) (b := 339) (j' := 17) rfl rfl rfl rfl (.plain rfl) (T_pick_t rfl rfl rfl g5) rfl ?_
          refine k_done rfl ?_
          refine thenK_n ?_
          refine W_cond rfl (fun g6 => ?_) (fun g6 => ?_)
          · skip
            refine W_seq ?_
            refine W_seqK (b' := 371) rfl rfl ?_
            refine k_op0 (d := 4) (b := 355) (j' := 1) rfl rfl rfl rfl (.plain rfl) (T_assign rfl rfl) rfl ?_
            refine k_done rfl ?_
            refine thenK_n ?_
            refine W_ret ?_
            refine thenK_r ?_
            refine blockK_r ?_
            refine thenK_r ?_
            refine thenK_r ?_
            refine blockK_r ?_
            refine thenK_r ?_
            -- end 2
            exact .mk [] (.inr rfl) (.tmp rfl (.nil)) (by first | rfl | (simp only [resLV, LV.ren, LV.v.injEq, Value.bool.injEq]; first | exact small_no1 (by omega) | exact small_no2 (j := j) (by omega) (by omega) | exact small_yes (by omega) (fun i h => hJ.2 i (by omega)) (by have e : j = p.funcs.length := (by omega); subst e; first | rfl | (rw [decide_eq_true (by omega)]; rfl) | (rw [decide_eq_false (by omega)]; rfl) | (simp [*, cmpB]; done)))) (.nil) rfl
          · exact absurd (g6.symm.trans rfl) (by decide)
        · have h5 := g5; (try simp only [cmpB, decide_eq_true_eq, decide_eq_false_iff_not, beq_iff_eq, beq_eq_false_iff_ne, bne_iff_ne, ne_eq, bne_eq_false_iff_eq, Bool.not_eq_true', Bool.not_eq_false', Int.not_lt, Int.not_le] at h5)
          refine k_op0 (d := 32) (b := 211) (j' := 9) rfl rfl rfl rfl (g_ff rfl rfl rfl g5) (T_fa D (m := 1) rfl rfl rfl rfl rfl rfl) rfl ?_
          refine k_op0 (d := 33) (b := 227) (j' := 10) rfl rfl rfl rfl (g_ff rfl rfl rfl g5) (T_load_b D rfl rfl rfl rfl rfl rfl) rfl ?_
          refine k_op0 (d := 34) (b := 243) (j' := 11) rfl rfl rfl rfl (g_ff rfl rfl rfl g5) (T_move rfl rfl) rfl ?_
          first | refine k_op0 (d := 35) (b := 259) (j' := 12) rfl rfl rfl rfl (g_ff rfl rfl rfl g5) (T_indexAddr D rfl rfl rfl rfl rfl rfl rfl rfl (by first | assumption | omega | (simp; omega))) rfl ?_ | refine k_op0 (d := 35) (b := 259) (j' := 12) rfl rfl rfl rfl (g_ff rfl rfl rfl g5) (T_indexAddrZ D rfl rfl rfl rfl rfl rfl rfl rfl (by first | assumption | omega | (simp; omega)) (by first | assumption | omega | (simp; omega))) rfl ?_
          refine k_op0 (d := 36) (b := 275) (j' := 13) rfl rfl rfl rfl (g_ff rfl rfl rfl g5) (T_fae D (m := 1) rfl rfl rfl rfl rfl rfl) rfl ?_
          refine k_op1 (d := 37) (b := 291) (j' := 14) rfl rfl rfl rfl (g_ff rfl rfl rfl g5) (T_ldE D (lv := .r 291) (nn := 1) (upd := [(291, .fz 5 _)]) rfl rfl rfl rfl rfl (by first | assumption | omega | (simp; omega)) rfl rfl rfl rfl) rfl ?_
          refine k_op0 (d := 38) (b := 307) (j' := 15) rfl rfl rfl rfl (g_ff rfl rfl rfl g5) (T_len D rfl rfl rfl rfl rfl rfl) rfl ?_
          refine k_op0 (d := 39) (b := 323) (j' := 16) rfl rfl rfl rfl (g_ff rfl rfl rfl g5) (T_cmp rfl rfl rfl rfl) rfl ?_
          refine k_op0 (d := 40) (b := 339) (j' := 17) rfl rfl rfl rfl (.plain rfl) (T_pick_f rfl rfl rfl g5) rfl ?_
          refine k_done rfl ?_
          refine thenK_n ?_
          refine W_cond rfl (fun g7 => ?_) (fun g7 => ?_)
          · have h7 := g7; (try simp only [cmpB, decide_eq_true_eq, decide_eq_false_iff_not, beq_iff_eq, beq_eq_false_iff_ne, bne_iff_ne, ne_eq, bne_eq_false_iff_eq, Bool.not_eq_true', Bool.not_eq_false', Int.not_lt, Int.not_le] at h7)
            refine W_seq ?_
            refine W_seqK (b' := 371) rfl rfl ?_
            refine k_op0 (d := 4) (b := 355) (j' := 1) rfl rfl rfl rfl (.plain rfl) (T_assign rfl rfl) rfl ?_
            refine k_done rfl ?_
            refine thenK_n ?_
            refine W_ret ?_
            refine thenK_r ?_
            refine blockK_r ?_
            refine thenK_r ?_
            refine thenK_r ?_
            refine blockK_r ?_
            refine thenK_r ?_
            -- end 3
            exact .mk [] (.inr rfl) (.tmp rfl (.nil)) (by first | rfl | (simp only [resLV, LV.ren, LV.v.injEq, Value.bool.injEq]; first | exact small_no1 (by omega) | exact small_no2 (j := j) (by omega) (by omega) | exact small_yes (by omega) (fun i h => hJ.2 i (by omega)) (by have e : j = p.funcs.length := (by omega); subst e; first | rfl | (rw [decide_eq_true (by omega)]; rfl) | (rw [decide_eq_false (by omega)]; rfl) | (simp [*, cmpB]; done)))) (.nil) rfl
          · have h7 := g7; (try simp only [cmpB, decide_eq_true_eq, decide_eq_false_iff_not, beq_iff_eq, beq_eq_false_iff_ne, bne_iff_ne, ne_eq, bne_eq_false_iff_eq, Bool.not_eq_true', Bool.not_eq_false', Int.not_lt, Int.not_le] at h7)
            refine W_skip ?_
            refine thenK_n ?_
            refine W_seq ?_
            refine W_seqK (b' := 371) rfl rfl ?_
            refine k_op0 (d := 7) (b := 355) (j' := 1) rfl rfl rfl rfl (.plain rfl) (T_assign rfl rfl) rfl ?_
            refine k_done rfl ?_
            refine thenK_n ?_
            refine W_block ?_
            have hfj := hfo (by omega)
            refine W_loop (ι := Nat) 3 (fun i => ⟨[(1, .v (.int .i64 most)), (2, .p 2 0), (5, .v (.int .i64 ((szP p j + szB (p.funcs.getD j default) i : Nat) : Int))), (6, .v (.int .i64 (j : Int))), (7, .v (.int .i64 (i : Int)))], [(1, .fz 2 (p.funcs.map eFn)), (2, .box 24 [.v (.int .i64 p.words), .r 1])]⟩) (fun i => i ≤ (p.funcs.getD j default).blocks.length) (fun i => (p.funcs.getD j default).blocks.length - i) (0) (by exact Nat.zero_le _) ?_ (fun i hI => ?_)
            · exact ⟨[(2, 2)], .eq rfl (.same rfl rfl (.eq rfl (.eq rfl (.eq rfl (.nil) (by first | rfl | simp [szB])) (by first | rfl | simp [szB])) (by first | rfl | simp [szB]))) (by first | rfl | simp [szB]), .fzE rfl (.box (by first | rfl | simp [szB]) (.nil)) (by first | rfl | simp [szB]), rfl⟩
            have hsi := szB_le hfj i hI
            have hss := fun h => szB_succ (f := p.funcs.getD j default) (i := i) h
            have hil := fun h => hfj.2 ((p.funcs.getD j default).blocks.getD i default) (getD_mem h)
            refine W_seq ?_
            refine W_seq ?_
            refine W_seqK (b' := 147) rfl rfl ?_
            refine k_op0 (d := 41) (b := 3) (j' := 1) rfl rfl rfl rfl (.plain rfl) (T_move rfl rfl) rfl ?_
            refine k_op0 (d := 42) (b := 19) (j' := 2) rfl rfl rfl rfl (.plain rfl) (T_fa D (m := 1) rfl rfl rfl rfl rfl rfl) rfl ?_
            refine k_op0 (d := 43) (b := 35) (j' := 3) rfl rfl rfl rfl (.plain rfl) (T_load_b D rfl rfl rfl rfl rfl rfl) rfl ?_
            refine k_op0 (d := 44) (b := 51) (j' := 4) rfl rfl rfl rfl (.plain rfl) (T_move rfl rfl) rfl ?_
            first | refine k_op0 (d := 45) (b := 67) (j' := 5) rfl rfl rfl rfl (.plain rfl) (T_indexAddr D rfl rfl rfl rfl rfl rfl rfl rfl (by first | assumption | omega | (simp; omega))) rfl ?_ | refine k_op0 (d := 45) (b := 67) (j' := 5) rfl rfl rfl rfl (.plain rfl) (T_indexAddrZ D rfl rfl rfl rfl rfl rfl rfl rfl (by first | assumption | omega | (simp; omega)) (by first | assumption | omega | (simp; omega))) rfl ?_
            refine k_op0 (d := 46) (b := 83) (j' := 6) rfl rfl rfl rfl (.plain rfl) (T_fae D (m := 1) rfl rfl rfl rfl rfl rfl) rfl ?_
            refine k_op1 (d := 47) (b := 99) (j' := 7) rfl rfl rfl rfl (.plain rfl) (T_ldE D (lv := .r 99) (nn := 1) (upd := [(99, .fz 5 _)]) rfl rfl rfl rfl rfl (by first | assumption | omega | (simp; omega)) rfl rfl rfl rfl) rfl ?_
            refine k_op0 (d := 48) (b := 115) (j' := 8) rfl rfl rfl rfl (.plain rfl) (T_len D rfl rfl rfl rfl rfl rfl) rfl ?_
            refine k_op0 (d := 49) (b := 131) (j' := 9) rfl rfl rfl rfl (.plain rfl) (T_cmp rfl rfl rfl rfl) rfl ?_
            refine k_done rfl ?_
            refine thenK_n ?_
            refine W_cond rfl (fun g8 => ?_) (fun g8 => ?_)
            · have h8 := g8; (try simp only [cmpB, decide_eq_true_eq, decide_eq_false_iff_not, beq_iff_eq, beq_eq_false_iff_ne, bne_iff_ne, ne_eq, bne_eq_false_iff_eq, Bool.not_eq_true', Bool.not_eq_false', Int.not_lt, Int.not_le] at h8)
              refine W_skip ?_
              refine thenK_n ?_
              refine W_seq ?_
              refine W_block ?_
              refine W_seqK (b' := 387) rfl rfl ?_
              refine k_op0 (d := 52) (b := 147) (j' := 1) rfl rfl rfl rfl (.plain rfl) (T_move rfl rfl) rfl ?_
              refine k_op0 (d := 53) (b := 163) (j' := 2) rfl rfl rfl rfl (.plain rfl) (T_add64 rfl rfl rfl (by first | assumption | omega | (simp; omega))) rfl ?_
              refine k_op0 (d := 54) (b := 179) (j' := 3) rfl rfl rfl rfl (.plain rfl) (T_fa D (m := 1) rfl rfl rfl rfl rfl rfl) rfl ?_
              refine k_op0 (d := 55) (b := 195) (j' := 4) rfl rfl rfl rfl (.plain rfl) (T_load_b D rfl rfl rfl rfl rfl rfl) rfl ?_
              refine k_op0 (d := 56) (b := 211) (j' := 5) rfl rfl rfl rfl (.plain rfl) (T_move rfl rfl) rfl ?_
              first | refine k_op0 (d := 57) (b := 227) (j' := 6) rfl rfl rfl rfl (.plain rfl) (T_indexAddr D rfl rfl rfl rfl rfl rfl rfl rfl (by first | assumption | omega | (simp; omega))) rfl ?_ | refine k_op0 (d := 57) (b := 227) (j' := 6) rfl rfl rfl rfl (.plain rfl) (T_indexAddrZ D rfl rfl rfl rfl rfl rfl rfl rfl (by first | assumption | omega | (simp; omega)) (by first | assumption | omega | (simp; omega))) rfl ?_
              refine k_op0 (d := 58) (b := 243) (j' := 7) rfl rfl rfl rfl (.plain rfl) (T_fae D (m := 1) rfl rfl rfl rfl rfl rfl) rfl ?_
              refine k_op1 (d := 59) (b := 259) (j' := 8) rfl rfl rfl rfl (.plain rfl) (T_ldE D (lv := .r 259) (nn := 1) (upd := [(259, .fz 5 _)]) rfl rfl rfl rfl rfl (by first | assumption | omega | (simp; omega)) rfl rfl rfl rfl) rfl ?_
              refine k_op0 (d := 60) (b := 275) (j' := 9) rfl rfl rfl rfl (.plain rfl) (T_move rfl rfl) rfl ?_
              first | refine k_op0 (d := 61) (b := 291) (j' := 10) rfl rfl rfl rfl (.plain rfl) (T_indexAddr D rfl rfl rfl rfl rfl rfl rfl rfl (by first | assumption | omega | (simp; omega))) rfl ?_ | refine k_op0 (d := 61) (b := 291) (j' := 10) rfl rfl rfl rfl (.plain rfl) (T_indexAddrZ D rfl rfl rfl rfl rfl rfl rfl rfl (by first | assumption | omega | (simp; omega)) (by first | assumption | omega | (simp; omega))) rfl ?_
              refine k_op0 (d := 62) (b := 307) (j' := 11) rfl rfl rfl rfl (.plain rfl) (T_fae D (m := 0) rfl rfl rfl rfl rfl rfl) rfl ?_
              refine k_op1 (d := 63) (b := 323) (j' := 12) rfl rfl rfl rfl (.plain rfl) (T_ldE D (lv := .r 323) (nn := 1) (upd := [(323, .fz 8 _)]) rfl rfl rfl rfl rfl (by first | assumption | omega | (simp; omega)) rfl rfl rfl rfl) rfl ?_
              refine k_op0 (d := 64) (b := 339) (j' := 13) rfl rfl rfl rfl (.plain rfl) (T_len D rfl rfl rfl rfl rfl rfl) rfl ?_
              refine k_op0 (d := 65) (b := 355) (j' := 14) rfl rfl rfl rfl (.plain rfl) (T_add64 rfl rfl rfl (by first | assumption | omega | (simp; omega))) rfl ?_
              refine k_op0 (d := 5) (b := 371) (j' := 15) rfl rfl rfl rfl (.plain rfl) (T_assign rfl rfl) rfl ?_
              refine k_done rfl ?_
              refine blockK_n ?_
              refine thenK_n ?_
              refine W_seqK (b' := 435) rfl rfl ?_
              refine k_op0 (d := 50) (b := 387) (j' := 1) rfl rfl rfl rfl (.plain rfl) (T_move rfl rfl) rfl ?_
              refine k_op0 (d := 51) (b := 403) (j' := 2) rfl rfl rfl rfl (.plain rfl) (T_add64 rfl rfl rfl (by first | assumption | omega | (simp; omega))) rfl ?_
              refine k_op0 (d := 7) (b := 419) (j' := 3) rfl rfl rfl rfl (.plain rfl) (T_assign rfl rfl) rfl ?_
              refine k_done rfl ?_
              refine thenK_n ?_
              refine ⟨i + 1, by (try dsimp only); omega, by (try dsimp only); omega, ?_⟩
              exact ⟨[(2, 2)], .eq rfl (.same rfl rfl (.eq rfl (.eq rfl (.eq rfl (.nil) (by first | rfl | (have hss2 := hss (by omega); congr 3; omega) | (have hss2 := hss (by omega); congr 2; omega))) (by first | rfl | (have hss2 := hss (by omega); congr 3; omega) | (have hss2 := hss (by omega); congr 2; omega))) (by first | rfl | (have hss2 := hss (by omega); congr 3; omega) | (have hss2 := hss (by omega); congr 2; omega)))) (by first | rfl | (have hss2 := hss (by omega); congr 3; omega) | (have hss2 := hss (by omega); congr 2; omega)), .fzE rfl (.box (by first | rfl | (have hss2 := hss (by omega); congr 3; omega) | (have hss2 := hss (by omega); congr 2; omega)) (.nil)) (by first | rfl | (have hss2 := hss (by omega); congr 3; omega) | (have hss2 := hss (by omega); congr 2; omega)), rfl⟩
            · have h8 := g8; (try simp only [cmpB, decide_eq_true_eq, decide_eq_false_iff_not, beq_iff_eq, beq_eq_false_iff_ne, bne_iff_ne, ne_eq, bne_eq_false_iff_eq, Bool.not_eq_true', Bool.not_eq_false', Int.not_lt, Int.not_le] at h8)
              refine W_exit ?_
              refine thenK_e ?_
              refine thenK_e ?_
              refine blockK_hit ?_
              refine blockK_n ?_
              refine thenK_n ?_
              refine W_seqK (b' := 195) rfl rfl ?_
              refine k_op0 (d := 22) (b := 147) (j' := 1) rfl rfl rfl rfl (.plain rfl) (T_move rfl rfl) rfl ?_
              refine k_op0 (d := 23) (b := 163) (j' := 2) rfl rfl rfl rfl (.plain rfl) (T_add64 rfl rfl rfl (by first | assumption | omega | (simp; omega))) rfl ?_
              refine k_op0 (d := 6) (b := 179) (j' := 3) rfl rfl rfl rfl (.plain rfl) (T_assign rfl rfl) rfl ?_
              refine k_done rfl ?_
              refine thenK_n ?_
              have ei : i = (p.funcs.getD j default).blocks.length := by omega
              have hsp2 := hsp (by omega)
              refine ⟨j + 1, by (try dsimp only); exact ⟨⟨by omega, by rw [ei] at hsi; omega⟩, fun i1 h => by rcases Nat.lt_or_ge i1 j with h0 | h0; exact hJ.2 i1 h0; rw [show i1 = j by omega]; omega⟩, by (try dsimp only); omega, ?_⟩
              exact ⟨[(2, 2)], .eq rfl (.same rfl rfl (.eq rfl (.eq rfl (.nil) (by first | rfl | (rw [hsp2, ei]; first | done | rfl))) (by first | rfl | (rw [hsp2, ei]; first | done | rfl)))) (by first | rfl | (rw [hsp2, ei]; first | done | rfl)), .fzE rfl (.box (by first | rfl | (rw [hsp2, ei]; first | done | rfl)) (.nil)) (by first | rfl | (rw [hsp2, ei]; first | done | rfl)), rfl⟩
      · have h4 := g4; (try simp only [cmpB, decide_eq_true_eq, decide_eq_false_iff_not, beq_iff_eq, beq_eq_false_iff_ne, bne_iff_ne, ne_eq, bne_eq_false_iff_eq, Bool.not_eq_true', Bool.not_eq_false', Int.not_lt, Int.not_le] at h4)
        refine W_exit ?_
        refine thenK_e ?_
        refine thenK_e ?_
        refine blockK_hit ?_
        refine thenK_n ?_
        refine W_seq ?_
        refine W_seqK (b' := 211) rfl rfl ?_
        refine k_op0 (d := 66) (b := 83) (j' := 1) rfl rfl rfl rfl (.plain rfl) (T_move rfl rfl) rfl ?_
        refine k_op0 (d := 67) (b := 99) (j' := 2) rfl rfl rfl rfl (.plain rfl) (T_move rfl rfl) rfl ?_
        refine k_op0 (d := 68) (b := 115) (j' := 3) rfl rfl rfl rfl (.plain rfl) (T_cmp rfl rfl rfl rfl) rfl ?_
        refine k_op0 (d := 69) (b := 131) (j' := 4) rfl rfl rfl rfl (.plain rfl) (T_move rfl rfl) rfl ?_
        refine k_split (d := 69) rfl (fun g9 => ?_) (fun g9 => ?_)
        · have h9 := g9; (try simp only [cmpB, decide_eq_true_eq, decide_eq_false_iff_not, beq_iff_eq, beq_eq_false_iff_ne, bne_iff_ne, ne_eq, bne_eq_false_iff_eq, Bool.not_eq_true', Bool.not_eq_false', Int.not_lt, Int.not_le] at h9)
          refine k_op0 (d := 70) (b := 147) (j' := 5) rfl rfl rfl rfl (g_tt rfl rfl rfl g9) (T_load_bA D (l := [_, _]) rfl rfl rfl rfl rfl rfl rfl) rfl ?_
          refine k_op0 (d := 71) (b := 163) (j' := 6) rfl rfl rfl rfl (g_tt rfl rfl rfl g9) (T_callV (lvs := [_]) (L := [(1, 1)]) (right_spec _ hp) body35 rfl rfl rfl rfl (.fz rfl (.nil)) rfl) rfl ?_
          refine k_op0 (d := 72) (b := 179) (j' := 7) rfl rfl rfl rfl (.plain rfl) (T_pick_t rfl rfl rfl g9) rfl ?_
          refine k_op0 (d := 4) (b := 195) (j' := 8) rfl rfl rfl rfl (.plain rfl) (T_assign rfl rfl) rfl ?_
          refine k_done rfl ?_
          refine thenK_n ?_
          refine W_ret ?_
          -- end 4
          exact .mk [] (.inr rfl) (.tmp rfl (.nil)) (by first | rfl | (simp only [resLV, LV.ren, LV.v.injEq, Value.bool.injEq]; first | exact small_no1 (by omega) | exact small_no2 (j := j) (by omega) (by omega) | exact small_yes (by omega) (fun i h => hJ.2 i (by omega)) (by have e : j = p.funcs.length := (by omega); subst e; first | rfl | (rw [decide_eq_true (by omega)]; rfl) | (rw [decide_eq_false (by omega)]; rfl) | (simp [*, cmpB]; done)))) (.nil) rfl
        · have h9 := g9; (try simp only [cmpB, decide_eq_true_eq, decide_eq_false_iff_not, beq_iff_eq, beq_eq_false_iff_ne, bne_iff_ne, ne_eq, bne_eq_false_iff_eq, Bool.not_eq_true', Bool.not_eq_false', Int.not_lt, Int.not_le] at h9)
          refine k_no (d := 70) (j' := 5) rfl rfl rfl (g_tf rfl rfl rfl g9) ?_
          refine k_no (d := 71) (j' := 6) rfl rfl rfl (g_tf rfl rfl rfl g9) ?_
          refine k_op0 (d := 72) (b := 179) (j' := 7) rfl rfl rfl rfl (.plain rfl) (T_pick_f rfl rfl rfl g9) rfl ?_
          refine k_op0 (d := 4) (b := 195) (j' := 8) rfl rfl rfl rfl (.plain rfl) (T_assign rfl rfl) rfl ?_
          refine k_done rfl ?_
          refine thenK_n ?_
          refine W_ret ?_
          -- end 5
          exact .mk [] (.inr rfl) (.tmp rfl (.nil)) (by first | rfl | (simp only [resLV, LV.ren, LV.v.injEq, Value.bool.injEq]; first | exact small_no1 (by omega) | exact small_no2 (j := j) (by omega) (by omega) | exact small_yes (by omega) (fun i h => hJ.2 i (by omega)) (by have e : j = p.funcs.length := (by omega); subst e; first | rfl | (rw [decide_eq_true (by omega)]; rfl) | (rw [decide_eq_false (by omega)]; rfl) | (simp [*, cmpB]; done)))) (.nil) rfl
end Lg
end Go.Proofs.Ytpfhmodjjljpjaa

namespace Go.Proofs.Ytpfhmodjjljpjaa
open Go.RowKit
namespace Lg
set_option linter.unusedSimpArgs false
set_option linter.unusedVariables false
/-- A whole number's kind is changed. -/
theorem T_conv {N : Nat} {o : Oper} {b : Nat} {st : St} {src dst : TypeId} {x : Operand} {q k : IntKind} {n r : Int} (ho : o.op = .convert src dst x) (hx : st.ev x = some (.v (.int q n))) (hs : (Try.prog.underlying src).isSome = true) (hd : Try.prog.underlying dst = some (.int k)) (hr : k.wrap n = r) : T Try.prog N o b [] st (.v (.int k r)) 0 [] :=
  T_pure (fun ρ ev w hev => by
    have h1 := hev x _ (by simp [ho, Op.operands]) hx
    obtain ⟨d, hd'⟩ := Option.isSome_iff_exists.mp hs
    simp only [execOp, ho, h1, LV.val]
    have h2 : (convert src dst (.int q n)).run Try.prog w = .ok (.int k r) w := by
      simp [convert, run_underlying hd', run_underlying hd, Conv.intToInt, hr]
    rw [Sem.run_bind, h2]
    rfl) (fun U ρ hU => trivial)
/-- To int, of what fits. -/
theorem T_conv64 {N : Nat} {o : Oper} {b : Nat} {st : St} {src : TypeId} {x : Operand} {q : IntKind} {n : Int} (ho : o.op = .convert src 3 x) (hx : st.ev x = some (.v (.int q n))) (hs : (Try.prog.underlying src).isSome = true) (h : -9223372036854775808 ≤ n ∧ n ≤ 9223372036854775807) : T Try.prog N o b [] st (.v (.int .i64 n)) 0 [] :=
  T_conv ho hx hs Try.underlying3 (wrap_i64 h)
end Lg
end Go.Proofs.Ytpfhmodjjljpjaa

namespace Go.Proofs.Ytpfhmodjjljpjaa
open Go.RowKit
namespace Lg

/-! ### What the guard of a small program says -/
structure SmallF (f : GFn) (c : Nat) : Prop where
  vf : VF f
  regs : 0 ≤ f.regs ∧ f.regs ≤ 60
  len : f.blocks.length ≤ 40
  ins : ∀ b ∈ f.blocks, b.ins.length ≤ c
theorem ins_le_szB {f : GFn} : ∀ {i : Nat}, i ≤ f.blocks.length → ∀ k, k < i → (f.blocks.getD k default).ins.length < szB f i
  | 0, _, k, hk => absurd hk (Nat.not_lt_zero _)
  | i + 1, hi, k, hk => by
    rw [szB_succ (f := f) (i := i) (by omega)]
    rcases Nat.lt_or_ge k i with h | h
    · have := ins_le_szB (f := f) (i := i) (by omega) k h; omega
    · have : k = i := by omega
      subst this; omega
theorem szB_le_szP {p : GProg} : ∀ {j : Nat}, j ≤ p.funcs.length → ∀ k, k < j → szB (p.funcs.getD k default) (p.funcs.getD k default).blocks.length ≤ szP p j
  | 0, _, k, hk => absurd hk (Nat.not_lt_zero _)
  | j + 1, hj, k, hk => by
    rw [szP_succ (p := p) (j := j) (by omega)]
    rcases Nat.lt_or_ge k j with h | h
    · have := szB_le_szP (p := p) (j := j) (by omega) k h; omega
    · have : k = j := by omega
      subst this; omega
theorem one_vf {f : GFn} {n w : Int} (h : oneB f n w = true) : VF f ∧ (0 ≤ f.regs ∧ f.regs ≤ 4000) := by
  simp only [oneB, Bool.and_eq_true, decide_eq_true_eq] at h
  obtain ⟨⟨h1, h2, h3⟩, h4⟩ := h
  refine ⟨⟨List.length_pos_iff.2 h3, fun k hk => ?_⟩, h1, h2⟩
  have := List.all_eq_true.1 h4 _ (getD_mem hk)
  simp only [blockB, Bool.and_eq_true] at this
  exact this.1
theorem right_one {p : GProg} (h : rightB p = true) {i : Nat} (hi : i < p.funcs.length) : oneB (p.funcs.getD i default) (i : Int) p.words = true := by
  simp only [rightB, Bool.and_eq_true] at h
  exact List.all_eq_true.1 h.2 i (by simpa using hi)
theorem smallG_iff {p : GProg} {most : Int} (h : smallG p most = true) : (p.words ≤ 500 ∧ (p.funcs.length : Int) ≤ 10) ∧ (∀ i, i < p.funcs.length → (p.funcs.getD i default).regs ≤ 60 ∧ ((p.funcs.getD i default).blocks.length : Int) ≤ 40) ∧ (szP p p.funcs.length : Int) ≤ most ∧ rightB p = true := by
  simp only [smallG, Bool.and_eq_true, decide_eq_true_eq] at h
  obtain ⟨⟨⟨h1, h2⟩, h3⟩, h4⟩ := h
  refine ⟨h1, fun i hi => ?_, h3, h4⟩
  have := all_iff_getD.1 h2 i hi
  simpa [smallF, -List.getD_eq_getElem?_getD] using this
theorem small_fn {p : GProg} {most : Int} (h : smallG p most = true) {c : Nat} (hc : most ≤ c) {i : Nat} (hi : i < p.funcs.length) : SmallF (p.funcs.getD i default) c := by
  obtain ⟨h1, h2, h3, h4⟩ := smallG_iff h
  have h5 := one_vf (right_one h4 hi)
  have h6 := h2 i hi
  refine ⟨h5.1, ⟨h5.2.1, h6.1⟩, by omega, fun b hb => ?_⟩
  obtain ⟨k, hk, rfl⟩ := mem_getD hb
  have h7 := ins_le_szB (Nat.le_refl _) k hk
  have h8 := szB_le_szP (Nat.le_refl _) i hi
  omega
/-- What a contract of Of asks. -/
theorem SmallF.ins1000 {f : GFn} {c : Nat} (h : SmallF f c) (hc : c ≤ 1000) : ∀ b ∈ f.blocks, b.ins.length ≤ 1000 := fun b hb => by have := h.ins b hb; omega

/-! ### The ways to a block, counted -/
def srcsI (next : List (List Int)) (k j i : Nat) : List Int := srcs next k j ++ List.replicate (((next.getD j default).take i).count (k : Int)) (j : Int)
def lastS (l : List Int) : Int := l.getLastD (-1)
theorem srcsI_zero (next : List (List Int)) (k j : Nat) : srcsI next k j 0 = srcs next k j := by simp [srcsI]
theorem srcs_succ (next : List (List Int)) (k j : Nat) : srcs next k (j + 1) = srcsI next k j (next.getD j default).length := by
  simp [srcsI, srcs, List.range_succ, List.take_of_length_le]
theorem srcsI_t {next : List (List Int)} {k j i : Nat} (hi : i < (next.getD j default).length) (h : (next.getD j default).getD i default = (k : Int)) : srcsI next k j (i + 1) = srcsI next k j i ++ [(j : Int)] := by
  unfold srcsI
  rw [take_succ_getD hi, h, List.count_append, List.count_singleton_self, List.replicate_succ', List.append_assoc]
theorem srcsI_f {next : List (List Int)} {k j i : Nat} (hi : i < (next.getD j default).length) (h : ¬ (next.getD j default).getD i default = (k : Int)) : srcsI next k j (i + 1) = srcsI next k j i := by
  unfold srcsI
  have h0 : [(next.getD j default).getD i default].count (k : Int) = 0 := List.count_eq_zero.2 (fun hm => h (List.mem_singleton.1 hm).symm)
  rw [take_succ_getD hi, List.count_append, h0, Nat.add_zero]
theorem lastS_snoc (l : List Int) (x : Int) : lastS (l ++ [x]) = x := by
  unfold lastS
  rw [List.getLastD_eq_getLast?]
  simp
theorem srcsI_le {next : List (List Int)} (h : ∀ l ∈ next, l.length ≤ 2) (k : Nat) : ∀ (j i : Nat), (srcsI next k j i).length ≤ 2 * j + i
  | 0, i => by
    have : ((next.getD 0 default).take i).count (k : Int) ≤ ((next.getD 0 default).take i).length := List.count_le_length
    simp only [srcsI, srcs, List.range_zero, List.flatMap_nil, List.nil_append, List.length_replicate]
    rw [List.length_take] at this; omega
  | j + 1, i => by
    have h1 := srcsI_le h k j (next.getD j default).length
    have h2 : ((next.getD (j + 1) default).take i).count (k : Int) ≤ ((next.getD (j + 1) default).take i).length := List.count_le_length
    have h3 : (next.getD j default).length ≤ 2 := by
      by_cases hj : j < next.length
      · exact h _ (getD_mem hj)
      · rw [List.getD_eq_getElem?_getD, List.getElem?_eq_none (by omega)]; exact Nat.zero_le _
    rw [← srcs_succ] at h1
    unfold srcsI
    rw [List.length_append, List.length_replicate]
    rw [List.length_take] at h2
    omega
theorem srcs_le {next : List (List Int)} (h : ∀ l ∈ next, l.length ≤ 2) (k j : Nat) : (srcs next k j).length ≤ 2 * j := by
  have := srcsI_le h k j 0
  rw [srcsI_zero] at this; omega
theorem srcs_one {next : List (List Int)} {k m : Nat} (h : (srcs next k m).length = 1) : ∃ j : Nat, j < m ∧ srcs next k m = [(j : Int)] ∧ lastS (srcs next k m) = (j : Int) := by
  obtain ⟨x, hx⟩ := List.length_eq_one_iff.1 h
  have hm : x ∈ srcs next k m := by rw [hx]; simp
  obtain ⟨j, h1, rfl, _⟩ := mem_srcs.1 hm
  exact ⟨j, h1, hx, by rw [hx]; rfl⟩
theorem heads_le (f : GFn) : (headsL f).length ≤ f.blocks.length := by
  unfold headsL
  exact Nat.le_trans (List.length_filter_le _ _) (by simp)
theorem most_no {f : GFn} (h : VF f) {k m : Nat} (hk0 : 1 ≤ k) (hk : k < (tidyG f).blocks.length) (hm : m = (nextL (tidyG f)).length) (hc : (srcs (nextL (tidyG f)) k m).length = 0 ∨ ((srcs (nextL (tidyG f)) k m).length = 1 ∧ ¬ lastS (srcs (nextL (tidyG f)) k m) = (k : Int) ∧ ((tidyG f).blocks.getD (lastS (srcs (nextL (tidyG f)) k m)).toNat default).fin = 1)) : False := by
  have e : m = (headsL f).length := by rw [hm, nextL_length, tidyG_length]
  subst e
  rw [tidyG_length] at hk
  obtain ⟨h1, h2⟩ := tidy_most h hk hk0
  rcases hc with hc | ⟨c1, c2, c3⟩
  · exact h1 (List.eq_nil_of_length_eq_zero hc)
  · obtain ⟨j, j1, j2, j3⟩ := srcs_one c1
    rw [j3] at c2 c3
    exact h2 j j2 (by omega) (by simpa [-List.getD_eq_getElem?_getD] using c3)
end Lg
end Go.Proofs.Ytpfhmodjjljpjaa

namespace Go.Proofs.Ytpfhmodjjljpjaa
open Go.RowKit
namespace Lg
set_option linter.unusedSimpArgs false
set_option linter.unusedVariables false

/-! ### A part of a slice of the call's own, in its place -/
theorem RowsRd.subs {w : World} {ok : Nat → Prop} {sz : Nat} {rows : List (List Cell)} {cells : List Value} (hR : RowsRd w ok sz rows cells) {l h : Nat} (h1 : l ≤ h) (h2 : h ≤ rows.length) : RowsRd w ok sz (sub rows l h) ((cells.drop (l * sz)).take ((h - l) * sz)) := by
  have hm : (h - l) * sz + l * sz ≤ rows.length * sz := by
    rw [← Nat.add_mul]; exact Nat.mul_le_mul_right _ (by omega)
  have hsl := sub_length h1 h2
  refine ⟨by rw [hsl, List.length_take, List.length_drop, hR.len]; omega, fun i r hi => ?_⟩
  obtain ⟨h3, h4⟩ := hR.each (l + i) r (sub_at hi)
  have hil : i < h - l := by rw [← hsl]; exact (List.getElem?_eq_some_iff.1 hi).1
  refine ⟨h3, fun j cl hj => ?_⟩
  obtain ⟨u, h5, h6⟩ := h4 j cl hj
  have hjl : j < sz := by rw [← h3]; exact (List.getElem?_eq_some_iff.1 hj).1
  have hlt : i * sz + j < (h - l) * sz := by
    have : (i + 1) * sz ≤ (h - l) * sz := Nat.mul_le_mul_right _ hil
    rw [Nat.succ_mul] at this; omega
  refine ⟨u, ?_, h6⟩
  rw [List.getElem?_take, if_pos hlt, List.getElem?_drop, show l * sz + (i * sz + j) = (l + i) * sz + j by rw [Nat.add_mul]; omega]
  exact h5
theorem sub_tail {α : Type} (l : List α) : sub l 1 l.length = l.drop 1 := by
  unfold sub
  rw [List.take_of_length_le (by rw [List.length_drop]; omega)]
section
variable {P : Program} {N b : Nat} {o : Oper} {st : St} (D : Tab P)
theorem T_slO {α : Type} {enc : α → List Cell} {xs : List α} {t i e sz l h : Nat} {x : Operand} {lo hi mx : Option Operand} {vl vh vm : Option Value} {ty ety : TyI} (ho : o.op = .slice t x lo hi mx) (hx : st.ev x = some (.r i)) (hob : st.o.lookup i = some (.row e sz (xs.map enc))) (hlo : oev st lo = some (vl.map .v)) (hhi : oev st hi = some (vh.map .v)) (hmx : oev st mx = some (vm.map .v))
    (hi' : D.get t = some ty) (he0 : (ty.elem == 0) = false) (he : D.get ty.elem = some ety) (hs : ety.size = sz) (h1 : l ≤ h) (h2 : h ≤ xs.length) (hb : SlB P xs.length l h vl vh vm) :
    T P N o b [i] st (.r b) 1 [(b, .row e sz ((sub xs l h).map enc)), (i, .no)] := by
  intro w0 M U ρ own st' a w hev hp hfrs fr hr
  obtain ⟨hv, hu⟩ := fr.eval ((hev x (by simp [ho, Op.operands])).trans hx)
  have e1 := opt_eval (st := st) fr (x := lo) (fun y hy => hev y (by simp [ho, Op.operands, hy])) hlo
  have e2 := opt_eval (st := st) fr (x := hi) (fun y hy => hev y (by simp [ho, Op.operands, hy])) hhi
  have e3 := opt_eval (st := st) fr (x := mx) (fun y hy => hev y (by simp [ho, Op.operands, hy])) hmx
  have hoi := (hp i (by simp)).trans hob
  obtain ⟨⟨hs0, cells, q1, q2, q3⟩, hUi, _⟩ := hr.ob i _ hoi
  have hlen : (xs.map enc).length = xs.length := by simp
  obtain ⟨A, c, hA, hcap, hA0⟩ : ∃ A c, ρ i = .slice A xs.length c ∧ xs.length ≤ c ∧ (A = none → c = 0) := by
    rcases q1.2 with ⟨h4, h5⟩ | ⟨g, off, cap, cur, he, hh, r1, r2, r3, r4⟩
    · rw [hlen] at h5
      exact ⟨none, 0, by rw [h4, h5], by omega, fun _ => rfl⟩
    · exact ⟨_, cap, by rw [he, hlen], by rw [← hlen]; exact r1, fun h => by cases h⟩
  obtain ⟨m, hm, hm1, hm2⟩ := hb c w hcap
  have hrun := run_slice_op (P := P) (ev := a.eval) (w := w) ho (v := .slice (if m = l then A else A.map (·.add (l * ety.size))) (h - l) (m - l)) (by
    rw [e1, e2, e3, hv]
    simp only [LV.val, hA]
    exact run_sl (D.ok t ty hi') (by simpa using he0) (D.ok _ ety he) hm)
  rw [hs] at hrun
  have hnew : OwnsR w e sz (.slice (if m = l then A else A.map (·.add (l * sz))) (h - l) (m - l)) (h - l) ((cells.drop (l * sz)).take ((h - l) * sz)) := by
    have hlt := (q3.subs h1 (by rw [hlen]; exact h2)).len
    rw [sub_length h1 (by rw [hlen]; exact h2)] at hlt
    refine ⟨hlt, ?_⟩
    rcases q1.2 with ⟨h4, h5⟩ | ⟨g, off, cap, cur, he, hh, r1, r2, r3, r4⟩
    · rw [h4] at hA
      have hA1 : A = none := by injection hA with e1 _ _; exact e1.symm
      have hc0 := hA0 hA1
      subst hA1
      rw [hlen] at h5
      have : m = l := by omega
      left
      rw [if_pos this]
      exact ⟨by rw [show h - l = 0 by omega, show m - l = 0 by omega], by omega⟩
    · rw [hA] at he
      injection he with e1 e2 e3
      subst e1 e3
      rw [hlen] at r4 r1
      have hml : (m - l) * sz + l * sz ≤ c * sz := by rw [← Nat.add_mul]; exact Nat.mul_le_mul_right _ (by omega)
      by_cases hmeq : m = l
      · rw [if_pos hmeq]
        refine .inr ⟨g, off, m - l, cur, rfl, hh, by omega, by omega, by omega, ?_⟩
        rw [show h - l = 0 by omega, Nat.zero_mul, List.take_zero, List.take_zero]
      · rw [if_neg hmeq]
        refine .inr ⟨g, off + l * sz, m - l, cur, by simp [add_at], hh, by omega, by omega, by omega, ?_⟩
        have hx : (h - l) * sz + l * sz ≤ xs.length * sz := by rw [← Nat.add_mul]; exact Nat.mul_le_mul_right _ (by omega)
        rw [← r4, List.drop_take, List.take_take, List.drop_drop, Nat.min_eq_left (by omega)]
  have hbU : ¬ U b := hfrs b (Nat.le_refl _) (by omega)
  have hbi : b ≠ i := fun h => hbU (h ▸ hUi)
  have hblk : ∀ k, (Value.slice (if m = l then A else A.map (·.add (l * sz))) (h - l) (m - l)).ownBlock = some k → own k = some i := fun k hk => q2 k (by
    rw [hA]
    revert hk
    split
    · cases A with
      | none => exact fun hk => hk
      | some ad => exact fun hk => hk
    · cases A with
      | none => exact fun hk => by cases hk
      | some ad => intro hk; simp only [Option.map_some, Value.ownBlock, add_block] at hk; exact hk)
  have hρ : ∀ q, U q → upd1 ρ b (.slice (if m = l then A else A.map (·.add (l * sz))) (h - l) (m - l)) q = ρ q := fun q hq => upd1_other _ _ (fun h => hbU (h ▸ hq))
  refine does_value hrun ⟨upd1 ρ b _, fun k => if own k = some i then some b else own k, by simp [LV.val, upd1_same], hρ, .inr ⟨Nat.le_refl _, by omega⟩, ?_⟩
  refine hr.step (fun q => q = i) rfl rfl rfl (Nat.le_refl _) (fun k hk hq => ⟨rfl, ?_⟩) hρ (fun i hi => .inl hi) (fun q hq => ⟨.no, by subst hq; simp [List.lookup, show (q == b) = false by simpa using Ne.symm hbi]⟩) (fun q ob' hq => ?_) (fun q ob' hq => ?_)
  · have hne : own k ≠ some i := fun h => hq i h rfl
    simp [hne]
  · simp only [List.lookup] at hq
    cases hqb : q == b with
    | true => exact .inr (by rw [show q = b by simpa using hqb]; exact hbU)
    | false =>
      rw [hqb] at hq
      cases hqi : q == i with
      | true => exact .inl (by rw [show q = i by simpa using hqi]; exact ⟨_, hoi⟩)
      | false => rw [hqi] at hq; cases hq
  · simp only [List.lookup] at hq
    cases hqb : q == b with
    | true =>
      rw [hqb] at hq
      obtain rfl : q = b := by simpa using hqb
      obtain rfl : Ob.row e sz ((sub xs l h).map enc) = ob' := by injection hq
      refine ⟨⟨hs0, (cells.drop (l * sz)).take ((h - l) * sz), ?_, fun k hk => ?_, ?_⟩, .inr ⟨Nat.le_refl _, by omega⟩, trivial⟩
      · rw [upd1_same, List.length_map, sub_length h1 h2]; exact hnew
      · rw [upd1_same] at hk
        simp [hblk k hk]
      · rw [← sub_map]
        exact (q3.subs h1 (by rw [hlen]; exact h2)).mono (fun k hk _ => ⟨by simp [hk], rfl⟩)
    | false =>
      rw [hqb] at hq
      cases hqi : q == i with
      | true =>
        rw [hqi] at hq
        obtain rfl : Ob.no = ob' := by injection hq
        obtain rfl : q = i := by simpa using hqi
        exact ⟨trivial, .inl hUi, trivial⟩
      | false => rw [hqi] at hq; cases hq
end
end Lg
end Go.Proofs.Ytpfhmodjjljpjaa

namespace Go.Proofs.Ytpfhmodjjljpjaa
open Go.RowKit
namespace Lg

/-! ### What is reached, breadth first -/
theorem mem_getD' {α : Type} [Inhabited α] {p : List α} {x : α} (h : x ∈ p) : ∃ i, i < p.length ∧ p.getD i default = x := by
  obtain ⟨i, hi, e⟩ := List.mem_iff_getElem.1 h
  exact ⟨i, hi, by rw [List.getD_eq_getElem?_getD, List.getElem?_eq_getElem hi, e]; rfl⟩
def reachN (next : List (List Int)) : List Bool := ((visit next (-1) (next.length + 1) 0 (List.replicate next.length false, List.replicate next.length false)).getD ([], [])).2
theorem reachN_length (next : List (List Int)) : (reachN next).length = next.length := by
  obtain ⟨s2, o2, h1, h2, h3⟩ := visit_all next
  unfold reachN; rw [h1]; exact h2
theorem reachN_iff (next : List (List Int)) (x : Nat) : (reachN next).getD x default = true ↔ RF next (-1) 0 x := by
  obtain ⟨s2, o2, h1, h2, h3⟩ := visit_all next
  unfold reachN; rw [h1]; exact h3 x

def closedAt (next : List (List Int)) (out : List Bool) (x : Nat) : Prop := ∀ y ∈ next.getD x default, 0 ≤ y → y < (next.length : Int) → out.getD y.toNat default = true
def msr (out : List Bool) (todo : List Int) : Nat := 2 * out.count false + todo.length
structure BF (next : List (List Int)) (out : List Bool) (todo : List Int) : Prop where
  len : out.length = next.length
  fr : ∀ x, out.getD x default = true → RF next (-1) 0 x
  tin : ∀ t ∈ todo, 0 ≤ t ∧ t < (next.length : Int) ∧ out.getD t.toNat default = true
  clos : ∀ x : Nat, out.getD x default = true → (x : Int) ∈ todo ∨ closedAt next out x
  zero : out.getD 0 default = true
  size : msr out todo ≤ 2 * next.length + 1
structure BI (next : List (List Int)) (c m i : Nat) (out : List Bool) (todo : List Int) : Prop where
  len : out.length = next.length
  fr : ∀ x, out.getD x default = true → RF next (-1) 0 x
  tin : ∀ t ∈ todo, 0 ≤ t ∧ t < (next.length : Int) ∧ out.getD t.toNat default = true
  zero : out.getD 0 default = true
  cin : c < next.length ∧ out.getD c default = true
  clos : ∀ x : Nat, out.getD x default = true → x = c ∨ (x : Int) ∈ todo ∨ closedAt next out x
  done : ∀ q, q < i → 0 ≤ (next.getD c default).getD q default → (next.getD c default).getD q default < (next.length : Int) → out.getD ((next.getD c default).getD q default).toNat default = true
  size : msr out todo ≤ m
theorem bf_start {next : List (List Int)} (h : 0 < next.length) : BF next ((List.replicate next.length false).set 0 true) [0] := by
  have hg : ∀ x, ((List.replicate next.length false).set 0 true).getD x default = true ↔ x = 0 := fun x => by
    rw [getD_set_true (by simpa using h)]
    split
    · rename_i e; exact ⟨fun _ => e, fun _ => rfl⟩
    · rename_i e
      have hf : (List.replicate next.length false).getD x default = false := by
        rw [List.getD_eq_getElem?_getD, List.getElem?_replicate]
        split <;> rfl
      rw [hf]
      exact ⟨fun k => absurd k (by decide), fun k => absurd k e⟩
  refine ⟨by simp, fun x hx => ?_, fun t ht => ?_, fun x hx => .inl ?_, (hg 0).2 rfl, ?_⟩
  · rw [(hg x).1 hx]
    exact RF.refl (b := 0) (by omega) (by omega) (by omega)
  · rw [List.mem_singleton.1 ht]
    exact ⟨by omega, by omega, (hg 0).2 rfl⟩
  · rw [(hg x).1 hx]; simp
  · have : ((List.replicate next.length false).set 0 true).count false + 1 = (List.replicate next.length false).count false := count_set_lt (by simpa using h) (by
      rw [List.getD_eq_getElem?_getD, List.getElem?_replicate, if_pos h]; rfl)
    rw [List.count_replicate_self] at this
    unfold msr
    simp only [List.length_singleton]; omega
theorem BF.pop {next : List (List Int)} {out : List Bool} {t : Int} {rest : List Int} (h : BF next out (t :: rest)) : BI next t.toNat (msr out rest) 0 out rest := by
  have ht := h.tin t (by simp)
  refine ⟨h.len, h.fr, fun s hs => h.tin s (List.mem_cons_of_mem _ hs), h.zero, ⟨by omega, ht.2.2⟩, fun x hx => ?_, fun q hq => absurd hq (Nat.not_lt_zero _), Nat.le_refl _⟩
  rcases h.clos x hx with hm | hm
  · rcases List.mem_cons.1 hm with e | e
    · exact .inl (by omega)
    · exact .inr (.inl e)
  · exact .inr (.inr hm)
theorem BI.skip {next : List (List Int)} {c m i : Nat} {out : List Bool} {todo : List Int} (h : BI next c m i out todo) (hk : 0 ≤ (next.getD c default).getD i default → (next.getD c default).getD i default < (next.length : Int) → out.getD ((next.getD c default).getD i default).toNat default = true) : BI next c m (i + 1) out todo :=
  ⟨h.len, h.fr, h.tin, h.zero, h.cin, h.clos, fun q hq => by
    rcases Nat.lt_or_ge q i with h1 | h1
    · exact h.done q h1
    · have : q = i := by omega
      subst this; exact hk, h.size⟩
theorem BI.push {next : List (List Int)} {c m i : Nat} {out : List Bool} {todo : List Int} {k : Int} (h : BI next c m i out todo) (hi : i < (next.getD c default).length) (hk : (next.getD c default).getD i default = k) (h0 : 0 ≤ k) (h1 : k < (next.length : Int)) (hf : out.getD k.toNat default = false) : BI next c m (i + 1) (out.set k.toNat true) (todo ++ [k]) := by
  have hl : k.toNat < out.length := by rw [h.len]; omega
  have hmono : ∀ x, out.getD x default = true → (out.set k.toNat true).getD x default = true := fun x hx => by
    rw [getD_set_true hl]; split
    · rfl
    · exact hx
  have hself : (out.set k.toNat true).getD k.toNat default = true := by rw [getD_set_true hl, if_pos rfl]
  have hnew : ∀ x, (out.set k.toNat true).getD x default = true → x = k.toNat ∨ out.getD x default = true := fun x hx => by
    rw [getD_set_true hl] at hx
    split at hx
    · exact .inl (by assumption)
    · exact .inr hx
  have hcl : ∀ x, closedAt next out x → closedAt next (out.set k.toNat true) x := fun x hx y hy a1 a2 => hmono _ (hx y hy a1 a2)
  refine ⟨by rw [List.length_set]; exact h.len, fun x hx => ?_, fun t ht => ?_, hmono _ h.zero, ⟨h.cin.1, hmono _ h.cin.2⟩, fun x hx => ?_, fun q hq a1 a2 => ?_, ?_⟩
  · rcases hnew x hx with e | e
    · rw [e]
      refine RF.step (h.fr c h.cin.2) ?_ h0 h1 (by omega)
      rw [← hk]; exact getD_mem hi
    · exact h.fr x e
  · rcases List.mem_append.1 ht with e | e
    · have := h.tin t e
      exact ⟨this.1, this.2.1, hmono _ this.2.2⟩
    · rw [List.mem_singleton.1 e]; exact ⟨h0, h1, hself⟩
  · rcases hnew x hx with e | e
    · right; left
      rw [e, List.mem_append]
      right
      rw [List.mem_singleton]; omega
    · rcases h.clos x e with e2 | e2 | e2
      · exact .inl e2
      · exact .inr (.inl (List.mem_append_left _ e2))
      · exact .inr (.inr (hcl x e2))
  · rcases Nat.lt_or_ge q i with h2 | h2
    · exact hmono _ (h.done q h2 a1 a2)
    · have : q = i := by omega
      subst this
      rw [hk]; exact hself
  · have h3 := count_set_lt hl hf
    have h4 := h.size
    unfold msr at h4 ⊢
    rw [List.length_append, List.length_singleton]; omega
theorem BI.fin {next : List (List Int)} {c m i : Nat} {out : List Bool} {todo : List Int} (h : BI next c m i out todo) (hi : (next.getD c default).length ≤ i) (hm : m ≤ 2 * next.length + 1) : BF next out todo := by
  refine ⟨h.len, h.fr, h.tin, fun x hx => ?_, h.zero, Nat.le_trans h.size hm⟩
  rcases h.clos x hx with e | e | e
  · right
    rw [e]
    intro y hy a1 a2
    obtain ⟨q, hq, rfl⟩ := mem_getD' hy
    exact h.done q (by omega) a1 a2
  · exact .inl e
  · exact .inr e
theorem BF.fin {next : List (List Int)} {out : List Bool} (h : BF next out []) : out = reachN next := by
  have hback : ∀ x, RF next (-1) 0 x → out.getD x default = true := fun x hr => by
    induction hr with
    | refl a0 a1 a2 => exact h.zero
    | @step x y _ hy a0 a1 a2 ih =>
      rcases h.clos x ih with e | e
      · cases e
      · exact e y hy a0 a1
  refine ext_getD (by rw [h.len, reachN_length]) (fun x _ => ?_)
  have hiff : out.getD x default = true ↔ RF next (-1) 0 x := ⟨h.fr x, hback x⟩
  have h2 := reachN_iff next x
  rcases bool_cases (out.getD x default) with e | e
  · rw [e, h2.2 (hiff.1 e)]
  · rw [e]
    rcases bool_cases ((reachN next).getD x default) with e2 | e2
    · rw [hiff.2 (h2.1 e2)] at e; cases e
    · exact e2.symm
theorem BF.pop' {next : List (List Int)} {out : List Bool} {todo : List Int} (h : BF next out todo) (h0 : 0 < todo.length) : BI next (todo.getD 0 default).toNat (msr out (todo.drop 1)) 0 out (todo.drop 1) := by
  cases todo with
  | nil => simp at h0
  | cons t rest => exact h.pop
theorem msr_drop {out : List Bool} {todo : List Int} (h0 : 0 < todo.length) : msr out (todo.drop 1) + 1 = msr out todo := by
  cases todo with
  | nil => simp at h0
  | cons t rest => simp only [msr, List.drop_one, List.tail_cons, List.length_cons]; omega
theorem reach_none {next : List (List Int)} (h : next.length = 0) : List.replicate next.length false = reachN next :=
  ext_getD (by rw [reachN_length]; simp) (fun i hi => by rw [List.length_replicate] at hi; omega)
theorem BF.fin' {next : List (List Int)} {out : List Bool} {todo : List Int} (h : BF next out todo) (h0 : todo.length = 0) : out = reachN next := by
  have e : todo = [] := List.eq_nil_of_length_eq_zero h0
  subst e
  exact h.fin
theorem BI.len3 {next : List (List Int)} {c m i : Nat} {out : List Bool} {todo : List Int} (h : BI next c m i out todo) : todo.length ≤ m := by
  have := h.size
  unfold msr at this; omega
end Lg
end Go.Proofs.Ytpfhmodjjljpjaa
