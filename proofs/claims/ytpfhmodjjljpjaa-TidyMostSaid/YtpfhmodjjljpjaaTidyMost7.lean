import Derived.Test.YtpfhmodjjljpjaaTidyMost6
namespace Go.Proofs.Ytpfhmodjjljpjaa
open Go.RowKit
namespace Lg
set_option maxRecDepth 100000
set_option linter.unusedVariables false
set_option linter.unusedSimpArgs false



theorem body38 : (Try.prog.funcs[38]?).map (fun fn => (fn.name == "runtime.NumGoroutine" || fn.body.isNone)) = some false := by kernel_rfl
theorem rnext_spec (f : GFn) (hf : f.blocks.length ≤ 1000000) : Spec Try.prog 38 [.agg [.v (.int .i64 f.regs), .r 1]] 2 [(1, .fz 5 (f.blocks.map eBlock))] (.r 2) 3 [(2, .row 52 1 ((f.blocks.map follows).map eIs))] := by
  refine spec_of D (fn := Try.f38) rfl rfl (Nat.le_of_ble_eq_true rfl) ?_
  refine W_seq ?_
  refine W_seqK (b' := 34) rfl rfl ?_
  refine k_op1 (d := 1) (b := 2) (j' := 1) rfl rfl rfl rfl (.plain rfl) (T_box rfl rfl flat_agg) rfl ?_
  refine k_op1 (d := 2) (b := 18) (j' := 2) rfl rfl rfl rfl (.plain rfl) (T_nils [(52, 1)] (T_assign rfl rfl) rfl (.inr ⟨rfl, rfl⟩) (.cons (.nil rfl) .nil) (lv' := .r 18) (upd' := [(18, .row 52 1 (List.map eIs ([] : List (List Int))))]) (nn' := 1) rfl rfl) rfl ?_
  refine k_done rfl ?_
  refine thenK_n ?_
  refine W_seq ?_
  refine W_seqK (b' := 114) rfl rfl ?_
  refine k_op0 (d := 6) (b := 34) (j' := 1) rfl rfl rfl rfl (.plain rfl) (T_fa D (m := 1) rfl rfl rfl rfl rfl rfl) rfl ?_
  refine k_op0 (d := 7) (b := 50) (j' := 2) rfl rfl rfl rfl (.plain rfl) (T_load_b D rfl rfl rfl rfl rfl rfl) rfl ?_
  refine k_op0 (d := 8) (b := 66) (j' := 3) rfl rfl rfl rfl (.plain rfl) (T_len D rfl rfl rfl rfl rfl rfl) rfl ?_
  refine k_op1 (d := 9) (b := 82) (j' := 4) rfl rfl rfl rfl (.plain rfl) (T_make D (zx := ([] : List Int)) (enc := eIs) rfl rfl rfl rfl rfl rfl rfl (.z (.nil)) rfl (by (try simp only [ty52]); first | assumption | omega | (simp; omega)) (by (try simp only [ty52]); first | assumption | omega | (simp; omega))) rfl ?_
  refine k_op0 (d := 3) (b := 98) (j' := 5) rfl rfl rfl rfl (.plain rfl) (T_assign rfl rfl) rfl ?_
  refine k_done rfl ?_
  refine thenK_n ?_
  refine W_seq ?_
  refine W_seq ?_
  refine W_seqK (b' := 130) rfl rfl ?_
  refine k_op0 (d := 4) (b := 114) (j' := 1) rfl rfl rfl rfl (.plain rfl) (T_assign rfl rfl) rfl ?_
  refine k_done rfl ?_
  refine thenK_n ?_
  refine W_block ?_
  refine W_loop (ι := Nat) 4 (fun j => ⟨[(1, .p 2 0), (3, .r 3), (4, .v (.int .i64 (j : Int)))], [(1, .fz 5 (f.blocks.map eBlock)), (2, .box 29 [.v (.int .i64 f.regs), .r 1]), (3, .row 52 1 (((f.blocks.take j).map follows ++ List.replicate (f.blocks.length - j) []).map eIs))]⟩) (fun j => j ≤ f.blocks.length) (fun j => f.blocks.length - j) (0) (by exact Nat.zero_le _) ?_ (fun j hJ => ?_)
  · exact ⟨[(2, 2), (3, 82)], .same rfl rfl (.same rfl rfl (.eq rfl (.nil) (by first | rfl | simp))), .fzE rfl (.box (by first | rfl | simp) (.rowE rfl (.nil) (by first | rfl | simp))) (by first | rfl | simp), rfl⟩
  refine W_seq ?_
  refine W_seq ?_
  refine W_seqK (b' := 84) rfl rfl ?_
  refine k_op0 (d := 10) (b := 4) (j' := 1) rfl rfl rfl rfl (.plain rfl) (T_move rfl rfl) rfl ?_
  refine k_op0 (d := 11) (b := 20) (j' := 2) rfl rfl rfl rfl (.plain rfl) (T_fa D (m := 1) rfl rfl rfl rfl rfl rfl) rfl ?_
  refine k_op0 (d := 12) (b := 36) (j' := 3) rfl rfl rfl rfl (.plain rfl) (T_load_b D rfl rfl rfl rfl rfl rfl) rfl ?_
  refine k_op0 (d := 13) (b := 52) (j' := 4) rfl rfl rfl rfl (.plain rfl) (T_len D rfl rfl rfl rfl rfl rfl) rfl ?_
  refine k_op0 (d := 14) (b := 68) (j' := 5) rfl rfl rfl rfl (.plain rfl) (T_cmp rfl rfl rfl rfl) rfl ?_
  refine k_done rfl ?_
  refine thenK_n ?_
  refine W_cond rfl (fun g1 => ?_) (fun g1 => ?_)
  · have h1 := g1; (try simp only [cmpB, decide_eq_true_eq, decide_eq_false_iff_not, beq_iff_eq, beq_eq_false_iff_ne, bne_iff_ne, ne_eq, bne_eq_false_iff_eq, Bool.not_eq_true', Bool.not_eq_false', Int.not_lt, Int.not_le] at h1)
    refine W_skip ?_
    refine thenK_n ?_
    refine W_seq ?_
    refine W_block ?_
    refine W_seq ?_
    refine W_seqK (b' := 196) rfl rfl ?_
    refine k_op0 (d := 17) (b := 84) (j' := 1) rfl rfl rfl rfl (.plain rfl) (T_fa D (m := 1) rfl rfl rfl rfl rfl rfl) rfl ?_
    refine k_op0 (d := 18) (b := 100) (j' := 2) rfl rfl rfl rfl (.plain rfl) (T_load_b D rfl rfl rfl rfl rfl rfl) rfl ?_
    refine k_op0 (d := 19) (b := 116) (j' := 3) rfl rfl rfl rfl (.plain rfl) (T_move rfl rfl) rfl ?_
    first | refine k_op0 (d := 20) (b := 132) (j' := 4) rfl rfl rfl rfl (.plain rfl) (T_indexAddr D rfl rfl rfl rfl rfl rfl rfl rfl (by first | assumption | omega | (simp; omega))) rfl ?_ | refine k_op0 (d := 20) (b := 132) (j' := 4) rfl rfl rfl rfl (.plain rfl) (T_indexAddrZ D rfl rfl rfl rfl rfl rfl rfl rfl (by first | assumption | omega | (simp; omega)) (by first | assumption | omega | (simp; omega))) rfl ?_
    refine k_op1 (d := 21) (b := 148) (j' := 5) rfl rfl rfl rfl (.plain rfl) (T_ldEA D (l := [.r 148, .v _, .v _, .v _, .v _]) (nn := 1) (upd := [(148, .fz 8 _)]) rfl rfl rfl rfl rfl (by first | assumption | omega | (simp; omega)) rfl rfl rfl rfl rfl) rfl ?_
    refine k_opn (d := 5) (b := 164) (j' := 6) rfl rfl rfl rfl (.plain rfl) (T_nilbox [(70, 8)] (T_alloc D rfl rfl rfl) rfl (.cons (.nil rfl) <| .cons (.same _) <| .cons (.same _) <| .cons (.same _) <| .cons (.same _) <| .nil) (upd' := [(164, .box 72 [.r 165, .v (.int .i64 0), .v (.int .i64 0), .v (.int .i64 0), .v (.int .i64 0)]), (165, .row 70 8 (List.map eTac ([] : List (GTac))))]) (nn' := 2) rfl rfl) rfl ?_
    refine k_st1 (b := 180) (j' := 7) rfl rfl rfl rfl (.plain rfl) (T_stB D (cs' := [_, _, _, _, _]) rfl rfl rfl rfl flat_agg rfl rfl (Nat.le_of_ble_eq_true rfl) rfl) rfl ?_
    refine k_done rfl ?_
    refine thenK_n ?_
    refine W_seq ?_
    refine W_seq ?_
    refine W_seqK (b' := 244) rfl rfl ?_
    refine k_op0 (d := 22) (b := 196) (j' := 1) rfl rfl rfl rfl (.plain rfl) (T_fa D (m := 1) rfl rfl rfl rfl rfl rfl) rfl ?_
    refine k_op0 (d := 23) (b := 212) (j' := 2) rfl rfl rfl rfl (.plain rfl) (T_load_b D rfl rfl rfl rfl rfl rfl) rfl ?_
    refine k_op0 (d := 24) (b := 228) (j' := 3) rfl rfl rfl rfl (.plain rfl) (T_cmp rfl rfl rfl rfl) rfl ?_
    refine k_done rfl ?_
    refine thenK_n ?_
    refine W_cond rfl (fun g2 => ?_) (fun g2 => ?_)
    · have h2 := g2; (try simp only [cmpB, decide_eq_true_eq, decide_eq_false_iff_not, beq_iff_eq, beq_eq_false_iff_ne, bne_iff_ne, ne_eq, bne_eq_false_iff_eq, Bool.not_eq_true', Bool.not_eq_false', Int.not_lt, Int.not_le] at h2)
      refine W_seqK (b' := 356) rfl rfl ?_
      refine k_op0 (d := 25) (b := 244) (j' := 1) rfl rfl rfl rfl (.plain rfl) (T_move rfl rfl) rfl ?_
      refine k_op0 (d := 26) (b := 260) (j' := 2) rfl rfl rfl rfl (.plain rfl) (T_move rfl rfl) rfl ?_
      refine k_op0 (d := 27) (b := 276) (j' := 3) rfl rfl rfl rfl (.plain rfl) (T_fa D (m := 3) rfl rfl rfl rfl rfl rfl) rfl ?_
      refine k_op0 (d := 28) (b := 292) (j' := 4) rfl rfl rfl rfl (.plain rfl) (T_load_b D rfl rfl rfl rfl rfl rfl) rfl ?_
      refine k_op1 (d := 29) (b := 308) (j' := 5) rfl rfl rfl rfl (.plain rfl) (T_bs D (ys := [_]) (enc := eI) (l := [_]) rfl rfl rfl rfl rfl rfl (.cons rfl (flat_v rfl) (.nil)) rfl rfl rfl rfl (.v rfl (.nil)) rfl rfl) rfl ?_
      first | refine k_op0 (d := 30) (b := 324) (j' := 6) rfl rfl rfl rfl (.plain rfl) (T_indexAddr D rfl rfl rfl rfl rfl rfl rfl rfl (by first | assumption | omega | (simp; omega))) rfl ?_ | refine k_op0 (d := 30) (b := 324) (j' := 6) rfl rfl rfl rfl (.plain rfl) (T_indexAddrZ D rfl rfl rfl rfl rfl rfl rfl rfl (by first | assumption | omega | (simp; omega)) (by first | assumption | omega | (simp; omega))) rfl ?_
      refine k_stn (b := 340) (j' := 7) rfl rfl rfl rfl (.plain rfl) (T_store_e D (z := _) rfl rfl rfl rfl (flat_sl rfl) rfl rfl (by first | assumption | omega | (simp; omega)) (.row rfl (.nil) rfl) rfl (Nat.le_of_ble_eq_true rfl) rfl) rfl ?_
      refine k_done rfl ?_
      refine thenK_n ?_
      refine W_seq ?_
      refine W_seqK (b' := 404) rfl rfl ?_
      refine k_op0 (d := 31) (b := 356) (j' := 1) rfl rfl rfl rfl (.plain rfl) (T_fa D (m := 1) rfl rfl rfl rfl rfl rfl) rfl ?_
      refine k_op0 (d := 32) (b := 372) (j' := 2) rfl rfl rfl rfl (.plain rfl) (T_load_b D rfl rfl rfl rfl rfl rfl) rfl ?_
      refine k_op0 (d := 33) (b := 388) (j' := 3) rfl rfl rfl rfl (.plain rfl) (T_cmp rfl rfl rfl rfl) rfl ?_
      refine k_done rfl ?_
      refine thenK_n ?_
      refine W_cond rfl (fun g3 => ?_) (fun g3 => ?_)
      · have h3 := g3; (try simp only [cmpB, decide_eq_true_eq, decide_eq_false_iff_not, beq_iff_eq, beq_eq_false_iff_ne, bne_iff_ne, ne_eq, bne_eq_false_iff_eq, Bool.not_eq_true', Bool.not_eq_false', Int.not_lt, Int.not_le] at h3)
        refine W_seqK (b' := 548) rfl rfl ?_
        refine k_op0 (d := 34) (b := 404) (j' := 1) rfl rfl rfl rfl (.plain rfl) (T_move rfl rfl) rfl ?_
        refine k_op0 (d := 35) (b := 420) (j' := 2) rfl rfl rfl rfl (.plain rfl) (T_move rfl rfl) rfl ?_
        refine k_op0 (d := 36) (b := 436) (j' := 3) rfl rfl rfl rfl (.plain rfl) (T_fa D (m := 3) rfl rfl rfl rfl rfl rfl) rfl ?_
        refine k_op0 (d := 37) (b := 452) (j' := 4) rfl rfl rfl rfl (.plain rfl) (T_load_b D rfl rfl rfl rfl rfl rfl) rfl ?_
        refine k_op0 (d := 38) (b := 468) (j' := 5) rfl rfl rfl rfl (.plain rfl) (T_fa D (m := 4) rfl rfl rfl rfl rfl rfl) rfl ?_
        refine k_op0 (d := 39) (b := 484) (j' := 6) rfl rfl rfl rfl (.plain rfl) (T_load_b D rfl rfl rfl rfl rfl rfl) rfl ?_
        refine k_op1 (d := 40) (b := 500) (j' := 7) rfl rfl rfl rfl (.plain rfl) (T_bs D (ys := [_, _]) (enc := eI) (l := [_, _]) rfl rfl rfl rfl rfl rfl (.cons rfl (flat_v rfl) (.cons rfl (flat_v rfl) (.nil))) rfl rfl rfl rfl (.v rfl (.v rfl (.nil))) rfl rfl) rfl ?_
        first | refine k_op0 (d := 41) (b := 516) (j' := 8) rfl rfl rfl rfl (.plain rfl) (T_indexAddr D rfl rfl rfl rfl rfl rfl rfl rfl (by first | assumption | omega | (simp; omega))) rfl ?_ | refine k_op0 (d := 41) (b := 516) (j' := 8) rfl rfl rfl rfl (.plain rfl) (T_indexAddrZ D rfl rfl rfl rfl rfl rfl rfl rfl (by first | assumption | omega | (simp; omega)) (by first | assumption | omega | (simp; omega))) rfl ?_
        refine k_stn (b := 532) (j' := 9) rfl rfl rfl rfl (.plain rfl) (T_store_e D (z := _) rfl rfl rfl rfl (flat_sl rfl) rfl rfl (by first | assumption | omega | (simp; omega)) (.row rfl (.nil) rfl) rfl (Nat.le_of_ble_eq_true rfl) rfl) rfl ?_
        refine k_done rfl ?_
        refine blockK_n ?_
        refine thenK_n ?_
        refine W_seqK (b' := 596) rfl rfl ?_
        refine k_op0 (d := 15) (b := 548) (j' := 1) rfl rfl rfl rfl (.plain rfl) (T_move rfl rfl) rfl ?_
        refine k_op0 (d := 16) (b := 564) (j' := 2) rfl rfl rfl rfl (.plain rfl) (T_add64 rfl rfl rfl (by first | assumption | omega | (simp; omega))) rfl ?_
        refine k_op0 (d := 4) (b := 580) (j' := 3) rfl rfl rfl rfl (.plain rfl) (T_assign rfl rfl) rfl ?_
        refine k_done rfl ?_
        refine thenK_n ?_
        refine ⟨j + 1, by (try dsimp only); omega, by (try dsimp only); omega, ?_⟩
        exact ⟨[(2, 2), (3, 3)], .same rfl rfl (.same rfl rfl (.eq rfl (.nil) (by first | rfl | (exfalso; omega) | exact congrArg _ (fill_step follows [] f.blocks j _ rfl (by omega) _ (by simp_all [follows])) | exact congrArg _ (fill_skip follows [] f.blocks j _ rfl (by omega) (by simp_all [follows]))))), .fzE rfl (.box (by first | rfl | (exfalso; omega) | exact congrArg _ (fill_step follows [] f.blocks j _ rfl (by omega) _ (by simp_all [follows])) | exact congrArg _ (fill_skip follows [] f.blocks j _ rfl (by omega) (by simp_all [follows]))) (.rowE rfl (.nil) (by first | rfl | (exfalso; omega) | exact congrArg _ (fill_step follows [] f.blocks j _ rfl (by omega) _ (by simp_all [follows])) | exact congrArg _ (fill_skip follows [] f.blocks j _ rfl (by omega) (by simp_all [follows]))))) (by first | rfl | (exfalso; omega) | exact congrArg _ (fill_step follows [] f.blocks j _ rfl (by omega) _ (by simp_all [follows])) | exact congrArg _ (fill_skip follows [] f.blocks j _ rfl (by omega) (by simp_all [follows]))), rfl⟩
      · have h3 := g3; (try simp only [cmpB, decide_eq_true_eq, decide_eq_false_iff_not, beq_iff_eq, beq_eq_false_iff_ne, bne_iff_ne, ne_eq, bne_eq_false_iff_eq, Bool.not_eq_true', Bool.not_eq_false', Int.not_lt, Int.not_le] at h3)
        refine W_skip ?_
        refine blockK_n ?_
        refine thenK_n ?_
        refine W_seqK (b' := 452) rfl rfl ?_
        refine k_op0 (d := 15) (b := 404) (j' := 1) rfl rfl rfl rfl (.plain rfl) (T_move rfl rfl) rfl ?_
        refine k_op0 (d := 16) (b := 420) (j' := 2) rfl rfl rfl rfl (.plain rfl) (T_add64 rfl rfl rfl (by first | assumption | omega | (simp; omega))) rfl ?_
        refine k_op0 (d := 4) (b := 436) (j' := 3) rfl rfl rfl rfl (.plain rfl) (T_assign rfl rfl) rfl ?_
        refine k_done rfl ?_
        refine thenK_n ?_
        refine ⟨j + 1, by (try dsimp only); omega, by (try dsimp only); omega, ?_⟩
        exact ⟨[(2, 2), (3, 3)], .same rfl rfl (.same rfl rfl (.eq rfl (.nil) (by first | rfl | (exfalso; omega) | exact congrArg _ (fill_step follows [] f.blocks j _ rfl (by omega) _ (by simp_all [follows])) | exact congrArg _ (fill_skip follows [] f.blocks j _ rfl (by omega) (by simp_all [follows]))))), .fzE rfl (.box (by first | rfl | (exfalso; omega) | exact congrArg _ (fill_step follows [] f.blocks j _ rfl (by omega) _ (by simp_all [follows])) | exact congrArg _ (fill_skip follows [] f.blocks j _ rfl (by omega) (by simp_all [follows]))) (.rowE rfl (.nil) (by first | rfl | (exfalso; omega) | exact congrArg _ (fill_step follows [] f.blocks j _ rfl (by omega) _ (by simp_all [follows])) | exact congrArg _ (fill_skip follows [] f.blocks j _ rfl (by omega) (by simp_all [follows]))))) (by first | rfl | (exfalso; omega) | exact congrArg _ (fill_step follows [] f.blocks j _ rfl (by omega) _ (by simp_all [follows])) | exact congrArg _ (fill_skip follows [] f.blocks j _ rfl (by omega) (by simp_all [follows]))), rfl⟩
    · have h2 := g2; (try simp only [cmpB, decide_eq_true_eq, decide_eq_false_iff_not, beq_iff_eq, beq_eq_false_iff_ne, bne_iff_ne, ne_eq, bne_eq_false_iff_eq, Bool.not_eq_true', Bool.not_eq_false', Int.not_lt, Int.not_le] at h2)
      refine W_skip ?_
      refine thenK_n ?_
      refine W_seq ?_
      refine W_seqK (b' := 292) rfl rfl ?_
      refine k_op0 (d := 31) (b := 244) (j' := 1) rfl rfl rfl rfl (.plain rfl) (T_fa D (m := 1) rfl rfl rfl rfl rfl rfl) rfl ?_
      refine k_op0 (d := 32) (b := 260) (j' := 2) rfl rfl rfl rfl (.plain rfl) (T_load_b D rfl rfl rfl rfl rfl rfl) rfl ?_
      refine k_op0 (d := 33) (b := 276) (j' := 3) rfl rfl rfl rfl (.plain rfl) (T_cmp rfl rfl rfl rfl) rfl ?_
      refine k_done rfl ?_
      refine thenK_n ?_
      refine W_cond rfl (fun g4 => ?_) (fun g4 => ?_)
      · have h4 := g4; (try simp only [cmpB, decide_eq_true_eq, decide_eq_false_iff_not, beq_iff_eq, beq_eq_false_iff_ne, bne_iff_ne, ne_eq, bne_eq_false_iff_eq, Bool.not_eq_true', Bool.not_eq_false', Int.not_lt, Int.not_le] at h4)
        refine W_seqK (b' := 436) rfl rfl ?_
        refine k_op0 (d := 34) (b := 292) (j' := 1) rfl rfl rfl rfl (.plain rfl) (T_move rfl rfl) rfl ?_
        refine k_op0 (d := 35) (b := 308) (j' := 2) rfl rfl rfl rfl (.plain rfl) (T_move rfl rfl) rfl ?_
        refine k_op0 (d := 36) (b := 324) (j' := 3) rfl rfl rfl rfl (.plain rfl) (T_fa D (m := 3) rfl rfl rfl rfl rfl rfl) rfl ?_
        refine k_op0 (d := 37) (b := 340) (j' := 4) rfl rfl rfl rfl (.plain rfl) (T_load_b D rfl rfl rfl rfl rfl rfl) rfl ?_
        refine k_op0 (d := 38) (b := 356) (j' := 5) rfl rfl rfl rfl (.plain rfl) (T_fa D (m := 4) rfl rfl rfl rfl rfl rfl) rfl ?_
        refine k_op0 (d := 39) (b := 372) (j' := 6) rfl rfl rfl rfl (.plain rfl) (T_load_b D rfl rfl rfl rfl rfl rfl) rfl ?_
        refine k_op1 (d := 40) (b := 388) (j' := 7) rfl rfl rfl rfl (.plain rfl) (T_bs D (ys := [_, _]) (enc := eI) (l := [_, _]) rfl rfl rfl rfl rfl rfl (.cons rfl (flat_v rfl) (.cons rfl (flat_v rfl) (.nil))) rfl rfl rfl rfl (.v rfl (.v rfl (.nil))) rfl rfl) rfl ?_
        first | refine k_op0 (d := 41) (b := 404) (j' := 8) rfl rfl rfl rfl (.plain rfl) (T_indexAddr D rfl rfl rfl rfl rfl rfl rfl rfl (by first | assumption | omega | (simp; omega))) rfl ?_ | refine k_op0 (d := 41) (b := 404) (j' := 8) rfl rfl rfl rfl (.plain rfl) (T_indexAddrZ D rfl rfl rfl rfl rfl rfl rfl rfl (by first | assumption | omega | (simp; omega)) (by first | assumption | omega | (simp; omega))) rfl ?_
        refine k_stn (b := 420) (j' := 9) rfl rfl rfl rfl (.plain rfl) (T_store_e D (z := _) rfl rfl rfl rfl (flat_sl rfl) rfl rfl (by first | assumption | omega | (simp; omega)) (.row rfl (.nil) rfl) rfl (Nat.le_of_ble_eq_true rfl) rfl) rfl ?_
        refine k_done rfl ?_
        refine blockK_n ?_
        refine thenK_n ?_
        refine W_seqK (b' := 484) rfl rfl ?_
        refine k_op0 (d := 15) (b := 436) (j' := 1) rfl rfl rfl rfl (.plain rfl) (T_move rfl rfl) rfl ?_
        refine k_op0 (d := 16) (b := 452) (j' := 2) rfl rfl rfl rfl (.plain rfl) (T_add64 rfl rfl rfl (by first | assumption | omega | (simp; omega))) rfl ?_
        refine k_op0 (d := 4) (b := 468) (j' := 3) rfl rfl rfl rfl (.plain rfl) (T_assign rfl rfl) rfl ?_
        refine k_done rfl ?_
        refine thenK_n ?_
        refine ⟨j + 1, by (try dsimp only); omega, by (try dsimp only); omega, ?_⟩
        exact ⟨[(2, 2), (3, 3)], .same rfl rfl (.same rfl rfl (.eq rfl (.nil) (by first | rfl | (exfalso; omega) | exact congrArg _ (fill_step follows [] f.blocks j _ rfl (by omega) _ (by simp_all [follows])) | exact congrArg _ (fill_skip follows [] f.blocks j _ rfl (by omega) (by simp_all [follows]))))), .fzE rfl (.box (by first | rfl | (exfalso; omega) | exact congrArg _ (fill_step follows [] f.blocks j _ rfl (by omega) _ (by simp_all [follows])) | exact congrArg _ (fill_skip follows [] f.blocks j _ rfl (by omega) (by simp_all [follows]))) (.rowE rfl (.nil) (by first | rfl | (exfalso; omega) | exact congrArg _ (fill_step follows [] f.blocks j _ rfl (by omega) _ (by simp_all [follows])) | exact congrArg _ (fill_skip follows [] f.blocks j _ rfl (by omega) (by simp_all [follows]))))) (by first | rfl | (exfalso; omega) | exact congrArg _ (fill_step follows [] f.blocks j _ rfl (by omega) _ (by simp_all [follows])) | exact congrArg _ (fill_skip follows [] f.blocks j _ rfl (by omega) (by simp_all [follows]))), rfl⟩
      · have h4 := g4; (try simp only [cmpB, decide_eq_true_eq, decide_eq_false_iff_not, beq_iff_eq, beq_eq_false_iff_ne, bne_iff_ne, ne_eq, bne_eq_false_iff_eq, Bool.not_eq_true', Bool.not_eq_false', Int.not_lt, Int.not_le] at h4)
        refine W_skip ?_
        refine blockK_n ?_
        refine thenK_n ?_
        refine W_seqK (b' := 340) rfl rfl ?_
        refine k_op0 (d := 15) (b := 292) (j' := 1) rfl rfl rfl rfl (.plain rfl) (T_move rfl rfl) rfl ?_
        refine k_op0 (d := 16) (b := 308) (j' := 2) rfl rfl rfl rfl (.plain rfl) (T_add64 rfl rfl rfl (by first | assumption | omega | (simp; omega))) rfl ?_
        refine k_op0 (d := 4) (b := 324) (j' := 3) rfl rfl rfl rfl (.plain rfl) (T_assign rfl rfl) rfl ?_
        refine k_done rfl ?_
        refine thenK_n ?_
        refine ⟨j + 1, by (try dsimp only); omega, by (try dsimp only); omega, ?_⟩
        exact ⟨[(2, 2), (3, 3)], .same rfl rfl (.same rfl rfl (.eq rfl (.nil) (by first | rfl | (exfalso; omega) | exact congrArg _ (fill_step follows [] f.blocks j _ rfl (by omega) _ (by simp_all [follows])) | exact congrArg _ (fill_skip follows [] f.blocks j _ rfl (by omega) (by simp_all [follows]))))), .fzE rfl (.box (by first | rfl | (exfalso; omega) | exact congrArg _ (fill_step follows [] f.blocks j _ rfl (by omega) _ (by simp_all [follows])) | exact congrArg _ (fill_skip follows [] f.blocks j _ rfl (by omega) (by simp_all [follows]))) (.rowE rfl (.nil) (by first | rfl | (exfalso; omega) | exact congrArg _ (fill_step follows [] f.blocks j _ rfl (by omega) _ (by simp_all [follows])) | exact congrArg _ (fill_skip follows [] f.blocks j _ rfl (by omega) (by simp_all [follows]))))) (by first | rfl | (exfalso; omega) | exact congrArg _ (fill_step follows [] f.blocks j _ rfl (by omega) _ (by simp_all [follows])) | exact congrArg _ (fill_skip follows [] f.blocks j _ rfl (by omega) (by simp_all [follows]))), rfl⟩
  · have h1 := g1; (try simp only [cmpB, decide_eq_true_eq, decide_eq_false_iff_not, beq_iff_eq, beq_eq_false_iff_ne, bne_iff_ne, ne_eq, bne_eq_false_iff_eq, Bool.not_eq_true', Bool.not_eq_false', Int.not_lt, Int.not_le] at h1)
    refine W_exit ?_
    refine thenK_e ?_
    refine thenK_e ?_
    refine blockK_hit ?_
    refine thenK_n ?_
    refine W_seq ?_
    refine W_seqK (b' := 116) rfl rfl ?_
    refine k_op0 (d := 42) (b := 84) (j' := 1) rfl rfl rfl rfl (.plain rfl) (T_move rfl rfl) rfl ?_
    refine k_op0 (d := 2) (b := 100) (j' := 2) rfl rfl rfl rfl (.plain rfl) (T_assign rfl rfl) rfl ?_
    refine k_done rfl ?_
    refine thenK_n ?_
    refine W_ret ?_
    -- end 0
    exact .mk [(2, 3)] (.inr rfl) (.tmp rfl (.nil)) rfl (.rowE rfl (.nil) (by first | rfl | (have : j = f.blocks.length := by omega); subst this; simp)) rfl

theorem body11 : (Try.prog.funcs[11]?).map (fun fn => (fn.name == "runtime.NumGoroutine" || fn.body.isNone)) = some false := by kernel_rfl
theorem law11 (p : GProg) (x : Int) (hp : PgOk p) (hx : 0 ≤ x ∧ x < 256) : Spec Try.prog 11 [.agg [.v (.int .i64 p.words), .r 1], .v (.int .u8 x)] 2 [(1, .fz 2 (p.funcs.map eFn))] (.v (.bool true)) 2 [] := by
  have hp1 := hp.1
  refine spec_of D (fn := Try.f11) rfl rfl (Nat.le_of_ble_eq_true rfl) ?_
  refine W_seq ?_
  refine W_seqK (b' := 34) rfl rfl ?_
  refine k_op1 (d := 2) (b := 2) (j' := 1) rfl rfl rfl rfl (.plain rfl) (T_box rfl rfl flat_agg) rfl ?_
  refine k_op0 (d := 4) (b := 18) (j' := 2) rfl rfl rfl rfl (.plain rfl) (T_assign rfl rfl) rfl ?_
  refine k_done rfl ?_
  refine thenK_n ?_
  refine W_seq ?_
  refine W_seq ?_
  refine W_seqK (b' := 66) rfl rfl ?_
  refine k_op0 (d := 13) (b := 34) (j' := 1) rfl rfl rfl rfl (.plain rfl) (T_callV (lvs := []) (L := []) (awake_spec) body24 rfl rfl rfl rfl (.nil) rfl) rfl ?_
  refine k_op0 (d := 14) (b := 50) (j' := 2) rfl rfl rfl rfl (.plain rfl) (T_not rfl rfl) rfl ?_
  refine k_done rfl ?_
  refine thenK_n ?_
  refine W_cond rfl (fun g1 => ?_) (fun g1 => ?_)
  · have h1 := g1; (try simp only [cmpB, decide_eq_true_eq, decide_eq_false_iff_not, beq_iff_eq, beq_eq_false_iff_ne, bne_iff_ne, ne_eq, bne_eq_false_iff_eq, Bool.not_eq_true', Bool.not_eq_false', Int.not_lt, Int.not_le] at h1)
    refine W_seq ?_
    refine W_seqK (b' := 82) rfl rfl ?_
    refine k_op0 (d := 4) (b := 66) (j' := 1) rfl rfl rfl rfl (.plain rfl) (T_assign rfl rfl) rfl ?_
    refine k_done rfl ?_
    refine thenK_n ?_
    refine W_ret ?_
    refine thenK_r ?_
    -- end 0
    exact .mk [] (.inr rfl) (.tmp rfl (.nil)) (by first | rfl | exact absurd g1 (by decide) | (exfalso; exact most_no hS.vf (k := k) (m := j) (by omega) (by omega) (by omega) (by first | exact .inl (by omega) | exact .inr ⟨by omega, by omega, by assumption⟩)) | (simp only [resLV, LV.ren, LV.v.injEq, Value.bool.injEq, cmpB]; exact decide_eq_true (by omega)) | simp [resLV, LV.ren]) (.nil) rfl
  · have h1 := g1; (try simp only [cmpB, decide_eq_true_eq, decide_eq_false_iff_not, beq_iff_eq, beq_eq_false_iff_ne, bne_iff_ne, ne_eq, bne_eq_false_iff_eq, Bool.not_eq_true', Bool.not_eq_false', Int.not_lt, Int.not_le] at h1)
    refine W_skip ?_
    refine thenK_n ?_
    refine W_seq ?_
    refine W_seq ?_
    refine W_seqK (b' := 242) rfl rfl ?_
    refine k_op0 (d := 15) (b := 66) (j' := 1) rfl rfl rfl rfl (.plain rfl) (T_load_bA D (l := [_, _]) rfl rfl rfl rfl rfl rfl rfl) rfl ?_
    refine k_op0 (d := 16) (b := 82) (j' := 2) rfl rfl rfl rfl (.plain rfl) (T_callV (lvs := [_, _]) (L := [(1, 1)]) (small30_spec p 150 hp) body25 rfl rfl rfl rfl (.fz rfl (.nil)) rfl) rfl ?_
    refine k_op0 (d := 17) (b := 98) (j' := 3) rfl rfl rfl rfl (.plain rfl) (T_not rfl rfl) rfl ?_
    refine k_op0 (d := 18) (b := 114) (j' := 4) rfl rfl rfl rfl (.plain rfl) (T_move rfl rfl) rfl ?_
    refine k_split (d := 18) rfl (fun g2 => ?_) (fun g2 => ?_)
    · have h2 := g2; (try simp only [cmpB, decide_eq_true_eq, decide_eq_false_iff_not, beq_iff_eq, beq_eq_false_iff_ne, bne_iff_ne, ne_eq, bne_eq_false_iff_eq, Bool.not_eq_true', Bool.not_eq_false', Int.not_lt, Int.not_le] at h2)
      refine k_no (d := 19) (j' := 5) rfl rfl rfl (g_ft rfl rfl rfl g2) ?_
      refine k_no (d := 20) (j' := 6) rfl rfl rfl (g_ft rfl rfl rfl g2) ?_
      refine k_no (d := 21) (j' := 7) rfl rfl rfl (g_ft rfl rfl rfl g2) ?_
      refine k_no (d := 22) (j' := 8) rfl rfl rfl (g_ft rfl rfl rfl g2) ?_
      refine k_no (d := 23) (j' := 9) rfl rfl rfl (g_ft rfl rfl rfl g2) ?_
      refine k_no (d := 24) (j' := 10) rfl rfl rfl (g_ft rfl rfl rfl g2) ?_
      refine k_op0 (d := 25) (b := 226) (j' := 11) rfl rfl rfl rfl (.plain rfl) (T_pick_t rfl rfl rfl g2) rfl ?_
      refine k_done rfl ?_
      refine thenK_n ?_
      refine W_cond rfl (fun g3 => ?_) (fun g3 => ?_)
      · skip
        refine W_seq ?_
        refine W_seqK (b' := 258) rfl rfl ?_
        refine k_op0 (d := 4) (b := 242) (j' := 1) rfl rfl rfl rfl (.plain rfl) (T_assign rfl rfl) rfl ?_
        refine k_done rfl ?_
        refine thenK_n ?_
        refine W_ret ?_
        refine thenK_r ?_
        -- end 1
        exact .mk [] (.inr rfl) (.tmp rfl (.nil)) (by first | rfl | exact absurd g1 (by decide) | (exfalso; exact most_no hS.vf (k := k) (m := j) (by omega) (by omega) (by omega) (by first | exact .inl (by omega) | exact .inr ⟨by omega, by omega, by assumption⟩)) | (simp only [resLV, LV.ren, LV.v.injEq, Value.bool.injEq, cmpB]; exact decide_eq_true (by omega)) | simp [resLV, LV.ren]) (.nil) rfl
      · exact absurd (g3.symm.trans rfl) (by decide)
    · have h2 := g2; (try simp only [cmpB, decide_eq_true_eq, decide_eq_false_iff_not, beq_iff_eq, beq_eq_false_iff_ne, bne_iff_ne, ne_eq, bne_eq_false_iff_eq, Bool.not_eq_true', Bool.not_eq_false', Int.not_lt, Int.not_le] at h2)
      refine k_op0 (d := 19) (b := 130) (j' := 5) rfl rfl rfl rfl (g_ff rfl rfl rfl g2) (T_move rfl rfl) rfl ?_
      refine k_op0 (d := 20) (b := 146) (j' := 6) rfl rfl rfl rfl (g_ff rfl rfl rfl g2) (T_conv64 rfl rfl (by rw [Try.underlying5]; rfl) (by first | assumption | omega | (obtain ⟨q, q1, q2, q3⟩ := srcs_one (next := nextL (tidyG (p.funcs.getD x.toNat default))) (k := k) (m := j) (by omega); rw [q3]; omega) | (simp; omega))) rfl ?_
      refine k_op0 (d := 21) (b := 162) (j' := 7) rfl rfl rfl rfl (g_ff rfl rfl rfl g2) (T_fa D (m := 1) rfl rfl rfl rfl rfl rfl) rfl ?_
      refine k_op0 (d := 22) (b := 178) (j' := 8) rfl rfl rfl rfl (g_ff rfl rfl rfl g2) (T_load_b D rfl rfl rfl rfl rfl rfl) rfl ?_
      refine k_op0 (d := 23) (b := 194) (j' := 9) rfl rfl rfl rfl (g_ff rfl rfl rfl g2) (T_len D rfl rfl rfl rfl rfl rfl) rfl ?_
      refine k_op0 (d := 24) (b := 210) (j' := 10) rfl rfl rfl rfl (g_ff rfl rfl rfl g2) (T_cmp rfl rfl rfl rfl) rfl ?_
      refine k_op0 (d := 25) (b := 226) (j' := 11) rfl rfl rfl rfl (.plain rfl) (T_pick_f rfl rfl rfl g2) rfl ?_
      refine k_done rfl ?_
      refine thenK_n ?_
      refine W_cond rfl (fun g4 => ?_) (fun g4 => ?_)
      · have h4 := g4; (try simp only [cmpB, decide_eq_true_eq, decide_eq_false_iff_not, beq_iff_eq, beq_eq_false_iff_ne, bne_iff_ne, ne_eq, bne_eq_false_iff_eq, Bool.not_eq_true', Bool.not_eq_false', Int.not_lt, Int.not_le] at h4)
        refine W_seq ?_
        refine W_seqK (b' := 258) rfl rfl ?_
        refine k_op0 (d := 4) (b := 242) (j' := 1) rfl rfl rfl rfl (.plain rfl) (T_assign rfl rfl) rfl ?_
        refine k_done rfl ?_
        refine thenK_n ?_
        refine W_ret ?_
        refine thenK_r ?_
        -- end 2
        exact .mk [] (.inr rfl) (.tmp rfl (.nil)) (by first | rfl | exact absurd g1 (by decide) | (exfalso; exact most_no hS.vf (k := k) (m := j) (by omega) (by omega) (by omega) (by first | exact .inl (by omega) | exact .inr ⟨by omega, by omega, by assumption⟩)) | (simp only [resLV, LV.ren, LV.v.injEq, Value.bool.injEq, cmpB]; exact decide_eq_true (by omega)) | simp [resLV, LV.ren]) (.nil) rfl
      · have h4 := g4; (try simp only [cmpB, decide_eq_true_eq, decide_eq_false_iff_not, beq_iff_eq, beq_eq_false_iff_ne, bne_iff_ne, ne_eq, bne_eq_false_iff_eq, Bool.not_eq_true', Bool.not_eq_false', Int.not_lt, Int.not_le] at h4)
        refine W_skip ?_
        refine thenK_n ?_
        refine W_seq ?_
        refine W_seqK (b' := 434) rfl rfl ?_
        refine k_op0 (d := 27) (b := 242) (j' := 1) rfl rfl rfl rfl (.plain rfl) (T_fa D (m := 1) rfl rfl rfl rfl rfl rfl) rfl ?_
        refine k_op0 (d := 28) (b := 258) (j' := 2) rfl rfl rfl rfl (.plain rfl) (T_load_b D rfl rfl rfl rfl rfl rfl) rfl ?_
        refine k_op0 (d := 29) (b := 274) (j' := 3) rfl rfl rfl rfl (.plain rfl) (T_move rfl rfl) rfl ?_
        first | refine k_op0 (d := 30) (b := 290) (j' := 4) rfl rfl rfl rfl (.plain rfl) (T_indexAddr D rfl rfl rfl rfl rfl rfl rfl rfl (by first | assumption | omega | (obtain ⟨q, q1, q2, q3⟩ := srcs_one (next := nextL (tidyG (p.funcs.getD x.toNat default))) (k := k) (m := j) (by omega); rw [q3]; omega) | (simp; omega))) rfl ?_ | refine k_op0 (d := 30) (b := 290) (j' := 4) rfl rfl rfl rfl (.plain rfl) (T_indexAddrZ D rfl rfl rfl rfl rfl rfl rfl rfl (by first | assumption | omega | (obtain ⟨q, q1, q2, q3⟩ := srcs_one (next := nextL (tidyG (p.funcs.getD x.toNat default))) (k := k) (m := j) (by omega); rw [q3]; omega) | (simp; omega)) (by first | assumption | omega | (obtain ⟨q, q1, q2, q3⟩ := srcs_one (next := nextL (tidyG (p.funcs.getD x.toNat default))) (k := k) (m := j) (by omega); rw [q3]; omega) | (simp; omega))) rfl ?_
        refine k_op1 (d := 31) (b := 306) (j' := 5) rfl rfl rfl rfl (.plain rfl) (T_ldEA D (l := [.v _, .r 306]) (nn := 1) (upd := [(306, .fz 5 _)]) rfl rfl rfl rfl rfl (by first | assumption | omega | (obtain ⟨q, q1, q2, q3⟩ := srcs_one (next := nextL (tidyG (p.funcs.getD x.toNat default))) (k := k) (m := j) (by omega); rw [q3]; omega) | (simp; omega)) rfl rfl rfl rfl rfl) rfl ?_
        refine k_opn (d := 32) (b := 322) (j' := 6) rfl rfl rfl rfl (.plain rfl) (T_call (lvs := [_]) (L := [(1, 306)]) (lv := .tup [.agg [.v _, .r 322], .r 323]) (upd := [(322, .row 72 5 _), (323, .fz 1 _)]) (nn := 2) false (tidy_spec (p.funcs.getD x.toNat default) (by have := (small_fn (c := 150) (by assumption : smallG p 150 = true) (by omega) (by omega : x.toNat < p.funcs.length)).len; omega) (small_fn (c := 150) (by assumption : smallG p 150 = true) (by omega) (by omega : x.toNat < p.funcs.length)).vf.inN ((small_fn (c := 150) (by assumption : smallG p 150 = true) (by omega) (by omega : x.toNat < p.funcs.length)).ins1000 (by omega))) body26 rfl rfl rfl rfl (.fz rfl (.nil)) rfl (.inl rfl) rfl rfl rfl) rfl ?_
        refine k_op0 (d := 26) (b := 338) (j' := 7) rfl rfl rfl rfl (.plain rfl) (T_move rfl rfl) rfl ?_
        refine k_op0 (d := 33) (b := 354) (j' := 8) rfl rfl rfl rfl (.plain rfl) (T_extract rfl rfl rfl) rfl ?_
        refine k_op0 (d := 34) (b := 370) (j' := 9) rfl rfl rfl rfl (.plain rfl) (T_extract rfl rfl rfl) rfl ?_
        refine k_opn (d := 5) (b := 386) (j' := 10) rfl rfl rfl rfl (.plain rfl) (T_nilbox [(72, 5)] (T_alloc D rfl rfl rfl) rfl (.cons (.same _) <| .cons (.nil rfl) <| .nil) (upd' := [(386, .box 29 [.v (.int .i64 0), .r 387]), (387, .row 72 5 (List.map eBlock ([] : List (GBlock))))]) (nn' := 2) rfl rfl) rfl ?_
        refine k_st1 (b := 402) (j' := 11) rfl rfl rfl rfl (.plain rfl) (T_stB D (cs' := [_, _]) rfl rfl rfl rfl flat_agg rfl rfl (Nat.le_of_ble_eq_true rfl) rfl) rfl ?_
        refine k_op0 (d := 6) (b := 418) (j' := 12) rfl rfl rfl rfl (.plain rfl) (T_assign rfl rfl) rfl ?_
        refine k_done rfl ?_
        refine thenK_n ?_
        refine W_seq ?_
        refine W_seqK (b' := 482) rfl rfl ?_
        refine k_op0 (d := 35) (b := 434) (j' := 1) rfl rfl rfl rfl (.plain rfl) (T_load_bA D (l := [_, _]) rfl rfl rfl rfl rfl rfl rfl) rfl ?_
        refine k_opn (d := 36) (b := 450) (j' := 2) rfl rfl rfl rfl (.plain rfl) (T_call (lvs := [_]) (L := [(1, 322)]) (lv := .r 450) (upd := [(450, .row 52 1 _), (322, .fz 5 _)]) (nn := 1) false (rnext_spec (tidyG (p.funcs.getD x.toNat default)) (by have := (small_fn (c := 150) (by assumption : smallG p 150 = true) (by omega) (by omega : x.toNat < p.funcs.length)).len; have := heads_le (p.funcs.getD x.toNat default); rw [tidyG_length]; omega)) body38 rfl rfl rfl rfl (.lend rfl (.nil)) rfl (.inl rfl) rfl rfl rfl) rfl ?_
        refine k_op0 (d := 7) (b := 466) (j' := 3) rfl rfl rfl rfl (.plain rfl) (T_assign rfl rfl) rfl ?_
        refine k_done rfl ?_
        refine thenK_n ?_
        refine W_seq ?_
        refine W_seq ?_
        refine W_seqK (b' := 498) rfl rfl ?_
        refine k_op0 (d := 8) (b := 482) (j' := 1) rfl rfl rfl rfl (.plain rfl) (T_assign rfl rfl) rfl ?_
        refine k_done rfl ?_
        refine thenK_n ?_
        refine W_block ?_
        have hS := (small_fn (c := 150) (by assumption : smallG p 150 = true) (by omega) (by omega : x.toNat < p.funcs.length))
        have hgl := tidyG_length (p.funcs.getD x.toNat default)
        have hz := (heads_zero hS.vf).1
        have hhl := heads_le (p.funcs.getD x.toNat default)
        have hnl := nextL_length (tidyG (p.funcs.getD x.toNat default))
        have hS40 := hS.len
        have hfl := follows_le (tidyG (p.funcs.getD x.toNat default))
        refine W_loop (ι := Nat) 5 (fun k => ⟨[(5, .p 2 0), (7, .r 4), (8, .v (.int .i64 (k : Int)))], [(1, .fz 2 (p.funcs.map eFn)), (2, .box 29 [.v (.int .i64 (tidyG (p.funcs.getD x.toNat default)).regs), .r 3]), (3, .fz 5 ((tidyG (p.funcs.getD x.toNat default)).blocks.map eBlock)), (4, .row 52 1 ((nextL (tidyG (p.funcs.getD x.toNat default))).map eIs))]⟩) (fun k => 1 ≤ k ∧ k ≤ (tidyG (p.funcs.getD x.toNat default)).blocks.length) (fun k => (tidyG (p.funcs.getD x.toNat default)).blocks.length - k) (1) (by exact ⟨Nat.le_refl _, by omega⟩) ?_ (fun k hJ => ?_)
        · exact ⟨[(2, 386), (3, 322), (4, 450)], .same rfl rfl (.same rfl rfl (.eq rfl (.nil) (by first | rfl | simp))), .fzE rfl (.box (by first | rfl | simp) (.fzE rfl (.rowE rfl (.nil) (by first | rfl | simp)) (by first | rfl | simp))) (by first | rfl | simp), rfl⟩
        refine W_seq ?_
        refine W_seq ?_
        refine W_seqK (b' := 85) rfl rfl ?_
        refine k_op0 (d := 37) (b := 5) (j' := 1) rfl rfl rfl rfl (.plain rfl) (T_move rfl rfl) rfl ?_
        refine k_op0 (d := 38) (b := 21) (j' := 2) rfl rfl rfl rfl (.plain rfl) (T_fa D (m := 1) rfl rfl rfl rfl rfl rfl) rfl ?_
        refine k_op0 (d := 39) (b := 37) (j' := 3) rfl rfl rfl rfl (.plain rfl) (T_load_b D rfl rfl rfl rfl rfl rfl) rfl ?_
        refine k_op0 (d := 40) (b := 53) (j' := 4) rfl rfl rfl rfl (.plain rfl) (T_len D rfl rfl rfl rfl rfl rfl) rfl ?_
        refine k_op0 (d := 41) (b := 69) (j' := 5) rfl rfl rfl rfl (.plain rfl) (T_cmp rfl rfl rfl rfl) rfl ?_
        refine k_done rfl ?_
        refine thenK_n ?_
        refine W_cond rfl (fun g5 => ?_) (fun g5 => ?_)
        · have h5 := g5; (try simp only [cmpB, decide_eq_true_eq, decide_eq_false_iff_not, beq_iff_eq, beq_eq_false_iff_ne, bne_iff_ne, ne_eq, bne_eq_false_iff_eq, Bool.not_eq_true', Bool.not_eq_false', Int.not_lt, Int.not_le] at h5)
          refine W_skip ?_
          refine thenK_n ?_
          refine W_seq ?_
          refine W_block ?_
          refine W_seq ?_
          refine W_seqK (b' := 101) rfl rfl ?_
          refine k_op0 (d := 9) (b := 85) (j' := 1) rfl rfl rfl rfl (.plain rfl) (T_assign rfl rfl) rfl ?_
          refine k_done rfl ?_
          refine thenK_n ?_
          refine W_seq ?_
          refine W_seqK (b' := 117) rfl rfl ?_
          refine k_op0 (d := 10) (b := 101) (j' := 1) rfl rfl rfl rfl (.plain rfl) (T_assign rfl rfl) rfl ?_
          refine k_done rfl ?_
          refine thenK_n ?_
          refine W_seq ?_
          refine W_seq ?_
          refine W_seqK (b' := 133) rfl rfl ?_
          refine k_op0 (d := 11) (b := 117) (j' := 1) rfl rfl rfl rfl (.plain rfl) (T_assign rfl rfl) rfl ?_
          refine k_done rfl ?_
          refine thenK_n ?_
          refine W_block ?_
          refine W_loop (ι := Nat) 5 (fun j => ⟨[(5, .p 2 0), (7, .r 4), (8, .v (.int .i64 (k : Int))), (9, .v (.int .i64 ((srcs (nextL (tidyG (p.funcs.getD x.toNat default))) k j).length : Int))), (10, .v (.int .i64 (lastS (srcs (nextL (tidyG (p.funcs.getD x.toNat default))) k j)))), (11, .v (.int .i64 (j : Int)))], [(1, .fz 2 (p.funcs.map eFn)), (2, .box 29 [.v (.int .i64 (tidyG (p.funcs.getD x.toNat default)).regs), .r 3]), (3, .fz 5 ((tidyG (p.funcs.getD x.toNat default)).blocks.map eBlock)), (4, .row 52 1 ((nextL (tidyG (p.funcs.getD x.toNat default))).map eIs))]⟩) (fun j => j ≤ (nextL (tidyG (p.funcs.getD x.toNat default))).length) (fun j => (nextL (tidyG (p.funcs.getD x.toNat default))).length - j) (0) (by exact Nat.zero_le _) ?_ (fun j hJ1 => ?_)
          · exact ⟨[(2, 2), (3, 3), (4, 4)], .same rfl rfl (.same rfl rfl (.eq rfl (.eq rfl (.eq rfl (.eq rfl (.nil) (by first | rfl | simp [srcs, lastS])) (by first | rfl | simp [srcs, lastS])) (by first | rfl | simp [srcs, lastS])) (by first | rfl | simp [srcs, lastS]))), .fzE rfl (.box (by first | rfl | simp [srcs, lastS]) (.fzE rfl (.rowE rfl (.nil) (by first | rfl | simp [srcs, lastS])) (by first | rfl | simp [srcs, lastS]))) (by first | rfl | simp [srcs, lastS]), rfl⟩
          have hsl := srcs_le hfl k j
          have hss := srcs_succ (nextL (tidyG (p.funcs.getD x.toNat default))) k j
          refine W_seq ?_
          refine W_seq ?_
          refine W_seqK (b' := 69) rfl rfl ?_
          refine k_op0 (d := 44) (b := 5) (j' := 1) rfl rfl rfl rfl (.plain rfl) (T_move rfl rfl) rfl ?_
          refine k_op0 (d := 45) (b := 21) (j' := 2) rfl rfl rfl rfl (.plain rfl) (T_move rfl rfl) rfl ?_
          refine k_op0 (d := 46) (b := 37) (j' := 3) rfl rfl rfl rfl (.plain rfl) (T_len D rfl rfl rfl rfl rfl rfl) rfl ?_
          refine k_op0 (d := 47) (b := 53) (j' := 4) rfl rfl rfl rfl (.plain rfl) (T_cmp rfl rfl rfl rfl) rfl ?_
          refine k_done rfl ?_
          refine thenK_n ?_
          refine W_cond rfl (fun g6 => ?_) (fun g6 => ?_)
          · have h6 := g6; (try simp only [cmpB, decide_eq_true_eq, decide_eq_false_iff_not, beq_iff_eq, beq_eq_false_iff_ne, bne_iff_ne, ne_eq, bne_eq_false_iff_eq, Bool.not_eq_true', Bool.not_eq_false', Int.not_lt, Int.not_le] at h6)
            refine W_skip ?_
            refine thenK_n ?_
            refine W_seq ?_
            refine W_block ?_
            refine W_seq ?_
            refine W_seqK (b' := 85) rfl rfl ?_
            refine k_op0 (d := 12) (b := 69) (j' := 1) rfl rfl rfl rfl (.plain rfl) (T_assign rfl rfl) rfl ?_
            refine k_done rfl ?_
            refine thenK_n ?_
            refine W_block ?_
            have hnj := hfl ((nextL (tidyG (p.funcs.getD x.toNat default))).getD j default) (getD_mem (by omega))
            refine W_loop (ι := Nat) 5 (fun i => ⟨[(5, .p 2 0), (7, .r 4), (8, .v (.int .i64 (k : Int))), (9, .v (.int .i64 ((srcsI (nextL (tidyG (p.funcs.getD x.toNat default))) k j i).length : Int))), (10, .v (.int .i64 (lastS (srcsI (nextL (tidyG (p.funcs.getD x.toNat default))) k j i)))), (11, .v (.int .i64 (j : Int))), (12, .v (.int .i64 (i : Int)))], [(1, .fz 2 (p.funcs.map eFn)), (2, .box 29 [.v (.int .i64 (tidyG (p.funcs.getD x.toNat default)).regs), .r 3]), (3, .fz 5 ((tidyG (p.funcs.getD x.toNat default)).blocks.map eBlock)), (4, .row 52 1 ((nextL (tidyG (p.funcs.getD x.toNat default))).map eIs))]⟩) (fun i => i ≤ ((nextL (tidyG (p.funcs.getD x.toNat default))).getD j default).length) (fun i => ((nextL (tidyG (p.funcs.getD x.toNat default))).getD j default).length - i) (0) (by exact Nat.zero_le _) ?_ (fun i hI => ?_)
            · exact ⟨[(2, 2), (3, 3), (4, 4)], .same rfl rfl (.same rfl rfl (.eq rfl (.eq rfl (.eq rfl (.eq rfl (.eq rfl (.nil) (by first | rfl | (rw [srcsI_zero]; first | done | rfl))) (by first | rfl | (rw [srcsI_zero]; first | done | rfl))) (by first | rfl | (rw [srcsI_zero]; first | done | rfl))) (by first | rfl | (rw [srcsI_zero]; first | done | rfl))) (by first | rfl | (rw [srcsI_zero]; first | done | rfl)))), .fzE rfl (.box (by first | rfl | (rw [srcsI_zero]; first | done | rfl)) (.fzE rfl (.rowE rfl (.nil) (by first | rfl | (rw [srcsI_zero]; first | done | rfl))) (by first | rfl | (rw [srcsI_zero]; first | done | rfl)))) (by first | rfl | (rw [srcsI_zero]; first | done | rfl)), rfl⟩
            have hsi := srcsI_le hfl k j i
            refine W_seq ?_
            refine W_seq ?_
            refine W_seqK (b' := 117) rfl rfl ?_
            refine k_op0 (d := 50) (b := 5) (j' := 1) rfl rfl rfl rfl (.plain rfl) (T_move rfl rfl) rfl ?_
            refine k_op0 (d := 51) (b := 21) (j' := 2) rfl rfl rfl rfl (.plain rfl) (T_move rfl rfl) rfl ?_
            refine k_op0 (d := 52) (b := 37) (j' := 3) rfl rfl rfl rfl (.plain rfl) (T_move rfl rfl) rfl ?_
            first | refine k_op0 (d := 53) (b := 53) (j' := 4) rfl rfl rfl rfl (.plain rfl) (T_indexAddr D rfl rfl rfl rfl rfl rfl rfl rfl (by first | assumption | omega | (obtain ⟨q, q1, q2, q3⟩ := srcs_one (next := nextL (tidyG (p.funcs.getD x.toNat default))) (k := k) (m := j) (by omega); rw [q3]; omega) | (simp; omega))) rfl ?_ | refine k_op0 (d := 53) (b := 53) (j' := 4) rfl rfl rfl rfl (.plain rfl) (T_indexAddrZ D rfl rfl rfl rfl rfl rfl rfl rfl (by first | assumption | omega | (obtain ⟨q, q1, q2, q3⟩ := srcs_one (next := nextL (tidyG (p.funcs.getD x.toNat default))) (k := k) (m := j) (by omega); rw [q3]; omega) | (simp; omega)) (by first | assumption | omega | (obtain ⟨q, q1, q2, q3⟩ := srcs_one (next := nextL (tidyG (p.funcs.getD x.toNat default))) (k := k) (m := j) (by omega); rw [q3]; omega) | (simp; omega))) rfl ?_
            refine k_op1 (d := 54) (b := 69) (j' := 5) rfl rfl rfl rfl (.plain rfl) (T_ldE D (lv := .r 69) (nn := 1) (upd := [(69, .fz 1 _)]) rfl rfl rfl rfl rfl (by first | assumption | omega | (obtain ⟨q, q1, q2, q3⟩ := srcs_one (next := nextL (tidyG (p.funcs.getD x.toNat default))) (k := k) (m := j) (by omega); rw [q3]; omega) | (simp; omega)) rfl rfl rfl rfl) rfl ?_
            refine k_op0 (d := 55) (b := 85) (j' := 6) rfl rfl rfl rfl (.plain rfl) (T_len D rfl rfl rfl rfl rfl rfl) rfl ?_
            refine k_op0 (d := 56) (b := 101) (j' := 7) rfl rfl rfl rfl (.plain rfl) (T_cmp rfl rfl rfl rfl) rfl ?_
            refine k_done rfl ?_
            refine thenK_n ?_
            refine W_cond rfl (fun g7 => ?_) (fun g7 => ?_)
            · have h7 := g7; (try simp only [cmpB, decide_eq_true_eq, decide_eq_false_iff_not, beq_iff_eq, beq_eq_false_iff_ne, bne_iff_ne, ne_eq, bne_eq_false_iff_eq, Bool.not_eq_true', Bool.not_eq_false', Int.not_lt, Int.not_le] at h7)
              refine W_skip ?_
              refine thenK_n ?_
              refine W_seq ?_
              refine W_block ?_
              refine W_seq ?_
              refine W_seqK (b' := 261) rfl rfl ?_
              refine k_op0 (d := 59) (b := 117) (j' := 1) rfl rfl rfl rfl (.plain rfl) (T_move rfl rfl) rfl ?_
              refine k_op0 (d := 60) (b := 133) (j' := 2) rfl rfl rfl rfl (.plain rfl) (T_move rfl rfl) rfl ?_
              first | refine k_op0 (d := 61) (b := 149) (j' := 3) rfl rfl rfl rfl (.plain rfl) (T_indexAddr D rfl rfl rfl rfl rfl rfl rfl rfl (by first | assumption | omega | (obtain ⟨q, q1, q2, q3⟩ := srcs_one (next := nextL (tidyG (p.funcs.getD x.toNat default))) (k := k) (m := j) (by omega); rw [q3]; omega) | (simp; omega))) rfl ?_ | refine k_op0 (d := 61) (b := 149) (j' := 3) rfl rfl rfl rfl (.plain rfl) (T_indexAddrZ D rfl rfl rfl rfl rfl rfl rfl rfl (by first | assumption | omega | (obtain ⟨q, q1, q2, q3⟩ := srcs_one (next := nextL (tidyG (p.funcs.getD x.toNat default))) (k := k) (m := j) (by omega); rw [q3]; omega) | (simp; omega)) (by first | assumption | omega | (obtain ⟨q, q1, q2, q3⟩ := srcs_one (next := nextL (tidyG (p.funcs.getD x.toNat default))) (k := k) (m := j) (by omega); rw [q3]; omega) | (simp; omega))) rfl ?_
              refine k_op1 (d := 62) (b := 165) (j' := 4) rfl rfl rfl rfl (.plain rfl) (T_ldE D (lv := .r 165) (nn := 1) (upd := [(165, .fz 1 _)]) rfl rfl rfl rfl rfl (by first | assumption | omega | (obtain ⟨q, q1, q2, q3⟩ := srcs_one (next := nextL (tidyG (p.funcs.getD x.toNat default))) (k := k) (m := j) (by omega); rw [q3]; omega) | (simp; omega)) rfl rfl rfl rfl) rfl ?_
              refine k_op0 (d := 63) (b := 181) (j' := 5) rfl rfl rfl rfl (.plain rfl) (T_move rfl rfl) rfl ?_
              first | refine k_op0 (d := 64) (b := 197) (j' := 6) rfl rfl rfl rfl (.plain rfl) (T_indexAddr D rfl rfl rfl rfl rfl rfl rfl rfl (by first | assumption | omega | (obtain ⟨q, q1, q2, q3⟩ := srcs_one (next := nextL (tidyG (p.funcs.getD x.toNat default))) (k := k) (m := j) (by omega); rw [q3]; omega) | (simp; omega))) rfl ?_ | refine k_op0 (d := 64) (b := 197) (j' := 6) rfl rfl rfl rfl (.plain rfl) (T_indexAddrZ D rfl rfl rfl rfl rfl rfl rfl rfl (by first | assumption | omega | (obtain ⟨q, q1, q2, q3⟩ := srcs_one (next := nextL (tidyG (p.funcs.getD x.toNat default))) (k := k) (m := j) (by omega); rw [q3]; omega) | (simp; omega)) (by first | assumption | omega | (obtain ⟨q, q1, q2, q3⟩ := srcs_one (next := nextL (tidyG (p.funcs.getD x.toNat default))) (k := k) (m := j) (by omega); rw [q3]; omega) | (simp; omega))) rfl ?_
              refine k_op0 (d := 65) (b := 213) (j' := 7) rfl rfl rfl rfl (.plain rfl) (T_ldE D (lv := .v _) (nn := 0) (upd := []) rfl rfl rfl rfl rfl (by first | assumption | omega | (obtain ⟨q, q1, q2, q3⟩ := srcs_one (next := nextL (tidyG (p.funcs.getD x.toNat default))) (k := k) (m := j) (by omega); rw [q3]; omega) | (simp; omega)) rfl rfl rfl rfl) rfl ?_
              refine k_op0 (d := 66) (b := 229) (j' := 8) rfl rfl rfl rfl (.plain rfl) (T_move rfl rfl) rfl ?_
              refine k_op0 (d := 67) (b := 245) (j' := 9) rfl rfl rfl rfl (.plain rfl) (T_cmp rfl rfl rfl rfl) rfl ?_
              refine k_done rfl ?_
              refine thenK_n ?_
              refine W_cond rfl (fun g8 => ?_) (fun g8 => ?_)
              · have h8 := g8; (try simp only [cmpB, decide_eq_true_eq, decide_eq_false_iff_not, beq_iff_eq, beq_eq_false_iff_ne, bne_iff_ne, ne_eq, bne_eq_false_iff_eq, Bool.not_eq_true', Bool.not_eq_false', Int.not_lt, Int.not_le] at h8)
                refine W_seq ?_
                refine W_seqK (b' := 309) rfl rfl ?_
                refine k_op0 (d := 68) (b := 261) (j' := 1) rfl rfl rfl rfl (.plain rfl) (T_move rfl rfl) rfl ?_
                refine k_op0 (d := 69) (b := 277) (j' := 2) rfl rfl rfl rfl (.plain rfl) (T_add64 rfl rfl rfl (by first | assumption | omega | (obtain ⟨q, q1, q2, q3⟩ := srcs_one (next := nextL (tidyG (p.funcs.getD x.toNat default))) (k := k) (m := j) (by omega); rw [q3]; omega) | (simp; omega))) rfl ?_
                refine k_op0 (d := 9) (b := 293) (j' := 3) rfl rfl rfl rfl (.plain rfl) (T_assign rfl rfl) rfl ?_
                refine k_done rfl ?_
                refine thenK_n ?_
                refine W_seqK (b' := 341) rfl rfl ?_
                refine k_op0 (d := 70) (b := 309) (j' := 1) rfl rfl rfl rfl (.plain rfl) (T_move rfl rfl) rfl ?_
                refine k_op0 (d := 10) (b := 325) (j' := 2) rfl rfl rfl rfl (.plain rfl) (T_assign rfl rfl) rfl ?_
                refine k_done rfl ?_
                refine blockK_n ?_
                refine thenK_n ?_
                refine W_seqK (b' := 389) rfl rfl ?_
                refine k_op0 (d := 57) (b := 341) (j' := 1) rfl rfl rfl rfl (.plain rfl) (T_move rfl rfl) rfl ?_
                refine k_op0 (d := 58) (b := 357) (j' := 2) rfl rfl rfl rfl (.plain rfl) (T_add64 rfl rfl rfl (by first | assumption | omega | (obtain ⟨q, q1, q2, q3⟩ := srcs_one (next := nextL (tidyG (p.funcs.getD x.toNat default))) (k := k) (m := j) (by omega); rw [q3]; omega) | (simp; omega))) rfl ?_
                refine k_op0 (d := 12) (b := 373) (j' := 3) rfl rfl rfl rfl (.plain rfl) (T_assign rfl rfl) rfl ?_
                refine k_done rfl ?_
                refine thenK_n ?_
                refine ⟨i + 1, by (try dsimp only); omega, by (try dsimp only); omega, ?_⟩
                exact ⟨[(2, 2), (3, 3), (4, 4)], .same rfl rfl (.same rfl rfl (.eq rfl (.eq rfl (.eq rfl (.eq rfl (.eq rfl (.nil) (by first | rfl | (rw [srcsI_t (by omega) (by assumption)]; first | done | rfl | simp [lastS_snoc]) | (rw [srcsI_f (by omega) (by assumption)]; first | done | rfl))) (by first | rfl | (rw [srcsI_t (by omega) (by assumption)]; first | done | rfl | simp [lastS_snoc]) | (rw [srcsI_f (by omega) (by assumption)]; first | done | rfl))) (by first | rfl | (rw [srcsI_t (by omega) (by assumption)]; first | done | rfl | simp [lastS_snoc]) | (rw [srcsI_f (by omega) (by assumption)]; first | done | rfl))) (by first | rfl | (rw [srcsI_t (by omega) (by assumption)]; first | done | rfl | simp [lastS_snoc]) | (rw [srcsI_f (by omega) (by assumption)]; first | done | rfl))) (by first | rfl | (rw [srcsI_t (by omega) (by assumption)]; first | done | rfl | simp [lastS_snoc]) | (rw [srcsI_f (by omega) (by assumption)]; first | done | rfl)))), .fzE rfl (.box (by first | rfl | (rw [srcsI_t (by omega) (by assumption)]; first | done | rfl | simp [lastS_snoc]) | (rw [srcsI_f (by omega) (by assumption)]; first | done | rfl)) (.fzE rfl (.rowE rfl (.nil) (by first | rfl | (rw [srcsI_t (by omega) (by assumption)]; first | done | rfl | simp [lastS_snoc]) | (rw [srcsI_f (by omega) (by assumption)]; first | done | rfl))) (by first | rfl | (rw [srcsI_t (by omega) (by assumption)]; first | done | rfl | simp [lastS_snoc]) | (rw [srcsI_f (by omega) (by assumption)]; first | done | rfl)))) (by first | rfl | (rw [srcsI_t (by omega) (by assumption)]; first | done | rfl | simp [lastS_snoc]) | (rw [srcsI_f (by omega) (by assumption)]; first | done | rfl)), rfl⟩
              · have h8 := g8; (try simp only [cmpB, decide_eq_true_eq, decide_eq_false_iff_not, beq_iff_eq, beq_eq_false_iff_ne, bne_iff_ne, ne_eq, bne_eq_false_iff_eq, Bool.not_eq_true', Bool.not_eq_false', Int.not_lt, Int.not_le] at h8)
                refine W_skip ?_
                refine blockK_n ?_
                refine thenK_n ?_
                refine W_seqK (b' := 309) rfl rfl ?_
                refine k_op0 (d := 57) (b := 261) (j' := 1) rfl rfl rfl rfl (.plain rfl) (T_move rfl rfl) rfl ?_
                refine k_op0 (d := 58) (b := 277) (j' := 2) rfl rfl rfl rfl (.plain rfl) (T_add64 rfl rfl rfl (by first | assumption | omega | (obtain ⟨q, q1, q2, q3⟩ := srcs_one (next := nextL (tidyG (p.funcs.getD x.toNat default))) (k := k) (m := j) (by omega); rw [q3]; omega) | (simp; omega))) rfl ?_
                refine k_op0 (d := 12) (b := 293) (j' := 3) rfl rfl rfl rfl (.plain rfl) (T_assign rfl rfl) rfl ?_
                refine k_done rfl ?_
                refine thenK_n ?_
                refine ⟨i + 1, by (try dsimp only); omega, by (try dsimp only); omega, ?_⟩
                exact ⟨[(2, 2), (3, 3), (4, 4)], .same rfl rfl (.same rfl rfl (.eq rfl (.eq rfl (.eq rfl (.eq rfl (.eq rfl (.nil) (by first | rfl | (rw [srcsI_t (by omega) (by assumption)]; first | done | rfl | simp [lastS_snoc]) | (rw [srcsI_f (by omega) (by assumption)]; first | done | rfl))) (by first | rfl | (rw [srcsI_t (by omega) (by assumption)]; first | done | rfl | simp [lastS_snoc]) | (rw [srcsI_f (by omega) (by assumption)]; first | done | rfl))) (by first | rfl | (rw [srcsI_t (by omega) (by assumption)]; first | done | rfl | simp [lastS_snoc]) | (rw [srcsI_f (by omega) (by assumption)]; first | done | rfl))) (by first | rfl | (rw [srcsI_t (by omega) (by assumption)]; first | done | rfl | simp [lastS_snoc]) | (rw [srcsI_f (by omega) (by assumption)]; first | done | rfl))) (by first | rfl | (rw [srcsI_t (by omega) (by assumption)]; first | done | rfl | simp [lastS_snoc]) | (rw [srcsI_f (by omega) (by assumption)]; first | done | rfl)))), .fzE rfl (.box (by first | rfl | (rw [srcsI_t (by omega) (by assumption)]; first | done | rfl | simp [lastS_snoc]) | (rw [srcsI_f (by omega) (by assumption)]; first | done | rfl)) (.fzE rfl (.rowE rfl (.nil) (by first | rfl | (rw [srcsI_t (by omega) (by assumption)]; first | done | rfl | simp [lastS_snoc]) | (rw [srcsI_f (by omega) (by assumption)]; first | done | rfl))) (by first | rfl | (rw [srcsI_t (by omega) (by assumption)]; first | done | rfl | simp [lastS_snoc]) | (rw [srcsI_f (by omega) (by assumption)]; first | done | rfl)))) (by first | rfl | (rw [srcsI_t (by omega) (by assumption)]; first | done | rfl | simp [lastS_snoc]) | (rw [srcsI_f (by omega) (by assumption)]; first | done | rfl)), rfl⟩
            · have h7 := g7; (try simp only [cmpB, decide_eq_true_eq, decide_eq_false_iff_not, beq_iff_eq, beq_eq_false_iff_ne, bne_iff_ne, ne_eq, bne_eq_false_iff_eq, Bool.not_eq_true', Bool.not_eq_false', Int.not_lt, Int.not_le] at h7)
              refine W_exit ?_
              refine thenK_e ?_
              refine thenK_e ?_
              refine blockK_hit ?_
              refine blockK_n ?_
              refine thenK_n ?_
              refine W_seqK (b' := 165) rfl rfl ?_
              refine k_op0 (d := 48) (b := 117) (j' := 1) rfl rfl rfl rfl (.plain rfl) (T_move rfl rfl) rfl ?_
              refine k_op0 (d := 49) (b := 133) (j' := 2) rfl rfl rfl rfl (.plain rfl) (T_add64 rfl rfl rfl (by first | assumption | omega | (obtain ⟨q, q1, q2, q3⟩ := srcs_one (next := nextL (tidyG (p.funcs.getD x.toNat default))) (k := k) (m := j) (by omega); rw [q3]; omega) | (simp; omega))) rfl ?_
              refine k_op0 (d := 11) (b := 149) (j' := 3) rfl rfl rfl rfl (.plain rfl) (T_assign rfl rfl) rfl ?_
              refine k_done rfl ?_
              refine thenK_n ?_
              have ei : i = ((nextL (tidyG (p.funcs.getD x.toNat default))).getD j default).length := by omega
              refine ⟨j + 1, by (try dsimp only); omega, by (try dsimp only); omega, ?_⟩
              exact ⟨[(2, 2), (3, 3), (4, 4)], .same rfl rfl (.same rfl rfl (.eq rfl (.eq rfl (.eq rfl (.eq rfl (.nil) (by first | rfl | (rw [hss, ← ei]; first | done | rfl))) (by first | rfl | (rw [hss, ← ei]; first | done | rfl))) (by first | rfl | (rw [hss, ← ei]; first | done | rfl))) (by first | rfl | (rw [hss, ← ei]; first | done | rfl)))), .fzE rfl (.box (by first | rfl | (rw [hss, ← ei]; first | done | rfl)) (.fzE rfl (.rowE rfl (.nil) (by first | rfl | (rw [hss, ← ei]; first | done | rfl))) (by first | rfl | (rw [hss, ← ei]; first | done | rfl)))) (by first | rfl | (rw [hss, ← ei]; first | done | rfl)), rfl⟩
          · have h6 := g6; (try simp only [cmpB, decide_eq_true_eq, decide_eq_false_iff_not, beq_iff_eq, beq_eq_false_iff_ne, bne_iff_ne, ne_eq, bne_eq_false_iff_eq, Bool.not_eq_true', Bool.not_eq_false', Int.not_lt, Int.not_le] at h6)
            refine W_exit ?_
            refine thenK_e ?_
            refine thenK_e ?_
            refine blockK_hit ?_
            refine thenK_n ?_
            refine W_seq ?_
            refine W_seqK (b' := 389) rfl rfl ?_
            refine k_op0 (d := 71) (b := 69) (j' := 1) rfl rfl rfl rfl (.plain rfl) (T_move rfl rfl) rfl ?_
            refine k_op0 (d := 72) (b := 85) (j' := 2) rfl rfl rfl rfl (.plain rfl) (T_cmp rfl rfl rfl rfl) rfl ?_
            refine k_op0 (d := 73) (b := 101) (j' := 3) rfl rfl rfl rfl (.plain rfl) (T_move rfl rfl) rfl ?_
            refine k_split (d := 73) rfl (fun g9 => ?_) (fun g9 => ?_)
            · have h9 := g9; (try simp only [cmpB, decide_eq_true_eq, decide_eq_false_iff_not, beq_iff_eq, beq_eq_false_iff_ne, bne_iff_ne, ne_eq, bne_eq_false_iff_eq, Bool.not_eq_true', Bool.not_eq_false', Int.not_lt, Int.not_le] at h9)
              refine k_no (d := 74) (j' := 4) rfl rfl rfl (g_ft rfl rfl rfl g9) ?_
              refine k_no (d := 75) (j' := 5) rfl rfl rfl (g_ft rfl rfl rfl g9) ?_
              refine k_no (d := 76) (j' := 6) rfl rfl rfl (g_ft rfl rfl rfl g9) ?_
              refine k_no (d := 77) (j' := 7) rfl rfl rfl (.und rfl rfl rfl) ?_
              refine k_no (d := 78) (j' := 8) rfl rfl rfl (.und rfl rfl rfl) ?_
              refine k_no (d := 79) (j' := 9) rfl rfl rfl (.und rfl rfl rfl) ?_
              refine k_no (d := 80) (j' := 10) rfl rfl rfl (g_ft rfl rfl rfl g9) ?_
              refine k_no (d := 81) (j' := 11) rfl rfl rfl (g_ft rfl rfl rfl g9) ?_
              refine k_no (d := 82) (j' := 12) rfl rfl rfl (.und rfl rfl rfl) ?_
              refine k_no (d := 83) (j' := 13) rfl rfl rfl (.und rfl rfl rfl) ?_
              refine k_no (d := 84) (j' := 14) rfl rfl rfl (.und rfl rfl rfl) ?_
              refine k_no (d := 85) (j' := 15) rfl rfl rfl (.und rfl rfl rfl) ?_
              refine k_no (d := 86) (j' := 16) rfl rfl rfl (.und rfl rfl rfl) ?_
              refine k_no (d := 87) (j' := 17) rfl rfl rfl (.und rfl rfl rfl) ?_
              refine k_no (d := 88) (j' := 18) rfl rfl rfl (.und rfl rfl rfl) ?_
              refine k_no (d := 89) (j' := 19) rfl rfl rfl (g_ft rfl rfl rfl g9) ?_
              refine k_op0 (d := 90) (b := 373) (j' := 20) rfl rfl rfl rfl (.plain rfl) (T_pick_t rfl rfl rfl g9) rfl ?_
              refine k_done rfl ?_
              refine thenK_n ?_
              refine W_cond rfl (fun g10 => ?_) (fun g10 => ?_)
              · skip
                refine W_seq ?_
                refine W_seqK (b' := 405) rfl rfl ?_
                refine k_op0 (d := 4) (b := 389) (j' := 1) rfl rfl rfl rfl (.plain rfl) (T_assign rfl rfl) rfl ?_
                refine k_done rfl ?_
                refine thenK_n ?_
                refine W_ret ?_
                refine blockK_r ?_
                refine thenK_r ?_
                refine thenK_r ?_
                refine blockK_r ?_
                refine thenK_r ?_
                -- end 3
                exact .mk [] (.inr rfl) (.tmp rfl (.nil)) (by first | rfl | exact absurd g1 (by decide) | (exfalso; exact most_no hS.vf (k := k) (m := j) (by omega) (by omega) (by omega) (by first | exact .inl (by omega) | exact .inr ⟨by omega, by omega, by assumption⟩)) | (simp only [resLV, LV.ren, LV.v.injEq, Value.bool.injEq, cmpB]; exact decide_eq_true (by omega)) | simp [resLV, LV.ren]) (.nil) rfl
              · exact absurd (g10.symm.trans rfl) (by decide)
            · have h9 := g9; (try simp only [cmpB, decide_eq_true_eq, decide_eq_false_iff_not, beq_iff_eq, beq_eq_false_iff_ne, bne_iff_ne, ne_eq, bne_eq_false_iff_eq, Bool.not_eq_true', Bool.not_eq_false', Int.not_lt, Int.not_le] at h9)
              refine k_op0 (d := 74) (b := 117) (j' := 4) rfl rfl rfl rfl (g_ff rfl rfl rfl g9) (T_move rfl rfl) rfl ?_
              refine k_op0 (d := 75) (b := 133) (j' := 5) rfl rfl rfl rfl (g_ff rfl rfl rfl g9) (T_cmp rfl rfl rfl rfl) rfl ?_
              refine k_op0 (d := 76) (b := 149) (j' := 6) rfl rfl rfl rfl (g_ff rfl rfl rfl g9) (T_move rfl rfl) rfl ?_
              refine k_split (d := 76) rfl (fun g11 => ?_) (fun g11 => ?_)
              · have h11 := g11; (try simp only [cmpB, decide_eq_true_eq, decide_eq_false_iff_not, beq_iff_eq, beq_eq_false_iff_ne, bne_iff_ne, ne_eq, bne_eq_false_iff_eq, Bool.not_eq_true', Bool.not_eq_false', Int.not_lt, Int.not_le] at h11)
                refine k_op0 (d := 77) (b := 165) (j' := 7) rfl rfl rfl rfl (g_tt rfl rfl rfl g11) (T_move rfl rfl) rfl ?_
                refine k_op0 (d := 78) (b := 181) (j' := 8) rfl rfl rfl rfl (g_tt rfl rfl rfl g11) (T_move rfl rfl) rfl ?_
                refine k_op0 (d := 79) (b := 197) (j' := 9) rfl rfl rfl rfl (g_tt rfl rfl rfl g11) (T_cmp rfl rfl rfl rfl) rfl ?_
                refine k_op0 (d := 80) (b := 213) (j' := 10) rfl rfl rfl rfl (g_ff rfl rfl rfl g9) (T_pick_t rfl rfl rfl g11) rfl ?_
                refine k_op0 (d := 81) (b := 229) (j' := 11) rfl rfl rfl rfl (g_ff rfl rfl rfl g9) (T_move rfl rfl) rfl ?_
                refine k_split (d := 81) rfl (fun g12 => ?_) (fun g12 => ?_)
                · have h12 := g12; (try simp only [cmpB, decide_eq_true_eq, decide_eq_false_iff_not, beq_iff_eq, beq_eq_false_iff_ne, bne_iff_ne, ne_eq, bne_eq_false_iff_eq, Bool.not_eq_true', Bool.not_eq_false', Int.not_lt, Int.not_le] at h12)
                  refine k_op0 (d := 82) (b := 245) (j' := 12) rfl rfl rfl rfl (g_tt rfl rfl rfl g12) (T_fa D (m := 1) rfl rfl rfl rfl rfl rfl) rfl ?_
                  refine k_op0 (d := 83) (b := 261) (j' := 13) rfl rfl rfl rfl (g_tt rfl rfl rfl g12) (T_load_b D rfl rfl rfl rfl rfl rfl) rfl ?_
                  refine k_op0 (d := 84) (b := 277) (j' := 14) rfl rfl rfl rfl (g_tt rfl rfl rfl g12) (T_move rfl rfl) rfl ?_
                  first | refine k_op0 (d := 85) (b := 293) (j' := 15) rfl rfl rfl rfl (g_tt rfl rfl rfl g12) (T_indexAddr D rfl rfl rfl rfl rfl rfl rfl rfl (by first | assumption | omega | (obtain ⟨q, q1, q2, q3⟩ := srcs_one (next := nextL (tidyG (p.funcs.getD x.toNat default))) (k := k) (m := j) (by omega); rw [q3]; omega) | (simp; omega))) rfl ?_ | refine k_op0 (d := 85) (b := 293) (j' := 15) rfl rfl rfl rfl (g_tt rfl rfl rfl g12) (T_indexAddrZ D rfl rfl rfl rfl rfl rfl rfl rfl (by first | assumption | omega | (obtain ⟨q, q1, q2, q3⟩ := srcs_one (next := nextL (tidyG (p.funcs.getD x.toNat default))) (k := k) (m := j) (by omega); rw [q3]; omega) | (simp; omega)) (by first | assumption | omega | (obtain ⟨q, q1, q2, q3⟩ := srcs_one (next := nextL (tidyG (p.funcs.getD x.toNat default))) (k := k) (m := j) (by omega); rw [q3]; omega) | (simp; omega))) rfl ?_
                  refine k_op0 (d := 86) (b := 309) (j' := 16) rfl rfl rfl rfl (g_tt rfl rfl rfl g12) (T_fae D (m := 1) rfl rfl rfl rfl rfl rfl) rfl ?_
                  refine k_op0 (d := 87) (b := 325) (j' := 17) rfl rfl rfl rfl (g_tt rfl rfl rfl g12) (T_ldE D (lv := .v _) (nn := 0) (upd := []) rfl rfl rfl rfl rfl (by first | assumption | omega | (obtain ⟨q, q1, q2, q3⟩ := srcs_one (next := nextL (tidyG (p.funcs.getD x.toNat default))) (k := k) (m := j) (by omega); rw [q3]; omega) | (simp; omega)) rfl rfl rfl rfl) rfl ?_
                  refine k_op0 (d := 88) (b := 341) (j' := 18) rfl rfl rfl rfl (g_tt rfl rfl rfl g12) (T_cmp rfl rfl rfl rfl) rfl ?_
                  refine k_op0 (d := 89) (b := 357) (j' := 19) rfl rfl rfl rfl (g_ff rfl rfl rfl g9) (T_pick_t rfl rfl rfl g12) rfl ?_
                  refine k_op0 (d := 90) (b := 373) (j' := 20) rfl rfl rfl rfl (.plain rfl) (T_pick_f rfl rfl rfl g9) rfl ?_
                  refine k_done rfl ?_
                  refine thenK_n ?_
                  refine W_cond rfl (fun g13 => ?_) (fun g13 => ?_)
                  · have h13 := g13; (try simp only [cmpB, decide_eq_true_eq, decide_eq_false_iff_not, beq_iff_eq, beq_eq_false_iff_ne, bne_iff_ne, ne_eq, bne_eq_false_iff_eq, Bool.not_eq_true', Bool.not_eq_false', Int.not_lt, Int.not_le] at h13)
                    refine W_seq ?_
                    refine W_seqK (b' := 405) rfl rfl ?_
                    refine k_op0 (d := 4) (b := 389) (j' := 1) rfl rfl rfl rfl (.plain rfl) (T_assign rfl rfl) rfl ?_
                    refine k_done rfl ?_
                    refine thenK_n ?_
                    refine W_ret ?_
                    refine blockK_r ?_
                    refine thenK_r ?_
                    refine thenK_r ?_
                    refine blockK_r ?_
                    refine thenK_r ?_
                    -- end 4
                    exact .mk [] (.inr rfl) (.tmp rfl (.nil)) (by first | rfl | exact absurd g1 (by decide) | (exfalso; exact most_no hS.vf (k := k) (m := j) (by omega) (by omega) (by omega) (by first | exact .inl (by omega) | exact .inr ⟨by omega, by omega, by assumption⟩)) | (simp only [resLV, LV.ren, LV.v.injEq, Value.bool.injEq, cmpB]; exact decide_eq_true (by omega)) | simp [resLV, LV.ren]) (.nil) rfl
                  · have h13 := g13; (try simp only [cmpB, decide_eq_true_eq, decide_eq_false_iff_not, beq_iff_eq, beq_eq_false_iff_ne, bne_iff_ne, ne_eq, bne_eq_false_iff_eq, Bool.not_eq_true', Bool.not_eq_false', Int.not_lt, Int.not_le] at h13)
                    refine W_skip ?_
                    refine blockK_n ?_
                    refine thenK_n ?_
                    refine W_seqK (b' := 437) rfl rfl ?_
                    refine k_op0 (d := 42) (b := 389) (j' := 1) rfl rfl rfl rfl (.plain rfl) (T_move rfl rfl) rfl ?_
                    refine k_op0 (d := 43) (b := 405) (j' := 2) rfl rfl rfl rfl (.plain rfl) (T_add64 rfl rfl rfl (by first | assumption | omega | (obtain ⟨q, q1, q2, q3⟩ := srcs_one (next := nextL (tidyG (p.funcs.getD x.toNat default))) (k := k) (m := j) (by omega); rw [q3]; omega) | (simp; omega))) rfl ?_
                    refine k_op0 (d := 8) (b := 421) (j' := 3) rfl rfl rfl rfl (.plain rfl) (T_assign rfl rfl) rfl ?_
                    refine k_done rfl ?_
                    refine thenK_n ?_
                    have ej : j = (nextL (tidyG (p.funcs.getD x.toNat default))).length := by omega
                    refine ⟨k + 1, by (try dsimp only); omega, by (try dsimp only); omega, ?_⟩
                    exact ⟨[(2, 2), (3, 3), (4, 4)], .same rfl rfl (.same rfl rfl (.eq rfl (.nil) (by first | rfl | simp))), .fzE rfl (.box (by first | rfl | simp) (.fzE rfl (.rowE rfl (.nil) (by first | rfl | simp)) (by first | rfl | simp))) (by first | rfl | simp), rfl⟩
                · have h12 := g12; (try simp only [cmpB, decide_eq_true_eq, decide_eq_false_iff_not, beq_iff_eq, beq_eq_false_iff_ne, bne_iff_ne, ne_eq, bne_eq_false_iff_eq, Bool.not_eq_true', Bool.not_eq_false', Int.not_lt, Int.not_le] at h12)
                  refine k_no (d := 82) (j' := 12) rfl rfl rfl (g_tf rfl rfl rfl g12) ?_
                  refine k_no (d := 83) (j' := 13) rfl rfl rfl (g_tf rfl rfl rfl g12) ?_
                  refine k_no (d := 84) (j' := 14) rfl rfl rfl (g_tf rfl rfl rfl g12) ?_
                  refine k_no (d := 85) (j' := 15) rfl rfl rfl (g_tf rfl rfl rfl g12) ?_
                  refine k_no (d := 86) (j' := 16) rfl rfl rfl (g_tf rfl rfl rfl g12) ?_
                  refine k_no (d := 87) (j' := 17) rfl rfl rfl (g_tf rfl rfl rfl g12) ?_
                  refine k_no (d := 88) (j' := 18) rfl rfl rfl (g_tf rfl rfl rfl g12) ?_
                  refine k_op0 (d := 89) (b := 357) (j' := 19) rfl rfl rfl rfl (g_ff rfl rfl rfl g9) (T_pick_f rfl rfl rfl g12) rfl ?_
                  refine k_op0 (d := 90) (b := 373) (j' := 20) rfl rfl rfl rfl (.plain rfl) (T_pick_f rfl rfl rfl g9) rfl ?_
                  refine k_done rfl ?_
                  refine thenK_n ?_
                  refine W_cond rfl (fun g14 => ?_) (fun g14 => ?_)
                  · exact absurd (g14.symm.trans rfl) (by decide)
                  · skip
                    refine W_skip ?_
                    refine blockK_n ?_
                    refine thenK_n ?_
                    refine W_seqK (b' := 437) rfl rfl ?_
                    refine k_op0 (d := 42) (b := 389) (j' := 1) rfl rfl rfl rfl (.plain rfl) (T_move rfl rfl) rfl ?_
                    refine k_op0 (d := 43) (b := 405) (j' := 2) rfl rfl rfl rfl (.plain rfl) (T_add64 rfl rfl rfl (by first | assumption | omega | (obtain ⟨q, q1, q2, q3⟩ := srcs_one (next := nextL (tidyG (p.funcs.getD x.toNat default))) (k := k) (m := j) (by omega); rw [q3]; omega) | (simp; omega))) rfl ?_
                    refine k_op0 (d := 8) (b := 421) (j' := 3) rfl rfl rfl rfl (.plain rfl) (T_assign rfl rfl) rfl ?_
                    refine k_done rfl ?_
                    refine thenK_n ?_
                    have ej : j = (nextL (tidyG (p.funcs.getD x.toNat default))).length := by omega
                    refine ⟨k + 1, by (try dsimp only); omega, by (try dsimp only); omega, ?_⟩
                    exact ⟨[(2, 2), (3, 3), (4, 4)], .same rfl rfl (.same rfl rfl (.eq rfl (.nil) (by first | rfl | simp))), .fzE rfl (.box (by first | rfl | simp) (.fzE rfl (.rowE rfl (.nil) (by first | rfl | simp)) (by first | rfl | simp))) (by first | rfl | simp), rfl⟩
              · have h11 := g11; (try simp only [cmpB, decide_eq_true_eq, decide_eq_false_iff_not, beq_iff_eq, beq_eq_false_iff_ne, bne_iff_ne, ne_eq, bne_eq_false_iff_eq, Bool.not_eq_true', Bool.not_eq_false', Int.not_lt, Int.not_le] at h11)
                refine k_no (d := 77) (j' := 7) rfl rfl rfl (g_tf rfl rfl rfl g11) ?_
                refine k_no (d := 78) (j' := 8) rfl rfl rfl (g_tf rfl rfl rfl g11) ?_
                refine k_no (d := 79) (j' := 9) rfl rfl rfl (g_tf rfl rfl rfl g11) ?_
                refine k_op0 (d := 80) (b := 213) (j' := 10) rfl rfl rfl rfl (g_ff rfl rfl rfl g9) (T_pick_f rfl rfl rfl g11) rfl ?_
                refine k_op0 (d := 81) (b := 229) (j' := 11) rfl rfl rfl rfl (g_ff rfl rfl rfl g9) (T_move rfl rfl) rfl ?_
                refine k_no (d := 82) (j' := 12) rfl rfl rfl (g_tf rfl rfl rfl rfl) ?_
                refine k_no (d := 83) (j' := 13) rfl rfl rfl (g_tf rfl rfl rfl rfl) ?_
                refine k_no (d := 84) (j' := 14) rfl rfl rfl (g_tf rfl rfl rfl rfl) ?_
                refine k_no (d := 85) (j' := 15) rfl rfl rfl (g_tf rfl rfl rfl rfl) ?_
                refine k_no (d := 86) (j' := 16) rfl rfl rfl (g_tf rfl rfl rfl rfl) ?_
                refine k_no (d := 87) (j' := 17) rfl rfl rfl (g_tf rfl rfl rfl rfl) ?_
                refine k_no (d := 88) (j' := 18) rfl rfl rfl (g_tf rfl rfl rfl rfl) ?_
                refine k_op0 (d := 89) (b := 357) (j' := 19) rfl rfl rfl rfl (g_ff rfl rfl rfl g9) (T_pick_f rfl rfl rfl rfl) rfl ?_
                refine k_op0 (d := 90) (b := 373) (j' := 20) rfl rfl rfl rfl (.plain rfl) (T_pick_f rfl rfl rfl g9) rfl ?_
                refine k_done rfl ?_
                refine thenK_n ?_
                refine W_cond rfl (fun g15 => ?_) (fun g15 => ?_)
                · exact absurd (g15.symm.trans rfl) (by decide)
                · skip
                  refine W_skip ?_
                  refine blockK_n ?_
                  refine thenK_n ?_
                  refine W_seqK (b' := 437) rfl rfl ?_
                  refine k_op0 (d := 42) (b := 389) (j' := 1) rfl rfl rfl rfl (.plain rfl) (T_move rfl rfl) rfl ?_
                  refine k_op0 (d := 43) (b := 405) (j' := 2) rfl rfl rfl rfl (.plain rfl) (T_add64 rfl rfl rfl (by first | assumption | omega | (obtain ⟨q, q1, q2, q3⟩ := srcs_one (next := nextL (tidyG (p.funcs.getD x.toNat default))) (k := k) (m := j) (by omega); rw [q3]; omega) | (simp; omega))) rfl ?_
                  refine k_op0 (d := 8) (b := 421) (j' := 3) rfl rfl rfl rfl (.plain rfl) (T_assign rfl rfl) rfl ?_
                  refine k_done rfl ?_
                  refine thenK_n ?_
                  have ej : j = (nextL (tidyG (p.funcs.getD x.toNat default))).length := by omega
                  refine ⟨k + 1, by (try dsimp only); omega, by (try dsimp only); omega, ?_⟩
                  exact ⟨[(2, 2), (3, 3), (4, 4)], .same rfl rfl (.same rfl rfl (.eq rfl (.nil) (by first | rfl | simp))), .fzE rfl (.box (by first | rfl | simp) (.fzE rfl (.rowE rfl (.nil) (by first | rfl | simp)) (by first | rfl | simp))) (by first | rfl | simp), rfl⟩
        · have h5 := g5; (try simp only [cmpB, decide_eq_true_eq, decide_eq_false_iff_not, beq_iff_eq, beq_eq_false_iff_ne, bne_iff_ne, ne_eq, bne_eq_false_iff_eq, Bool.not_eq_true', Bool.not_eq_false', Int.not_lt, Int.not_le] at h5)
          refine W_exit ?_
          refine thenK_e ?_
          refine thenK_e ?_
          refine blockK_hit ?_
          refine thenK_n ?_
          refine W_seq ?_
          refine W_seqK (b' := 165) rfl rfl ?_
          refine k_op0 (d := 91) (b := 85) (j' := 1) rfl rfl rfl rfl (.plain rfl) (T_fa D (m := 1) rfl rfl rfl rfl rfl rfl) rfl ?_
          refine k_op0 (d := 92) (b := 101) (j' := 2) rfl rfl rfl rfl (.plain rfl) (T_load_b D rfl rfl rfl rfl rfl rfl) rfl ?_
          refine k_op0 (d := 93) (b := 117) (j' := 3) rfl rfl rfl rfl (.plain rfl) (T_len D rfl rfl rfl rfl rfl rfl) rfl ?_
          refine k_op0 (d := 94) (b := 133) (j' := 4) rfl rfl rfl rfl (.plain rfl) (T_cmp rfl rfl rfl rfl) rfl ?_
          refine k_op0 (d := 4) (b := 149) (j' := 5) rfl rfl rfl rfl (.plain rfl) (T_assign rfl rfl) rfl ?_
          refine k_done rfl ?_
          refine thenK_n ?_
          refine W_ret ?_
          -- end 5
          exact .mk [] (.inr rfl) (.tmp rfl (.nil)) (by first | rfl | exact absurd g1 (by decide) | (exfalso; exact most_no hS.vf (k := k) (m := j) (by omega) (by omega) (by omega) (by first | exact .inl (by omega) | exact .inr ⟨by omega, by omega, by assumption⟩)) | (simp only [resLV, LV.ren, LV.v.injEq, Value.bool.injEq, cmpB]; exact decide_eq_true (by omega)) | simp [resLV, LV.ren]) (.nil) rfl
end Lg
end Go.Proofs.Ytpfhmodjjljpjaa
