import Derived.Test.YtpfhmodjjljpjaaPf
namespace Go.Proofs.Ytpfhmodjjljpjaa
open Go.RowKit
namespace Lg
set_option maxRecDepth 100000
set_option linter.unusedVariables false
set_option linter.unusedSimpArgs false



theorem body66 : (Try.prog.funcs[66]?).map (fun fn => (fn.name == "runtime.NumGoroutine" || fn.body.isNone)) = some false := by kernel_rfl
theorem paths_spec (f : GFn) (hb : f.blocks.length ≤ 900000) (hi : InN f) : Spec Try.prog 66 [.agg [.v (.int .i64 f.regs), .r 1]] 2 [(1, .fz 5 (f.blocks.map eBlock))] (.r 2) 3 [(2, .row 52 1 ((pathsL f).map eIs))] := by
  have hfl : ∀ l ∈ nextL f, l.length ≤ 2 := follows_le f
  obtain ⟨s2, hv⟩ := reachL_some f
  have hnl := nextL_length f
  have hrl := reachL_length f
  have hbl := byL_length f
  refine spec_of D (fn := Try.f66) rfl rfl (Nat.le_of_ble_eq_true rfl) ?_
  refine W_seq ?_
  refine W_seqK (b' := 34) rfl rfl ?_
  refine k_op1 (d := 1) (b := 2) (j' := 1) rfl rfl rfl rfl (.plain rfl) (T_box rfl rfl flat_agg) rfl ?_
  refine k_op1 (d := 2) (b := 18) (j' := 2) rfl rfl rfl rfl (.plain rfl) (T_nils [(52, 1)] (T_assign rfl rfl) rfl (.inr ⟨rfl, rfl⟩) (.cons (.nil rfl) .nil) (lv' := .r 18) (upd' := [(18, .row 52 1 (List.map eIs ([] : List (List Int))))]) (nn' := 1) rfl rfl) rfl ?_
  refine k_done rfl ?_
  refine thenK_n ?_
  refine W_seq ?_
  refine W_seqK (b' := 82) rfl rfl ?_
  refine k_op0 (d := 9) (b := 34) (j' := 1) rfl rfl rfl rfl (.plain rfl) (T_load_bA D (l := [_, _]) rfl rfl rfl rfl rfl rfl rfl) rfl ?_
  refine k_op1 (d := 10) (b := 50) (j' := 2) rfl rfl rfl rfl (.plain rfl) (T_callR (lvs := [_]) (L := [(1, 1)]) (keep := false) (next_spec _ (by omega)) body90 rfl rfl rfl rfl (.fz rfl (.nil)) rfl (.inl rfl) rfl) rfl ?_
  refine k_op0 (d := 3) (b := 66) (j' := 3) rfl rfl rfl rfl (.plain rfl) (T_assign rfl rfl) rfl ?_
  refine k_done rfl ?_
  refine thenK_n ?_
  refine W_seq ?_
  refine W_seqK (b' := 130) rfl rfl ?_
  refine k_op0 (d := 11) (b := 82) (j' := 1) rfl rfl rfl rfl (.plain rfl) (T_move rfl rfl) rfl ?_
  refine k_op1 (d := 12) (b := 98) (j' := 2) rfl rfl rfl rfl (.plain rfl) (T_callR (lvs := [_]) (L := [(1, 50)]) (keep := true) (reach_spec (nextL f) (by omega) (fun l h => by have := hfl l h; omega) _ _ _ hv) body111 rfl rfl rfl rfl (.lend rfl (.nil)) rfl (.inr (flat_eB _)) rfl) rfl ?_
  refine k_op0 (d := 4) (b := 114) (j' := 3) rfl rfl rfl rfl (.plain rfl) (T_assign rfl rfl) rfl ?_
  refine k_done rfl ?_
  refine thenK_n ?_
  refine W_seq ?_
  refine W_seqK (b' := 226) rfl rfl ?_
  refine k_op0 (d := 13) (b := 130) (j' := 1) rfl rfl rfl rfl (.plain rfl) (T_load_bA D (l := [_, _]) rfl rfl rfl rfl rfl rfl rfl) rfl ?_
  refine k_op0 (d := 14) (b := 146) (j' := 2) rfl rfl rfl rfl (.plain rfl) (T_move rfl rfl) rfl ?_
  refine k_op0 (d := 15) (b := 162) (j' := 3) rfl rfl rfl rfl (.plain rfl) (T_move rfl rfl) rfl ?_
  refine k_op1 (d := 16) (b := 178) (j' := 4) rfl rfl rfl rfl (.plain rfl) (T_callR (lvs := [_, _, _]) (L := [(1, 1), (2, 50), (3, 98)]) (keep := true) (taken_spec f (nextL f) (reachL f) (by omega) (nextL_length f) (reachL_length f) 2 (by omega) hfl (fun l h i k => hi l h _ (getD_mem k))) body112 rfl rfl rfl rfl (.fz rfl (.lend rfl (.lend rfl (.nil)))) rfl (.inr (flat_eI _)) rfl) rfl ?_
  refine k_opn (d := 5) (b := 194) (j' := 5) rfl rfl rfl rfl (.plain rfl) (T_nilbox [(3, 1)] (T_alloc D rfl rfl rfl) rfl (.cons (.nil rfl) <| .nil) (upd' := [(194, .box 52 [.r 195]), (195, .row 3 1 (List.map eI ([] : List (Int))))]) (nn' := 2) rfl rfl) rfl ?_
  refine k_st1 (b := 210) (j' := 6) rfl rfl rfl rfl (.plain rfl) (T_stB D (cs' := [_]) rfl rfl rfl rfl (flat_sl rfl) rfl rfl (Nat.le_of_ble_eq_true rfl) rfl) rfl ?_
  refine k_done rfl ?_
  refine thenK_n ?_
  refine W_seq ?_
  refine W_seqK (b' := 242) rfl rfl ?_
  refine k_op1 (d := 6) (b := 226) (j' := 1) rfl rfl rfl rfl (.plain rfl) (T_alloc D rfl rfl rfl) rfl ?_
  refine k_done rfl ?_
  refine thenK_n ?_
  refine W_seq ?_
  refine W_seqK (b' := 274) rfl rfl ?_
  refine k_op0 (d := 17) (b := 242) (j' := 1) rfl rfl rfl rfl (.plain rfl) (T_makeFunc (l := [_, _]) rfl rfl) rfl ?_
  refine k_st1 (b := 258) (j' := 2) rfl rfl rfl rfl (.plain rfl) (T_stB D (cs' := [_]) rfl rfl rfl rfl flat_fn rfl rfl (Nat.le_of_ble_eq_true rfl) rfl) rfl ?_
  refine k_done rfl ?_
  refine thenK_n ?_
  refine W_seq ?_
  refine W_seqK (b' := 290) rfl rfl ?_
  refine k_op1 (d := 7) (b := 274) (j' := 1) rfl rfl rfl rfl (.plain rfl) (T_nils [(52, 1)] (T_assign rfl rfl) rfl (.inr ⟨rfl, rfl⟩) (.cons (.nil rfl) .nil) (lv' := .r 274) (upd' := [(274, .row 52 1 (List.map eIs ([] : List (List Int))))]) (nn' := 1) rfl rfl) rfl ?_
  refine k_done rfl ?_
  refine thenK_n ?_
  refine W_seq ?_
  refine W_seq ?_
  refine W_seqK (b' := 354) rfl rfl ?_
  refine k_op0 (d := 18) (b := 290) (j' := 1) rfl rfl rfl rfl (.plain rfl) (T_fa D (m := 1) rfl rfl rfl rfl rfl rfl) rfl ?_
  refine k_op0 (d := 19) (b := 306) (j' := 2) rfl rfl rfl rfl (.plain rfl) (T_load_b D rfl rfl rfl rfl rfl rfl) rfl ?_
  refine k_op0 (d := 20) (b := 322) (j' := 3) rfl rfl rfl rfl (.plain rfl) (T_len D rfl rfl rfl rfl rfl rfl) rfl ?_
  refine k_op0 (d := 21) (b := 338) (j' := 4) rfl rfl rfl rfl (.plain rfl) (T_move rfl rfl) rfl ?_
  refine k_done rfl ?_
  refine thenK_n ?_
  refine W_block ?_
  refine W_loop (ι := Nat) 7 (fun j => ⟨[(4, .r 2), (5, .p 3 0), (6, .p 5 0), (7, .r 6), (20, .v (.int .i64 (f.blocks.length : Int))), (21, .v (.int .i64 (j : Int)))], [(1, .fz 5 (f.blocks.map eBlock)), (2, .fz 1 ((reachL f).map eB)), (3, .box 52 [.r 4]), (4, .fz 1 ((byL f).map eI)), (5, .box 144 [.fn 113 [.p 3 0, .p 5 0]]), (6, .row 52 1 ((pathsTo f j).map eIs))]⟩) (fun j => j ≤ f.blocks.length) (fun j => f.blocks.length - j) (0) (by exact Nat.zero_le _) ?_ (fun j hJ => ?_)
  · exact ⟨[(2, 98), (3, 194), (4, 178), (5, 226), (6, 274)], .same rfl rfl (.same rfl rfl (.same rfl rfl (.same rfl rfl (.eq rfl (.eq rfl (.nil) (by first | rfl | simp)) (by first | rfl | simp))))), .fzE rfl (.lendE rfl (.box (by first | rfl | simp) (.lendE rfl (.box (by first | rfl | simp) (.rowE rfl (.nil) (by first | rfl | simp))) (by first | rfl | simp))) (by first | rfl | simp)) (by first | rfl | simp), rfl⟩
  have hpl := pathsTo_le f j
  refine W_seq ?_
  refine W_seqK (b' := 23) rfl rfl ?_
  refine k_op0 (d := 22) (b := 7) (j' := 1) rfl rfl rfl rfl (.plain rfl) (T_cmp rfl rfl rfl rfl) rfl ?_
  refine k_done rfl ?_
  refine thenK_n ?_
  refine W_seq ?_
  refine W_cond rfl (fun g1 => ?_) (fun g1 => ?_)
  · have h1 := g1; (try simp only [cmpB, decide_eq_true_eq, decide_eq_false_iff_not, beq_iff_eq, beq_eq_false_iff_ne, bne_iff_ne, ne_eq, bne_eq_false_iff_eq, Bool.not_eq_true', Bool.not_eq_false', Int.not_lt, Int.not_le] at h1)
    refine W_skip ?_
    refine thenK_n ?_
    refine W_seq ?_
    refine W_block ?_
    refine W_seq ?_
    refine W_seqK (b' := 55) rfl rfl ?_
    refine k_op0 (d := 23) (b := 23) (j' := 1) rfl rfl rfl rfl (.plain rfl) (T_move rfl rfl) rfl ?_
    refine k_op0 (d := 8) (b := 39) (j' := 2) rfl rfl rfl rfl (.plain rfl) (T_assign rfl rfl) rfl ?_
    refine k_done rfl ?_
    refine thenK_n ?_
    refine W_seq ?_
    refine W_seqK (b' := 231) rfl rfl ?_
    refine k_op0 (d := 24) (b := 55) (j' := 1) rfl rfl rfl rfl (.plain rfl) (T_move rfl rfl) rfl ?_
    refine k_op0 (d := 25) (b := 71) (j' := 2) rfl rfl rfl rfl (.plain rfl) (T_move rfl rfl) rfl ?_
    first | refine k_op0 (d := 26) (b := 87) (j' := 3) rfl rfl rfl rfl (.plain rfl) (T_indexAddr D rfl rfl rfl rfl rfl rfl rfl rfl (by first | assumption | omega | (simp; omega))) rfl ?_ | refine k_op0 (d := 26) (b := 87) (j' := 3) rfl rfl rfl rfl (.plain rfl) (T_indexAddrZ D rfl rfl rfl rfl rfl rfl rfl rfl (by first | assumption | omega | (simp; omega)) (by first | assumption | omega | (simp; omega))) rfl ?_
    refine k_op0 (d := 27) (b := 103) (j' := 4) rfl rfl rfl rfl (.plain rfl) (T_ldE D (lv := .v _) (nn := 0) (upd := []) rfl rfl rfl rfl rfl (by first | assumption | omega | (simp; omega)) rfl rfl rfl rfl) rfl ?_
    refine k_op0 (d := 28) (b := 119) (j' := 5) rfl rfl rfl rfl (.plain rfl) (T_move rfl rfl) rfl ?_
    refine k_split (d := 28) rfl (fun g2 => ?_) (fun g2 => ?_)
    · have h2 := g2; (try simp only [cmpB, decide_eq_true_eq, decide_eq_false_iff_not, beq_iff_eq, beq_eq_false_iff_ne, bne_iff_ne, ne_eq, bne_eq_false_iff_eq, Bool.not_eq_true', Bool.not_eq_false', Int.not_lt, Int.not_le] at h2)
      refine k_op0 (d := 29) (b := 135) (j' := 6) rfl rfl rfl rfl (g_tt rfl rfl rfl g2) (T_load_b D rfl rfl rfl rfl rfl rfl) rfl ?_
      refine k_op0 (d := 30) (b := 151) (j' := 7) rfl rfl rfl rfl (g_tt rfl rfl rfl g2) (T_move rfl rfl) rfl ?_
      first | refine k_op0 (d := 31) (b := 167) (j' := 8) rfl rfl rfl rfl (g_tt rfl rfl rfl g2) (T_indexAddr D rfl rfl rfl rfl rfl rfl rfl rfl (by first | assumption | omega | (simp; omega))) rfl ?_ | refine k_op0 (d := 31) (b := 167) (j' := 8) rfl rfl rfl rfl (g_tt rfl rfl rfl g2) (T_indexAddrZ D rfl rfl rfl rfl rfl rfl rfl rfl (by first | assumption | omega | (simp; omega)) (by first | assumption | omega | (simp; omega))) rfl ?_
      refine k_op0 (d := 32) (b := 183) (j' := 9) rfl rfl rfl rfl (g_tt rfl rfl rfl g2) (T_ldE D (lv := .v _) (nn := 0) (upd := []) rfl rfl rfl rfl rfl (by first | assumption | omega | (simp; omega)) rfl rfl rfl rfl) rfl ?_
      refine k_op0 (d := 33) (b := 199) (j' := 10) rfl rfl rfl rfl (g_tt rfl rfl rfl g2) (T_cmp rfl rfl rfl rfl) rfl ?_
      refine k_op0 (d := 34) (b := 215) (j' := 11) rfl rfl rfl rfl (.plain rfl) (T_pick_t rfl rfl rfl g2) rfl ?_
      refine k_done rfl ?_
      refine thenK_n ?_
      refine W_cond rfl (fun g3 => ?_) (fun g3 => ?_)
      · have h3 := g3; (try simp only [cmpB, decide_eq_true_eq, decide_eq_false_iff_not, beq_iff_eq, beq_eq_false_iff_ne, bne_iff_ne, ne_eq, bne_eq_false_iff_eq, Bool.not_eq_true', Bool.not_eq_false', Int.not_lt, Int.not_le] at h3)
        refine W_seqK (b' := 359) rfl rfl ?_
        refine k_op0 (d := 35) (b := 231) (j' := 1) rfl rfl rfl rfl (.plain rfl) (T_move rfl rfl) rfl ?_
        refine k_op0 (d := 36) (b := 247) (j' := 2) rfl rfl rfl rfl (.plain rfl) (T_load_b D rfl rfl rfl rfl rfl rfl) rfl ?_
        refine k_op0 (d := 37) (b := 263) (j' := 3) rfl rfl rfl rfl (.plain rfl) (T_move rfl rfl) rfl ?_
        refine k_op1 (d := 38) (b := 279) (j' := 4) rfl rfl rfl rfl (.plain rfl) (T_bs D (ys := [_]) (enc := eI) (l := [_]) rfl rfl rfl rfl rfl rfl (.cons rfl (flat_v rfl) (.nil)) rfl rfl rfl rfl (.v rfl (.nil)) rfl rfl) rfl ?_
        refine k_opn (d := 39) (b := 295) (j' := 5) rfl rfl rfl rfl (.plain rfl) (T_call (lvs := [_]) (L := [(1, 279), (2, 3), (3, 5), (4, 4)]) (lv := .r 295) (upd := [(279, .no), (3, .box 52 [.r 4]), (5, .box 144 [.fn 113 [.p 3 0, .p 5 0]]), (295, .row 3 1 _)]) (nn := 1) false (follow_spec (byL f) (by omega) _ _ _ (by simp) (path_of hi (by omega) (isHead_of (by assumption) (by assumption))).1 (by simp; omega)) body113 rfl rfl rfl rfl (.row rfl (.box rfl (.box rfl (.fz rfl (.nil))))) rfl (.inl rfl) rfl rfl rfl) rfl ?_
        refine k_opn (d := 40) (b := 311) (j' := 6) rfl rfl rfl rfl (.plain rfl) (T_bs D (ys := [_]) (enc := eIs) (l := [_]) rfl rfl rfl rfl rfl rfl (.cons rfl (flat_sl rfl) (.nil)) rfl rfl rfl rfl (.row rfl (.nil) rfl) rfl rfl) rfl ?_
        refine k_opn (d := 41) (b := 327) (j' := 7) rfl rfl rfl rfl (.plain rfl) (T_append D rfl rfl rfl rfl rfl rfl rfl rfl rfl rfl rfl rfl (by (try simp only [ty52]); first | assumption | omega | (simp; omega)) (by (try simp only [ty52]); first | assumption | omega | (simp; omega))) rfl ?_
        refine k_op0 (d := 7) (b := 343) (j' := 8) rfl rfl rfl rfl (.plain rfl) (T_assign rfl rfl) rfl ?_
        refine k_done rfl ?_
        refine blockK_n ?_
        refine thenK_n ?_
        refine W_seqK (b' := 391) rfl rfl ?_
        refine k_op0 (d := 42) (b := 359) (j' := 1) rfl rfl rfl rfl (.plain rfl) (T_add64 rfl rfl rfl (by first | assumption | omega | (simp; omega))) rfl ?_
        refine k_op0 (d := 21) (b := 375) (j' := 2) rfl rfl rfl rfl (.plain rfl) (T_move rfl rfl) rfl ?_
        refine k_done rfl ?_
        refine thenK_n ?_
        refine ⟨j + 1, by (try dsimp only); omega, by (try dsimp only); omega, ?_⟩
        exact ⟨[(2, 2), (3, 3), (4, 4), (5, 5), (6, 327)], .same rfl rfl (.same rfl rfl (.same rfl rfl (.same rfl rfl (.eq rfl (.eq rfl (.nil) (by first | rfl | (rw [pathsTo_t (isHead_of (by assumption) (by assumption))]; done) | (rw [pathsTo_f (by unfold isHead; simp_all [-List.getD_eq_getElem?_getD, -Int.default_eq_zero])]))) (by first | rfl | (rw [pathsTo_t (isHead_of (by assumption) (by assumption))]; done) | (rw [pathsTo_f (by unfold isHead; simp_all [-List.getD_eq_getElem?_getD, -Int.default_eq_zero])])))))), .fzE rfl (.fzE rfl (.box (by first | rfl | (rw [pathsTo_t (isHead_of (by assumption) (by assumption))]; done) | (rw [pathsTo_f (by unfold isHead; simp_all [-List.getD_eq_getElem?_getD, -Int.default_eq_zero])])) (.fzE rfl (.box (by first | rfl | (rw [pathsTo_t (isHead_of (by assumption) (by assumption))]; done) | (rw [pathsTo_f (by unfold isHead; simp_all [-List.getD_eq_getElem?_getD, -Int.default_eq_zero])])) (.rowE rfl (.nil) (by first | rfl | (rw [pathsTo_t (isHead_of (by assumption) (by assumption))]; done) | (rw [pathsTo_f (by unfold isHead; simp_all [-List.getD_eq_getElem?_getD, -Int.default_eq_zero])])))) (by first | rfl | (rw [pathsTo_t (isHead_of (by assumption) (by assumption))]; done) | (rw [pathsTo_f (by unfold isHead; simp_all [-List.getD_eq_getElem?_getD, -Int.default_eq_zero])])))) (by first | rfl | (rw [pathsTo_t (isHead_of (by assumption) (by assumption))]; done) | (rw [pathsTo_f (by unfold isHead; simp_all [-List.getD_eq_getElem?_getD, -Int.default_eq_zero])]))) (by first | rfl | (rw [pathsTo_t (isHead_of (by assumption) (by assumption))]; done) | (rw [pathsTo_f (by unfold isHead; simp_all [-List.getD_eq_getElem?_getD, -Int.default_eq_zero])])), rfl⟩
      · have h3 := g3; (try simp only [cmpB, decide_eq_true_eq, decide_eq_false_iff_not, beq_iff_eq, beq_eq_false_iff_ne, bne_iff_ne, ne_eq, bne_eq_false_iff_eq, Bool.not_eq_true', Bool.not_eq_false', Int.not_lt, Int.not_le] at h3)
        refine W_skip ?_
        refine blockK_n ?_
        refine thenK_n ?_
        refine W_seqK (b' := 263) rfl rfl ?_
        refine k_op0 (d := 42) (b := 231) (j' := 1) rfl rfl rfl rfl (.plain rfl) (T_add64 rfl rfl rfl (by first | assumption | omega | (simp; omega))) rfl ?_
        refine k_op0 (d := 21) (b := 247) (j' := 2) rfl rfl rfl rfl (.plain rfl) (T_move rfl rfl) rfl ?_
        refine k_done rfl ?_
        refine thenK_n ?_
        refine ⟨j + 1, by (try dsimp only); omega, by (try dsimp only); omega, ?_⟩
        exact ⟨[(2, 2), (3, 3), (4, 4), (5, 5), (6, 6)], .same rfl rfl (.same rfl rfl (.same rfl rfl (.same rfl rfl (.eq rfl (.eq rfl (.nil) (by first | rfl | (rw [pathsTo_t (isHead_of (by assumption) (by assumption))]; done) | (rw [pathsTo_f (by unfold isHead; simp_all [-List.getD_eq_getElem?_getD, -Int.default_eq_zero])]))) (by first | rfl | (rw [pathsTo_t (isHead_of (by assumption) (by assumption))]; done) | (rw [pathsTo_f (by unfold isHead; simp_all [-List.getD_eq_getElem?_getD, -Int.default_eq_zero])])))))), .fzE rfl (.fzE rfl (.box (by first | rfl | (rw [pathsTo_t (isHead_of (by assumption) (by assumption))]; done) | (rw [pathsTo_f (by unfold isHead; simp_all [-List.getD_eq_getElem?_getD, -Int.default_eq_zero])])) (.fzE rfl (.box (by first | rfl | (rw [pathsTo_t (isHead_of (by assumption) (by assumption))]; done) | (rw [pathsTo_f (by unfold isHead; simp_all [-List.getD_eq_getElem?_getD, -Int.default_eq_zero])])) (.rowE rfl (.nil) (by first | rfl | (rw [pathsTo_t (isHead_of (by assumption) (by assumption))]; done) | (rw [pathsTo_f (by unfold isHead; simp_all [-List.getD_eq_getElem?_getD, -Int.default_eq_zero])])))) (by first | rfl | (rw [pathsTo_t (isHead_of (by assumption) (by assumption))]; done) | (rw [pathsTo_f (by unfold isHead; simp_all [-List.getD_eq_getElem?_getD, -Int.default_eq_zero])])))) (by first | rfl | (rw [pathsTo_t (isHead_of (by assumption) (by assumption))]; done) | (rw [pathsTo_f (by unfold isHead; simp_all [-List.getD_eq_getElem?_getD, -Int.default_eq_zero])]))) (by first | rfl | (rw [pathsTo_t (isHead_of (by assumption) (by assumption))]; done) | (rw [pathsTo_f (by unfold isHead; simp_all [-List.getD_eq_getElem?_getD, -Int.default_eq_zero])])), rfl⟩
    · have h2 := g2; (try simp only [cmpB, decide_eq_true_eq, decide_eq_false_iff_not, beq_iff_eq, beq_eq_false_iff_ne, bne_iff_ne, ne_eq, bne_eq_false_iff_eq, Bool.not_eq_true', Bool.not_eq_false', Int.not_lt, Int.not_le] at h2)
      refine k_no (d := 29) (j' := 6) rfl rfl rfl (g_tf rfl rfl rfl g2) ?_
      refine k_no (d := 30) (j' := 7) rfl rfl rfl (g_tf rfl rfl rfl g2) ?_
      refine k_no (d := 31) (j' := 8) rfl rfl rfl (g_tf rfl rfl rfl g2) ?_
      refine k_no (d := 32) (j' := 9) rfl rfl rfl (g_tf rfl rfl rfl g2) ?_
      refine k_no (d := 33) (j' := 10) rfl rfl rfl (g_tf rfl rfl rfl g2) ?_
      refine k_op0 (d := 34) (b := 215) (j' := 11) rfl rfl rfl rfl (.plain rfl) (T_pick_f rfl rfl rfl g2) rfl ?_
      refine k_done rfl ?_
      refine thenK_n ?_
      refine W_cond rfl (fun g4 => ?_) (fun g4 => ?_)
      · exact absurd (g4.symm.trans rfl) (by decide)
      · skip
        refine W_skip ?_
        refine blockK_n ?_
        refine thenK_n ?_
        refine W_seqK (b' := 263) rfl rfl ?_
        refine k_op0 (d := 42) (b := 231) (j' := 1) rfl rfl rfl rfl (.plain rfl) (T_add64 rfl rfl rfl (by first | assumption | omega | (simp; omega))) rfl ?_
        refine k_op0 (d := 21) (b := 247) (j' := 2) rfl rfl rfl rfl (.plain rfl) (T_move rfl rfl) rfl ?_
        refine k_done rfl ?_
        refine thenK_n ?_
        refine ⟨j + 1, by (try dsimp only); omega, by (try dsimp only); omega, ?_⟩
        exact ⟨[(2, 2), (3, 3), (4, 4), (5, 5), (6, 6)], .same rfl rfl (.same rfl rfl (.same rfl rfl (.same rfl rfl (.eq rfl (.eq rfl (.nil) (by first | rfl | (rw [pathsTo_t (isHead_of (by assumption) (by assumption))]; done) | (rw [pathsTo_f (by unfold isHead; simp_all [-List.getD_eq_getElem?_getD, -Int.default_eq_zero])]))) (by first | rfl | (rw [pathsTo_t (isHead_of (by assumption) (by assumption))]; done) | (rw [pathsTo_f (by unfold isHead; simp_all [-List.getD_eq_getElem?_getD, -Int.default_eq_zero])])))))), .fzE rfl (.fzE rfl (.box (by first | rfl | (rw [pathsTo_t (isHead_of (by assumption) (by assumption))]; done) | (rw [pathsTo_f (by unfold isHead; simp_all [-List.getD_eq_getElem?_getD, -Int.default_eq_zero])])) (.fzE rfl (.box (by first | rfl | (rw [pathsTo_t (isHead_of (by assumption) (by assumption))]; done) | (rw [pathsTo_f (by unfold isHead; simp_all [-List.getD_eq_getElem?_getD, -Int.default_eq_zero])])) (.rowE rfl (.nil) (by first | rfl | (rw [pathsTo_t (isHead_of (by assumption) (by assumption))]; done) | (rw [pathsTo_f (by unfold isHead; simp_all [-List.getD_eq_getElem?_getD, -Int.default_eq_zero])])))) (by first | rfl | (rw [pathsTo_t (isHead_of (by assumption) (by assumption))]; done) | (rw [pathsTo_f (by unfold isHead; simp_all [-List.getD_eq_getElem?_getD, -Int.default_eq_zero])])))) (by first | rfl | (rw [pathsTo_t (isHead_of (by assumption) (by assumption))]; done) | (rw [pathsTo_f (by unfold isHead; simp_all [-List.getD_eq_getElem?_getD, -Int.default_eq_zero])]))) (by first | rfl | (rw [pathsTo_t (isHead_of (by assumption) (by assumption))]; done) | (rw [pathsTo_f (by unfold isHead; simp_all [-List.getD_eq_getElem?_getD, -Int.default_eq_zero])])), rfl⟩
  · have h1 := g1; (try simp only [cmpB, decide_eq_true_eq, decide_eq_false_iff_not, beq_iff_eq, beq_eq_false_iff_ne, bne_iff_ne, ne_eq, bne_eq_false_iff_eq, Bool.not_eq_true', Bool.not_eq_false', Int.not_lt, Int.not_le] at h1)
    refine W_exit ?_
    refine thenK_e ?_
    refine thenK_e ?_
    refine blockK_hit ?_
    refine thenK_n ?_
    refine W_seq ?_
    refine W_seqK (b' := 55) rfl rfl ?_
    refine k_op0 (d := 43) (b := 23) (j' := 1) rfl rfl rfl rfl (.plain rfl) (T_move rfl rfl) rfl ?_
    refine k_op0 (d := 2) (b := 39) (j' := 2) rfl rfl rfl rfl (.plain rfl) (T_assign rfl rfl) rfl ?_
    refine k_done rfl ?_
    refine thenK_n ?_
    refine W_ret ?_
    -- end 0
    exact .mk [(2, 6)] (.inr rfl) (.tmp rfl (.nil)) rfl (.rowE rfl (.nil) (by first | rfl | (have e : j = f.blocks.length := (by omega); rw [e]; rfl))) rfl
end Lg
end Go.Proofs.Ytpfhmodjjljpjaa
