import Derived.Test.YtpfhmodjjljpjaaTidyTwice4
set_option linter.unusedVariables false
set_option linter.unusedSimpArgs false
namespace Go.Proofs.Ytpfhmodjjljpjaa
open Go.RowKit
namespace Lg
set_option maxRecDepth 100000
set_option linter.unusedVariables false
set_option linter.unusedSimpArgs false



theorem body26 : (Try.prog.funcs[26]?).map (fun fn => (fn.name == "runtime.NumGoroutine" || fn.body.isNone)) = some false := by kernel_rfl
theorem tidy_spec (f : GFn) (hb : f.blocks.length ≤ 900000) (hi : InN f) (hc : ∀ b ∈ f.blocks, b.ins.length ≤ 1000) : Spec Try.prog 26 [.agg [.v (.int .i64 f.regs), .r 1]] 2 [(1, .fz 5 (f.blocks.map eBlock))] (.tup [.agg [.v (.int .i64 f.regs), .r 2], .r 3]) 4 [(2, .row 72 5 ((tidyG f).blocks.map eBlock)), (3, .fz 1 ((pathsL f).map eIs))] := by
  have hpi : ∀ p ∈ pathsL f, 1 ≤ p.length ∧ p.length ≤ f.blocks.length ∧ ∀ x ∈ p, 0 ≤ x ∧ x < (f.blocks.length : Int) := fun p h => path_in hi h
  have hpl : (pathsL f).length ≤ f.blocks.length := pathsTo_le f _
  refine spec_of D (fn := Try.f26) rfl rfl (Nat.le_of_ble_eq_true rfl) ?_
  refine W_seq ?_
  refine W_seqK (b' := 50) rfl rfl ?_
  refine k_op1 (d := 1) (b := 2) (j' := 1) rfl rfl rfl rfl (.plain rfl) (T_box rfl rfl flat_agg) rfl ?_
  refine k_opn (d := 2) (b := 18) (j' := 2) rfl rfl rfl rfl (.plain rfl) (T_nilbox [(72, 5)] (T_alloc D rfl rfl rfl) rfl (.cons (.same _) <| .cons (.nil rfl) <| .nil) (upd' := [(18, .box 29 [.v (.int .i64 0), .r 19]), (19, .row 72 5 (List.map eBlock ([] : List (GBlock))))]) (nn' := 2) rfl rfl) rfl ?_
  refine k_op1 (d := 3) (b := 34) (j' := 3) rfl rfl rfl rfl (.plain rfl) (T_nils [(52, 1)] (T_assign rfl rfl) rfl (.inr ⟨rfl, rfl⟩) (.cons (.nil rfl) .nil) (lv' := .r 34) (upd' := [(34, .row 52 1 (List.map eIs ([] : List (List Int))))]) (nn' := 1) rfl rfl) rfl ?_
  refine k_done rfl ?_
  refine thenK_n ?_
  refine W_seq ?_
  refine W_seqK (b' := 114) rfl rfl ?_
  refine k_op0 (d := 11) (b := 50) (j' := 1) rfl rfl rfl rfl (.plain rfl) (T_load_bA D (l := [_, _]) rfl rfl rfl rfl rfl rfl rfl) rfl ?_
  refine k_op1 (d := 12) (b := 66) (j' := 2) rfl rfl rfl rfl (.plain rfl) (T_callR (lvs := [_]) (L := [(1, 1)]) (keep := false) (paths_spec _ hb hi) body66 rfl rfl rfl rfl (.fz rfl (.nil)) rfl (.inl rfl) rfl) rfl ?_
  refine k_opn (d := 4) (b := 82) (j' := 3) rfl rfl rfl rfl (.plain rfl) (T_nilbox [(52, 1)] (T_alloc D rfl rfl rfl) rfl (.cons (.nil rfl) <| .nil) (upd' := [(82, .box 30 [.r 83]), (83, .row 52 1 (List.map eIs ([] : List (List Int))))]) (nn' := 2) rfl rfl) rfl ?_
  refine k_st1 (b := 98) (j' := 4) rfl rfl rfl rfl (.plain rfl) (T_stB D (cs' := [_]) rfl rfl rfl rfl (flat_sl rfl) rfl rfl (Nat.le_of_ble_eq_true rfl) rfl) rfl ?_
  refine k_done rfl ?_
  refine thenK_n ?_
  refine W_seq ?_
  refine W_seqK (b' := 146) rfl rfl ?_
  refine k_op0 (d := 13) (b := 114) (j' := 1) rfl rfl rfl rfl (.plain rfl) (T_makeFunc (l := [_]) rfl rfl) rfl ?_
  refine k_op0 (d := 5) (b := 130) (j' := 2) rfl rfl rfl rfl (.plain rfl) (T_assign rfl rfl) rfl ?_
  refine k_done rfl ?_
  refine thenK_n ?_
  refine W_seq ?_
  refine W_seqK (b' := 226) rfl rfl ?_
  refine k_op0 (d := 14) (b := 146) (j' := 1) rfl rfl rfl rfl (.plain rfl) (T_fa D (m := 0) rfl rfl rfl rfl rfl rfl) rfl ?_
  refine k_op0 (d := 15) (b := 162) (j' := 2) rfl rfl rfl rfl (.plain rfl) (T_load_b D rfl rfl rfl rfl rfl rfl) rfl ?_
  refine k_op1 (d := 16) (b := 178) (j' := 3) rfl rfl rfl rfl (.plain rfl) (T_nils [(72, 5)] (T_build D (l := [_, _]) rfl rfl rfl rfl (.cons rfl (flat_v rfl) (.nil)) rfl rfl) rfl (.inl ⟨rfl, rfl⟩) (.cons (.same _) <| .cons (.nil rfl) <| .nil) (lv' := .agg [_, .r 178]) (upd' := [(178, .row 72 5 (List.map eBlock ([] : List (GBlock))))]) (nn' := 1) rfl rfl) rfl ?_
  refine k_opn (d := 6) (b := 194) (j' := 4) rfl rfl rfl rfl (.plain rfl) (T_nilbox [(72, 5)] (T_alloc D rfl rfl rfl) rfl (.cons (.same _) <| .cons (.nil rfl) <| .nil) (upd' := [(194, .box 29 [.v (.int .i64 0), .r 195]), (195, .row 72 5 (List.map eBlock ([] : List (GBlock))))]) (nn' := 2) rfl rfl) rfl ?_
  refine k_st1 (b := 210) (j' := 5) rfl rfl rfl rfl (.plain rfl) (T_stB D (cs' := [_, _]) rfl rfl rfl rfl flat_agg rfl rfl (Nat.le_of_ble_eq_true rfl) rfl) rfl ?_
  refine k_done rfl ?_
  refine thenK_n ?_
  refine W_seq ?_
  refine W_seq ?_
  refine W_seqK (b' := 274) rfl rfl ?_
  refine k_op0 (d := 17) (b := 226) (j' := 1) rfl rfl rfl rfl (.plain rfl) (T_load_b D rfl rfl rfl rfl rfl rfl) rfl ?_
  refine k_op0 (d := 18) (b := 242) (j' := 2) rfl rfl rfl rfl (.plain rfl) (T_len D rfl rfl rfl rfl rfl rfl) rfl ?_
  refine k_op0 (d := 19) (b := 258) (j' := 3) rfl rfl rfl rfl (.plain rfl) (T_move rfl rfl) rfl ?_
  refine k_done rfl ?_
  refine thenK_n ?_
  refine W_block ?_
  refine W_loop (ι := Nat) 9 (fun j => ⟨[(1, .p 2 0), (2, .p 3 0), (4, .p 5 0), (5, .fn 67 [.p 5 0]), (6, .p 7 0), (17, .r 6), (18, .v (.int .i64 ((pathsL f).length : Int))), (19, .v (.int .i64 (j : Int)))], [(1, .fz 5 (f.blocks.map eBlock)), (2, .box 29 [.v (.int .i64 f.regs), .r 1]), (3, .box 29 [.v (.int .i64 0), .r 4]), (4, .row 72 5 (([] : List GBlock).map eBlock)), (5, .box 30 [.r 6]), (6, .fz 1 ((pathsL f).map eIs)), (7, .box 29 [.v (.int .i64 f.regs), .r 8]), (8, .row 72 5 ((((pathsL f).take j).map (newBlock f (pathsL f))).map eBlock))]⟩) (fun j => j ≤ (pathsL f).length) (fun j => (pathsL f).length - j) (0) (by exact Nat.zero_le _) ?_ (fun j hJ => ?_)
  · exact ⟨[(2, 2), (3, 18), (4, 19), (5, 82), (6, 66), (7, 194), (8, 178)], .same rfl rfl (.same rfl rfl (.same rfl rfl (.same rfl rfl (.same rfl rfl (.same rfl rfl (.eq rfl (.eq rfl (.nil) (by first | rfl | simp)) (by first | rfl | simp))))))), .fzE rfl (.box (by first | rfl | simp) (.box (by first | rfl | simp) (.rowE rfl (.box (by first | rfl | simp) (.lendE rfl (.box (by first | rfl | simp) (.rowE rfl (.nil) (by first | rfl | simp))) (by first | rfl | simp))) (by first | rfl | simp)))) (by first | rfl | simp), rfl⟩
  have hj := fun h => hpi ((pathsL f).getD j default) (getD_mem h)
  have hlj := fun h => last_in (hj h).1 (hj h).2.2
  simp only [lastOf] at hlj
  refine W_seq ?_
  refine W_seqK (b' := 25) rfl rfl ?_
  refine k_op0 (d := 20) (b := 9) (j' := 1) rfl rfl rfl rfl (.plain rfl) (T_cmp rfl rfl rfl rfl) rfl ?_
  refine k_done rfl ?_
  refine thenK_n ?_
  refine W_seq ?_
  refine W_cond rfl (fun g1 => ?_) (fun g1 => ?_)
  · have h1 := g1; (try simp only [cmpB, decide_eq_true_eq, decide_eq_false_iff_not, beq_iff_eq, beq_eq_false_iff_ne, bne_iff_ne, ne_eq, bne_eq_false_iff_eq, Bool.not_eq_true', Bool.not_eq_false', Int.not_lt, Int.not_le] at h1)
    refine W_skip ?_
    refine thenK_n ?_
    refine W_seq ?_
    refine W_block ?_
    refine W_seq ?_
    refine W_seqK (b' := 73) rfl rfl ?_
    first | refine k_op0 (d := 21) (b := 25) (j' := 1) rfl rfl rfl rfl (.plain rfl) (T_indexAddr D rfl rfl rfl rfl rfl rfl rfl rfl (by first | assumption | omega | (simp; omega) | (have k := hj (by omega); omega) | (have k := hlj (by omega); omega))) rfl ?_ | refine k_op0 (d := 21) (b := 25) (j' := 1) rfl rfl rfl rfl (.plain rfl) (T_indexAddrZ D rfl rfl rfl rfl rfl rfl rfl rfl (by first | assumption | omega | (simp; omega) | (have k := hj (by omega); omega) | (have k := hlj (by omega); omega)) (by first | assumption | omega | (simp; omega) | (have k := hj (by omega); omega) | (have k := hlj (by omega); omega))) rfl ?_
    refine k_op1 (d := 22) (b := 41) (j' := 2) rfl rfl rfl rfl (.plain rfl) (T_ldE D (lv := .r 41) (nn := 1) (upd := [(41, .fz 1 _)]) rfl rfl rfl rfl rfl (by first | assumption | omega | (simp; omega) | (have k := hj (by omega); omega) | (have k := hlj (by omega); omega)) rfl rfl rfl rfl) rfl ?_
    refine k_op0 (d := 8) (b := 57) (j' := 3) rfl rfl rfl rfl (.plain rfl) (T_assign rfl rfl) rfl ?_
    refine k_done rfl ?_
    refine thenK_n ?_
    refine W_seq ?_
    refine W_anyK (b' := 265) rfl rfl rfl ?_
    refine k_op0 (d := 23) (b := 73) (j' := 1) rfl rfl rfl rfl (.plain rfl) (T_fa D (m := 1) rfl rfl rfl rfl rfl rfl) rfl ?_
    refine k_op0 (d := 24) (b := 89) (j' := 2) rfl rfl rfl rfl (.plain rfl) (T_load_b D rfl rfl rfl rfl rfl rfl) rfl ?_
    refine k_op0 (d := 25) (b := 105) (j' := 3) rfl rfl rfl rfl (.plain rfl) (T_move rfl rfl) rfl ?_
    refine k_op0 (d := 26) (b := 121) (j' := 4) rfl rfl rfl rfl (.plain rfl) (T_move rfl rfl) rfl ?_
    refine k_op0 (d := 27) (b := 137) (j' := 5) rfl rfl rfl rfl (.plain rfl) (T_len D rfl rfl rfl rfl rfl rfl) rfl ?_
    refine k_op0 (d := 28) (b := 153) (j' := 6) rfl rfl rfl rfl (.plain rfl) (T_sub64 rfl rfl rfl (by first | assumption | omega | (simp; omega) | (have k := hj (by omega); omega) | (have k := hlj (by omega); omega))) rfl ?_
    first | refine k_op0 (d := 29) (b := 169) (j' := 7) rfl rfl rfl rfl (.plain rfl) (T_indexAddr D rfl rfl rfl rfl rfl rfl rfl rfl (by first | assumption | omega | (simp; omega) | (have k := hj (by omega); omega) | (have k := hlj (by omega); omega))) rfl ?_ | refine k_op0 (d := 29) (b := 169) (j' := 7) rfl rfl rfl rfl (.plain rfl) (T_indexAddrZ D rfl rfl rfl rfl rfl rfl rfl rfl (by first | assumption | omega | (simp; omega) | (have k := hj (by omega); omega) | (have k := hlj (by omega); omega)) (by first | assumption | omega | (simp; omega) | (have k := hj (by omega); omega) | (have k := hlj (by omega); omega))) rfl ?_
    refine k_op0 (d := 30) (b := 185) (j' := 8) rfl rfl rfl rfl (.plain rfl) (T_ldE D (lv := .v _) (nn := 0) (upd := []) rfl rfl rfl rfl rfl (by first | assumption | omega | (simp; omega) | (have k := hj (by omega); omega) | (have k := hlj (by omega); omega)) rfl rfl rfl rfl) rfl ?_
    first | refine k_op0 (d := 31) (b := 201) (j' := 9) rfl rfl rfl rfl (.plain rfl) (T_indexAddr D rfl rfl rfl rfl rfl rfl rfl rfl (by first | assumption | omega | (simp; omega) | (have k := hj (by omega); omega) | (have k := hlj (by omega); omega))) rfl ?_ | refine k_op0 (d := 31) (b := 201) (j' := 9) rfl rfl rfl rfl (.plain rfl) (T_indexAddrZ D rfl rfl rfl rfl rfl rfl rfl rfl (by first | assumption | omega | (simp; omega) | (have k := hj (by omega); omega) | (have k := hlj (by omega); omega)) (by first | assumption | omega | (simp; omega) | (have k := hj (by omega); omega) | (have k := hlj (by omega); omega))) rfl ?_
    refine k_op1 (d := 32) (b := 217) (j' := 10) rfl rfl rfl rfl (.plain rfl) (T_ldEA D (l := [.r 217, .v _, .v _, .v _, .v _]) (nn := 1) (upd := [(217, .fz 8 _)]) rfl rfl rfl rfl rfl (by first | assumption | omega | (simp; omega) | (have k := hj (by omega); omega) | (have k := hlj (by omega); omega)) rfl rfl rfl rfl rfl) rfl ?_
    refine k_opn (d := 9) (b := 233) (j' := 11) rfl rfl rfl rfl (.plain rfl) (T_nilbox [(70, 8)] (T_alloc D rfl rfl rfl) rfl (.cons (.nil rfl) <| .cons (.same _) <| .cons (.same _) <| .cons (.same _) <| .cons (.same _) <| .nil) (upd' := [(233, .box 72 [.r 234, .v (.int .i64 0), .v (.int .i64 0), .v (.int .i64 0), .v (.int .i64 0)]), (234, .row 70 8 (List.map eTac ([] : List (GTac))))]) (nn' := 2) rfl rfl) rfl ?_
    refine k_st1 (b := 249) (j' := 12) rfl rfl rfl rfl (.plain rfl) (T_stB D (cs' := [_, _, _, _, _]) rfl rfl rfl rfl flat_agg rfl rfl (Nat.le_of_ble_eq_true rfl) rfl) rfl ?_
    refine k_done rfl ?_
    refine ⟨rfl, ?_⟩
    refine thenK_n ?_
    refine W_seq ?_
    refine W_anyK (b' := 425) rfl rfl rfl ?_
    refine k_op0 (d := 33) (b := 265) (j' := 1) rfl rfl rfl rfl (.plain rfl) (T_load_bA D (l := [_, _]) rfl rfl rfl rfl rfl rfl rfl) rfl ?_
    refine k_op0 (d := 34) (b := 281) (j' := 2) rfl rfl rfl rfl (.plain rfl) (T_move rfl rfl) rfl ?_
    refine k_op1 (d := 35) (b := 297) (j' := 3) rfl rfl rfl rfl (.plain rfl) (T_call (lvs := [_, _]) (L := [(1, 1), (2, 41)]) (lv := .r 297) (upd := [(297, .fz 8 _)]) (nn := 1) false (instrs_spec _ _ ⟨by have := hj (by omega); omega, fun i h => (hj (by omega)).2.2 _ (getD_mem h)⟩ (instrs_small hb hc (hj (by omega)).2.1)) body70 rfl rfl rfl rfl (.fz rfl (.fz rfl (.nil))) rfl (.inl rfl) rfl rfl rfl) rfl ?_
    refine k_op0 (d := 36) (b := 313) (j' := 4) rfl rfl rfl rfl (.plain rfl) (T_fa D (m := 1) rfl rfl rfl rfl rfl rfl) rfl ?_
    refine k_op0 (d := 37) (b := 329) (j' := 5) rfl rfl rfl rfl (.plain rfl) (T_load_b D rfl rfl rfl rfl rfl rfl) rfl ?_
    refine k_op0 (d := 38) (b := 345) (j' := 6) rfl rfl rfl rfl (.plain rfl) (T_fa D (m := 2) rfl rfl rfl rfl rfl rfl) rfl ?_
    refine k_op0 (d := 39) (b := 361) (j' := 7) rfl rfl rfl rfl (.plain rfl) (T_load_b D rfl rfl rfl rfl rfl rfl) rfl ?_
    refine k_op0 (d := 40) (b := 377) (j' := 8) rfl rfl rfl rfl (.plain rfl) (T_build D (l := [_, _, _, _, _]) rfl rfl rfl rfl (.cons rfl (flat_sl rfl) (.cons rfl (flat_v rfl) (.cons rfl (flat_v rfl) (.nil)))) rfl rfl) rfl ?_
    refine k_opn (d := 10) (b := 393) (j' := 9) rfl rfl rfl rfl (.plain rfl) (T_nilbox [(70, 8)] (T_alloc D rfl rfl rfl) rfl (.cons (.nil rfl) <| .cons (.same _) <| .cons (.same _) <| .cons (.same _) <| .cons (.same _) <| .nil) (upd' := [(393, .box 72 [.r 394, .v (.int .i64 0), .v (.int .i64 0), .v (.int .i64 0), .v (.int .i64 0)]), (394, .row 70 8 (List.map eTac ([] : List (GTac))))]) (nn' := 2) rfl rfl) rfl ?_
    refine k_st1 (b := 409) (j' := 10) rfl rfl rfl rfl (.plain rfl) (T_stB D (cs' := [_, _, _, _, _]) rfl rfl rfl rfl flat_agg rfl rfl (Nat.le_of_ble_eq_true rfl) rfl) rfl ?_
    refine k_done rfl ?_
    refine ⟨rfl, ?_⟩
    refine thenK_n ?_
    refine W_seq ?_
    refine W_seq ?_
    refine W_seqK (b' := 473) rfl rfl ?_
    refine k_op0 (d := 41) (b := 425) (j' := 1) rfl rfl rfl rfl (.plain rfl) (T_fa D (m := 1) rfl rfl rfl rfl rfl rfl) rfl ?_
    refine k_op0 (d := 42) (b := 441) (j' := 2) rfl rfl rfl rfl (.plain rfl) (T_load_b D rfl rfl rfl rfl rfl rfl) rfl ?_
    refine k_op0 (d := 43) (b := 457) (j' := 3) rfl rfl rfl rfl (.plain rfl) (T_cmp rfl rfl rfl rfl) rfl ?_
    refine k_done rfl ?_
    refine thenK_n ?_
    refine W_cond rfl (fun g2 => ?_) (fun g2 => ?_)
    · have h2 := g2; (try simp only [cmpB, decide_eq_true_eq, decide_eq_false_iff_not, beq_iff_eq, beq_eq_false_iff_ne, bne_iff_ne, ne_eq, bne_eq_false_iff_eq, Bool.not_eq_true', Bool.not_eq_false', Int.not_lt, Int.not_le] at h2)
      refine W_seqK (b' := 569) rfl rfl ?_
      refine k_op0 (d := 44) (b := 473) (j' := 1) rfl rfl rfl rfl (.plain rfl) (T_move rfl rfl) rfl ?_
      refine k_op0 (d := 45) (b := 489) (j' := 2) rfl rfl rfl rfl (.plain rfl) (T_fa D (m := 3) rfl rfl rfl rfl rfl rfl) rfl ?_
      refine k_op0 (d := 46) (b := 505) (j' := 3) rfl rfl rfl rfl (.plain rfl) (T_load_b D rfl rfl rfl rfl rfl rfl) rfl ?_
      refine k_op1 (d := 47) (b := 521) (j' := 4) rfl rfl rfl rfl (.plain rfl) (T_call (lvs := [_]) (L := [(1, 5), (2, 6)]) (lv := .v _) (upd := [(5, .box 30 [.r 6])]) (nn := 0) false (of1_spec (pathsL f) _ (by omega) (fun p h => (hpi p h).1)) body67 rfl rfl rfl rfl (.box rfl (.fz rfl (.nil))) rfl (.inl rfl) rfl rfl rfl) rfl ?_
      refine k_op0 (d := 48) (b := 537) (j' := 5) rfl rfl rfl rfl (.plain rfl) (T_fa D (m := 3) rfl rfl rfl rfl rfl rfl) rfl ?_
      refine k_st1 (b := 553) (j' := 6) rfl rfl rfl rfl (.plain rfl) (T_stB D (cs' := [_, _, _, _, _]) rfl rfl rfl rfl (flat_v rfl) rfl rfl (Nat.le_of_ble_eq_true rfl) rfl) rfl ?_
      refine k_done rfl ?_
      refine thenK_n ?_
      refine W_seq ?_
      refine W_seq ?_
      refine W_seqK (b' := 617) rfl rfl ?_
      refine k_op0 (d := 49) (b := 569) (j' := 1) rfl rfl rfl rfl (.plain rfl) (T_fa D (m := 1) rfl rfl rfl rfl rfl rfl) rfl ?_
      refine k_op0 (d := 50) (b := 585) (j' := 2) rfl rfl rfl rfl (.plain rfl) (T_load_b D rfl rfl rfl rfl rfl rfl) rfl ?_
      refine k_op0 (d := 51) (b := 601) (j' := 3) rfl rfl rfl rfl (.plain rfl) (T_cmp rfl rfl rfl rfl) rfl ?_
      refine k_done rfl ?_
      refine thenK_n ?_
      refine W_cond rfl (fun g3 => ?_) (fun g3 => ?_)
      · have h3 := g3; (try simp only [cmpB, decide_eq_true_eq, decide_eq_false_iff_not, beq_iff_eq, beq_eq_false_iff_ne, bne_iff_ne, ne_eq, bne_eq_false_iff_eq, Bool.not_eq_true', Bool.not_eq_false', Int.not_lt, Int.not_le] at h3)
        refine W_seqK (b' := 713) rfl rfl ?_
        refine k_op0 (d := 52) (b := 617) (j' := 1) rfl rfl rfl rfl (.plain rfl) (T_move rfl rfl) rfl ?_
        refine k_op0 (d := 53) (b := 633) (j' := 2) rfl rfl rfl rfl (.plain rfl) (T_fa D (m := 4) rfl rfl rfl rfl rfl rfl) rfl ?_
        refine k_op0 (d := 54) (b := 649) (j' := 3) rfl rfl rfl rfl (.plain rfl) (T_load_b D rfl rfl rfl rfl rfl rfl) rfl ?_
        refine k_op1 (d := 55) (b := 665) (j' := 4) rfl rfl rfl rfl (.plain rfl) (T_call (lvs := [_]) (L := [(1, 5), (2, 6)]) (lv := .v _) (upd := [(5, .box 30 [.r 6])]) (nn := 0) false (of1_spec (pathsL f) _ (by omega) (fun p h => (hpi p h).1)) body67 rfl rfl rfl rfl (.box rfl (.fz rfl (.nil))) rfl (.inl rfl) rfl rfl rfl) rfl ?_
        refine k_op0 (d := 56) (b := 681) (j' := 5) rfl rfl rfl rfl (.plain rfl) (T_fa D (m := 4) rfl rfl rfl rfl rfl rfl) rfl ?_
        refine k_st1 (b := 697) (j' := 6) rfl rfl rfl rfl (.plain rfl) (T_stB D (cs' := [_, _, _, _, _]) rfl rfl rfl rfl (flat_v rfl) rfl rfl (Nat.le_of_ble_eq_true rfl) rfl) rfl ?_
        refine k_done rfl ?_
        refine thenK_n ?_
        refine W_seqK (b' := 825) rfl rfl ?_
        refine k_op0 (d := 57) (b := 713) (j' := 1) rfl rfl rfl rfl (.plain rfl) (T_fa D (m := 1) rfl rfl rfl rfl rfl rfl) rfl ?_
        refine k_op0 (d := 58) (b := 729) (j' := 2) rfl rfl rfl rfl (.plain rfl) (T_load_b D rfl rfl rfl rfl rfl rfl) rfl ?_
        refine k_op0 (d := 59) (b := 745) (j' := 3) rfl rfl rfl rfl (.plain rfl) (T_load_bA D (l := [_, _, _, _, _]) rfl rfl rfl rfl rfl rfl rfl) rfl ?_
        refine k_op1 (d := 60) (b := 761) (j' := 4) rfl rfl rfl rfl (.plain rfl) (T_bs D (ys := [⟨_, _, _, _, _⟩]) (enc := eBlock) (l := [_, _, _, _, _]) rfl rfl rfl rfl rfl rfl (.cons rfl flat_agg (.nil)) rfl rfl rfl rfl (.fz rfl (.v rfl (.v rfl (.v rfl (.v rfl (.nil)))))) rfl rfl) rfl ?_
        refine k_opn (d := 61) (b := 777) (j' := 5) rfl rfl rfl rfl (.plain rfl) (T_append D rfl rfl rfl rfl rfl rfl rfl rfl rfl rfl rfl rfl (by (try simp only [ty72]); first | assumption | omega | (simp; omega) | (have k := hj (by omega); omega) | (have k := hlj (by omega); omega)) (by (try simp only [ty72]); first | assumption | omega | (simp; omega) | (have k := hj (by omega); omega) | (have k := hlj (by omega); omega))) rfl ?_
        refine k_op0 (d := 62) (b := 793) (j' := 6) rfl rfl rfl rfl (.plain rfl) (T_fa D (m := 1) rfl rfl rfl rfl rfl rfl) rfl ?_
        refine k_st1 (b := 809) (j' := 7) rfl rfl rfl rfl (.plain rfl) (T_stB D (cs' := [_, _]) rfl rfl rfl rfl (flat_sl rfl) rfl rfl (Nat.le_of_ble_eq_true rfl) rfl) rfl ?_
        refine k_done rfl ?_
        refine blockK_n ?_
        refine thenK_n ?_
        refine W_seqK (b' := 857) rfl rfl ?_
        refine k_op0 (d := 63) (b := 825) (j' := 1) rfl rfl rfl rfl (.plain rfl) (T_add64 rfl rfl rfl (by first | assumption | omega | (simp; omega) | (have k := hj (by omega); omega) | (have k := hlj (by omega); omega))) rfl ?_
        refine k_op0 (d := 19) (b := 841) (j' := 2) rfl rfl rfl rfl (.plain rfl) (T_move rfl rfl) rfl ?_
        refine k_done rfl ?_
        refine thenK_n ?_
        refine ⟨j + 1, by (try dsimp only); omega, by (try dsimp only); omega, ?_⟩
        exact ⟨[(2, 2), (3, 3), (4, 4), (5, 5), (6, 6), (7, 7), (8, 777)], .same rfl rfl (.same rfl rfl (.same rfl rfl (.same rfl rfl (.same rfl rfl (.same rfl rfl (.eq rfl (.eq rfl (.nil) (by first | rfl | (exfalso; omega) | (refine tidy_step (by omega) (newBlock_eq rfl rfl rfl ?_ ?_) <;> first | exact (if_pos (by assumption)).symm | exact (if_neg (by assumption)).symm))) (by first | rfl | (exfalso; omega) | (refine tidy_step (by omega) (newBlock_eq rfl rfl rfl ?_ ?_) <;> first | exact (if_pos (by assumption)).symm | exact (if_neg (by assumption)).symm)))))))), .fzE rfl (.box (by first | rfl | (exfalso; omega) | (refine tidy_step (by omega) (newBlock_eq rfl rfl rfl ?_ ?_) <;> first | exact (if_pos (by assumption)).symm | exact (if_neg (by assumption)).symm)) (.box (by first | rfl | (exfalso; omega) | (refine tidy_step (by omega) (newBlock_eq rfl rfl rfl ?_ ?_) <;> first | exact (if_pos (by assumption)).symm | exact (if_neg (by assumption)).symm)) (.rowE rfl (.box (by first | rfl | (exfalso; omega) | (refine tidy_step (by omega) (newBlock_eq rfl rfl rfl ?_ ?_) <;> first | exact (if_pos (by assumption)).symm | exact (if_neg (by assumption)).symm)) (.fzE rfl (.box (by first | rfl | (exfalso; omega) | (refine tidy_step (by omega) (newBlock_eq rfl rfl rfl ?_ ?_) <;> first | exact (if_pos (by assumption)).symm | exact (if_neg (by assumption)).symm)) (.rowE rfl (.nil) (by first | rfl | (exfalso; omega) | (refine tidy_step (by omega) (newBlock_eq rfl rfl rfl ?_ ?_) <;> first | exact (if_pos (by assumption)).symm | exact (if_neg (by assumption)).symm)))) (by first | rfl | (exfalso; omega) | (refine tidy_step (by omega) (newBlock_eq rfl rfl rfl ?_ ?_) <;> first | exact (if_pos (by assumption)).symm | exact (if_neg (by assumption)).symm)))) (by first | rfl | (exfalso; omega) | (refine tidy_step (by omega) (newBlock_eq rfl rfl rfl ?_ ?_) <;> first | exact (if_pos (by assumption)).symm | exact (if_neg (by assumption)).symm))))) (by first | rfl | (exfalso; omega) | (refine tidy_step (by omega) (newBlock_eq rfl rfl rfl ?_ ?_) <;> first | exact (if_pos (by assumption)).symm | exact (if_neg (by assumption)).symm)), rfl⟩
      · have h3 := g3; (try simp only [cmpB, decide_eq_true_eq, decide_eq_false_iff_not, beq_iff_eq, beq_eq_false_iff_ne, bne_iff_ne, ne_eq, bne_eq_false_iff_eq, Bool.not_eq_true', Bool.not_eq_false', Int.not_lt, Int.not_le] at h3)
        refine W_skip ?_
        refine thenK_n ?_
        refine W_seqK (b' := 729) rfl rfl ?_
        refine k_op0 (d := 57) (b := 617) (j' := 1) rfl rfl rfl rfl (.plain rfl) (T_fa D (m := 1) rfl rfl rfl rfl rfl rfl) rfl ?_
        refine k_op0 (d := 58) (b := 633) (j' := 2) rfl rfl rfl rfl (.plain rfl) (T_load_b D rfl rfl rfl rfl rfl rfl) rfl ?_
        refine k_op0 (d := 59) (b := 649) (j' := 3) rfl rfl rfl rfl (.plain rfl) (T_load_bA D (l := [_, _, _, _, _]) rfl rfl rfl rfl rfl rfl rfl) rfl ?_
        refine k_op1 (d := 60) (b := 665) (j' := 4) rfl rfl rfl rfl (.plain rfl) (T_bs D (ys := [⟨_, _, _, _, _⟩]) (enc := eBlock) (l := [_, _, _, _, _]) rfl rfl rfl rfl rfl rfl (.cons rfl flat_agg (.nil)) rfl rfl rfl rfl (.fz rfl (.v rfl (.v rfl (.v rfl (.v rfl (.nil)))))) rfl rfl) rfl ?_
        refine k_opn (d := 61) (b := 681) (j' := 5) rfl rfl rfl rfl (.plain rfl) (T_append D rfl rfl rfl rfl rfl rfl rfl rfl rfl rfl rfl rfl (by (try simp only [ty72]); first | assumption | omega | (simp; omega) | (have k := hj (by omega); omega) | (have k := hlj (by omega); omega)) (by (try simp only [ty72]); first | assumption | omega | (simp; omega) | (have k := hj (by omega); omega) | (have k := hlj (by omega); omega))) rfl ?_
        refine k_op0 (d := 62) (b := 697) (j' := 6) rfl rfl rfl rfl (.plain rfl) (T_fa D (m := 1) rfl rfl rfl rfl rfl rfl) rfl ?_
        refine k_st1 (b := 713) (j' := 7) rfl rfl rfl rfl (.plain rfl) (T_stB D (cs' := [_, _]) rfl rfl rfl rfl (flat_sl rfl) rfl rfl (Nat.le_of_ble_eq_true rfl) rfl) rfl ?_
        refine k_done rfl ?_
        refine blockK_n ?_
        refine thenK_n ?_
        refine W_seqK (b' := 761) rfl rfl ?_
        refine k_op0 (d := 63) (b := 729) (j' := 1) rfl rfl rfl rfl (.plain rfl) (T_add64 rfl rfl rfl (by first | assumption | omega | (simp; omega) | (have k := hj (by omega); omega) | (have k := hlj (by omega); omega))) rfl ?_
        refine k_op0 (d := 19) (b := 745) (j' := 2) rfl rfl rfl rfl (.plain rfl) (T_move rfl rfl) rfl ?_
        refine k_done rfl ?_
        refine thenK_n ?_
        refine ⟨j + 1, by (try dsimp only); omega, by (try dsimp only); omega, ?_⟩
        exact ⟨[(2, 2), (3, 3), (4, 4), (5, 5), (6, 6), (7, 7), (8, 681)], .same rfl rfl (.same rfl rfl (.same rfl rfl (.same rfl rfl (.same rfl rfl (.same rfl rfl (.eq rfl (.eq rfl (.nil) (by first | rfl | (exfalso; omega) | (refine tidy_step (by omega) (newBlock_eq rfl rfl rfl ?_ ?_) <;> first | exact (if_pos (by assumption)).symm | exact (if_neg (by assumption)).symm))) (by first | rfl | (exfalso; omega) | (refine tidy_step (by omega) (newBlock_eq rfl rfl rfl ?_ ?_) <;> first | exact (if_pos (by assumption)).symm | exact (if_neg (by assumption)).symm)))))))), .fzE rfl (.box (by first | rfl | (exfalso; omega) | (refine tidy_step (by omega) (newBlock_eq rfl rfl rfl ?_ ?_) <;> first | exact (if_pos (by assumption)).symm | exact (if_neg (by assumption)).symm)) (.box (by first | rfl | (exfalso; omega) | (refine tidy_step (by omega) (newBlock_eq rfl rfl rfl ?_ ?_) <;> first | exact (if_pos (by assumption)).symm | exact (if_neg (by assumption)).symm)) (.rowE rfl (.box (by first | rfl | (exfalso; omega) | (refine tidy_step (by omega) (newBlock_eq rfl rfl rfl ?_ ?_) <;> first | exact (if_pos (by assumption)).symm | exact (if_neg (by assumption)).symm)) (.fzE rfl (.box (by first | rfl | (exfalso; omega) | (refine tidy_step (by omega) (newBlock_eq rfl rfl rfl ?_ ?_) <;> first | exact (if_pos (by assumption)).symm | exact (if_neg (by assumption)).symm)) (.rowE rfl (.nil) (by first | rfl | (exfalso; omega) | (refine tidy_step (by omega) (newBlock_eq rfl rfl rfl ?_ ?_) <;> first | exact (if_pos (by assumption)).symm | exact (if_neg (by assumption)).symm)))) (by first | rfl | (exfalso; omega) | (refine tidy_step (by omega) (newBlock_eq rfl rfl rfl ?_ ?_) <;> first | exact (if_pos (by assumption)).symm | exact (if_neg (by assumption)).symm)))) (by first | rfl | (exfalso; omega) | (refine tidy_step (by omega) (newBlock_eq rfl rfl rfl ?_ ?_) <;> first | exact (if_pos (by assumption)).symm | exact (if_neg (by assumption)).symm))))) (by first | rfl | (exfalso; omega) | (refine tidy_step (by omega) (newBlock_eq rfl rfl rfl ?_ ?_) <;> first | exact (if_pos (by assumption)).symm | exact (if_neg (by assumption)).symm)), rfl⟩
    · have h2 := g2; (try simp only [cmpB, decide_eq_true_eq, decide_eq_false_iff_not, beq_iff_eq, beq_eq_false_iff_ne, bne_iff_ne, ne_eq, bne_eq_false_iff_eq, Bool.not_eq_true', Bool.not_eq_false', Int.not_lt, Int.not_le] at h2)
      refine W_skip ?_
      refine thenK_n ?_
      refine W_seq ?_
      refine W_seq ?_
      refine W_seqK (b' := 521) rfl rfl ?_
      refine k_op0 (d := 49) (b := 473) (j' := 1) rfl rfl rfl rfl (.plain rfl) (T_fa D (m := 1) rfl rfl rfl rfl rfl rfl) rfl ?_
      refine k_op0 (d := 50) (b := 489) (j' := 2) rfl rfl rfl rfl (.plain rfl) (T_load_b D rfl rfl rfl rfl rfl rfl) rfl ?_
      refine k_op0 (d := 51) (b := 505) (j' := 3) rfl rfl rfl rfl (.plain rfl) (T_cmp rfl rfl rfl rfl) rfl ?_
      refine k_done rfl ?_
      refine thenK_n ?_
      refine W_cond rfl (fun g4 => ?_) (fun g4 => ?_)
      · have h4 := g4; (try simp only [cmpB, decide_eq_true_eq, decide_eq_false_iff_not, beq_iff_eq, beq_eq_false_iff_ne, bne_iff_ne, ne_eq, bne_eq_false_iff_eq, Bool.not_eq_true', Bool.not_eq_false', Int.not_lt, Int.not_le] at h4)
        refine W_seqK (b' := 617) rfl rfl ?_
        refine k_op0 (d := 52) (b := 521) (j' := 1) rfl rfl rfl rfl (.plain rfl) (T_move rfl rfl) rfl ?_
        refine k_op0 (d := 53) (b := 537) (j' := 2) rfl rfl rfl rfl (.plain rfl) (T_fa D (m := 4) rfl rfl rfl rfl rfl rfl) rfl ?_
        refine k_op0 (d := 54) (b := 553) (j' := 3) rfl rfl rfl rfl (.plain rfl) (T_load_b D rfl rfl rfl rfl rfl rfl) rfl ?_
        refine k_op1 (d := 55) (b := 569) (j' := 4) rfl rfl rfl rfl (.plain rfl) (T_call (lvs := [_]) (L := [(1, 5), (2, 6)]) (lv := .v _) (upd := [(5, .box 30 [.r 6])]) (nn := 0) false (of1_spec (pathsL f) _ (by omega) (fun p h => (hpi p h).1)) body67 rfl rfl rfl rfl (.box rfl (.fz rfl (.nil))) rfl (.inl rfl) rfl rfl rfl) rfl ?_
        refine k_op0 (d := 56) (b := 585) (j' := 5) rfl rfl rfl rfl (.plain rfl) (T_fa D (m := 4) rfl rfl rfl rfl rfl rfl) rfl ?_
        refine k_st1 (b := 601) (j' := 6) rfl rfl rfl rfl (.plain rfl) (T_stB D (cs' := [_, _, _, _, _]) rfl rfl rfl rfl (flat_v rfl) rfl rfl (Nat.le_of_ble_eq_true rfl) rfl) rfl ?_
        refine k_done rfl ?_
        refine thenK_n ?_
        refine W_seqK (b' := 729) rfl rfl ?_
        refine k_op0 (d := 57) (b := 617) (j' := 1) rfl rfl rfl rfl (.plain rfl) (T_fa D (m := 1) rfl rfl rfl rfl rfl rfl) rfl ?_
        refine k_op0 (d := 58) (b := 633) (j' := 2) rfl rfl rfl rfl (.plain rfl) (T_load_b D rfl rfl rfl rfl rfl rfl) rfl ?_
        refine k_op0 (d := 59) (b := 649) (j' := 3) rfl rfl rfl rfl (.plain rfl) (T_load_bA D (l := [_, _, _, _, _]) rfl rfl rfl rfl rfl rfl rfl) rfl ?_
        refine k_op1 (d := 60) (b := 665) (j' := 4) rfl rfl rfl rfl (.plain rfl) (T_bs D (ys := [⟨_, _, _, _, _⟩]) (enc := eBlock) (l := [_, _, _, _, _]) rfl rfl rfl rfl rfl rfl (.cons rfl flat_agg (.nil)) rfl rfl rfl rfl (.fz rfl (.v rfl (.v rfl (.v rfl (.v rfl (.nil)))))) rfl rfl) rfl ?_
        refine k_opn (d := 61) (b := 681) (j' := 5) rfl rfl rfl rfl (.plain rfl) (T_append D rfl rfl rfl rfl rfl rfl rfl rfl rfl rfl rfl rfl (by (try simp only [ty72]); first | assumption | omega | (simp; omega) | (have k := hj (by omega); omega) | (have k := hlj (by omega); omega)) (by (try simp only [ty72]); first | assumption | omega | (simp; omega) | (have k := hj (by omega); omega) | (have k := hlj (by omega); omega))) rfl ?_
        refine k_op0 (d := 62) (b := 697) (j' := 6) rfl rfl rfl rfl (.plain rfl) (T_fa D (m := 1) rfl rfl rfl rfl rfl rfl) rfl ?_
        refine k_st1 (b := 713) (j' := 7) rfl rfl rfl rfl (.plain rfl) (T_stB D (cs' := [_, _]) rfl rfl rfl rfl (flat_sl rfl) rfl rfl (Nat.le_of_ble_eq_true rfl) rfl) rfl ?_
        refine k_done rfl ?_
        refine blockK_n ?_
        refine thenK_n ?_
        refine W_seqK (b' := 761) rfl rfl ?_
        refine k_op0 (d := 63) (b := 729) (j' := 1) rfl rfl rfl rfl (.plain rfl) (T_add64 rfl rfl rfl (by first | assumption | omega | (simp; omega) | (have k := hj (by omega); omega) | (have k := hlj (by omega); omega))) rfl ?_
        refine k_op0 (d := 19) (b := 745) (j' := 2) rfl rfl rfl rfl (.plain rfl) (T_move rfl rfl) rfl ?_
        refine k_done rfl ?_
        refine thenK_n ?_
        refine ⟨j + 1, by (try dsimp only); omega, by (try dsimp only); omega, ?_⟩
        exact ⟨[(2, 2), (3, 3), (4, 4), (5, 5), (6, 6), (7, 7), (8, 681)], .same rfl rfl (.same rfl rfl (.same rfl rfl (.same rfl rfl (.same rfl rfl (.same rfl rfl (.eq rfl (.eq rfl (.nil) (by first | rfl | (exfalso; omega) | (refine tidy_step (by omega) (newBlock_eq rfl rfl rfl ?_ ?_) <;> first | exact (if_pos (by assumption)).symm | exact (if_neg (by assumption)).symm))) (by first | rfl | (exfalso; omega) | (refine tidy_step (by omega) (newBlock_eq rfl rfl rfl ?_ ?_) <;> first | exact (if_pos (by assumption)).symm | exact (if_neg (by assumption)).symm)))))))), .fzE rfl (.box (by first | rfl | (exfalso; omega) | (refine tidy_step (by omega) (newBlock_eq rfl rfl rfl ?_ ?_) <;> first | exact (if_pos (by assumption)).symm | exact (if_neg (by assumption)).symm)) (.box (by first | rfl | (exfalso; omega) | (refine tidy_step (by omega) (newBlock_eq rfl rfl rfl ?_ ?_) <;> first | exact (if_pos (by assumption)).symm | exact (if_neg (by assumption)).symm)) (.rowE rfl (.box (by first | rfl | (exfalso; omega) | (refine tidy_step (by omega) (newBlock_eq rfl rfl rfl ?_ ?_) <;> first | exact (if_pos (by assumption)).symm | exact (if_neg (by assumption)).symm)) (.fzE rfl (.box (by first | rfl | (exfalso; omega) | (refine tidy_step (by omega) (newBlock_eq rfl rfl rfl ?_ ?_) <;> first | exact (if_pos (by assumption)).symm | exact (if_neg (by assumption)).symm)) (.rowE rfl (.nil) (by first | rfl | (exfalso; omega) | (refine tidy_step (by omega) (newBlock_eq rfl rfl rfl ?_ ?_) <;> first | exact (if_pos (by assumption)).symm | exact (if_neg (by assumption)).symm)))) (by first | rfl | (exfalso; omega) | (refine tidy_step (by omega) (newBlock_eq rfl rfl rfl ?_ ?_) <;> first | exact (if_pos (by assumption)).symm | exact (if_neg (by assumption)).symm)))) (by first | rfl | (exfalso; omega) | (refine tidy_step (by omega) (newBlock_eq rfl rfl rfl ?_ ?_) <;> first | exact (if_pos (by assumption)).symm | exact (if_neg (by assumption)).symm))))) (by first | rfl | (exfalso; omega) | (refine tidy_step (by omega) (newBlock_eq rfl rfl rfl ?_ ?_) <;> first | exact (if_pos (by assumption)).symm | exact (if_neg (by assumption)).symm)), rfl⟩
      · have h4 := g4; (try simp only [cmpB, decide_eq_true_eq, decide_eq_false_iff_not, beq_iff_eq, beq_eq_false_iff_ne, bne_iff_ne, ne_eq, bne_eq_false_iff_eq, Bool.not_eq_true', Bool.not_eq_false', Int.not_lt, Int.not_le] at h4)
        refine W_skip ?_
        refine thenK_n ?_
        refine W_seqK (b' := 633) rfl rfl ?_
        refine k_op0 (d := 57) (b := 521) (j' := 1) rfl rfl rfl rfl (.plain rfl) (T_fa D (m := 1) rfl rfl rfl rfl rfl rfl) rfl ?_
        refine k_op0 (d := 58) (b := 537) (j' := 2) rfl rfl rfl rfl (.plain rfl) (T_load_b D rfl rfl rfl rfl rfl rfl) rfl ?_
        refine k_op0 (d := 59) (b := 553) (j' := 3) rfl rfl rfl rfl (.plain rfl) (T_load_bA D (l := [_, _, _, _, _]) rfl rfl rfl rfl rfl rfl rfl) rfl ?_
        refine k_op1 (d := 60) (b := 569) (j' := 4) rfl rfl rfl rfl (.plain rfl) (T_bs D (ys := [⟨_, _, _, _, _⟩]) (enc := eBlock) (l := [_, _, _, _, _]) rfl rfl rfl rfl rfl rfl (.cons rfl flat_agg (.nil)) rfl rfl rfl rfl (.fz rfl (.v rfl (.v rfl (.v rfl (.v rfl (.nil)))))) rfl rfl) rfl ?_
        refine k_opn (d := 61) (b := 585) (j' := 5) rfl rfl rfl rfl (.plain rfl) (T_append D rfl rfl rfl rfl rfl rfl rfl rfl rfl rfl rfl rfl (by (try simp only [ty72]); first | assumption | omega | (simp; omega) | (have k := hj (by omega); omega) | (have k := hlj (by omega); omega)) (by (try simp only [ty72]); first | assumption | omega | (simp; omega) | (have k := hj (by omega); omega) | (have k := hlj (by omega); omega))) rfl ?_
        refine k_op0 (d := 62) (b := 601) (j' := 6) rfl rfl rfl rfl (.plain rfl) (T_fa D (m := 1) rfl rfl rfl rfl rfl rfl) rfl ?_
        refine k_st1 (b := 617) (j' := 7) rfl rfl rfl rfl (.plain rfl) (T_stB D (cs' := [_, _]) rfl rfl rfl rfl (flat_sl rfl) rfl rfl (Nat.le_of_ble_eq_true rfl) rfl) rfl ?_
        refine k_done rfl ?_
        refine blockK_n ?_
        refine thenK_n ?_
        refine W_seqK (b' := 665) rfl rfl ?_
        refine k_op0 (d := 63) (b := 633) (j' := 1) rfl rfl rfl rfl (.plain rfl) (T_add64 rfl rfl rfl (by first | assumption | omega | (simp; omega) | (have k := hj (by omega); omega) | (have k := hlj (by omega); omega))) rfl ?_
        refine k_op0 (d := 19) (b := 649) (j' := 2) rfl rfl rfl rfl (.plain rfl) (T_move rfl rfl) rfl ?_
        refine k_done rfl ?_
        refine thenK_n ?_
        refine ⟨j + 1, by (try dsimp only); omega, by (try dsimp only); omega, ?_⟩
        exact ⟨[(2, 2), (3, 3), (4, 4), (5, 5), (6, 6), (7, 7), (8, 585)], .same rfl rfl (.same rfl rfl (.same rfl rfl (.same rfl rfl (.same rfl rfl (.same rfl rfl (.eq rfl (.eq rfl (.nil) (by first | rfl | (exfalso; omega) | (refine tidy_step (by omega) (newBlock_eq rfl rfl rfl ?_ ?_) <;> first | exact (if_pos (by assumption)).symm | exact (if_neg (by assumption)).symm))) (by first | rfl | (exfalso; omega) | (refine tidy_step (by omega) (newBlock_eq rfl rfl rfl ?_ ?_) <;> first | exact (if_pos (by assumption)).symm | exact (if_neg (by assumption)).symm)))))))), .fzE rfl (.box (by first | rfl | (exfalso; omega) | (refine tidy_step (by omega) (newBlock_eq rfl rfl rfl ?_ ?_) <;> first | exact (if_pos (by assumption)).symm | exact (if_neg (by assumption)).symm)) (.box (by first | rfl | (exfalso; omega) | (refine tidy_step (by omega) (newBlock_eq rfl rfl rfl ?_ ?_) <;> first | exact (if_pos (by assumption)).symm | exact (if_neg (by assumption)).symm)) (.rowE rfl (.box (by first | rfl | (exfalso; omega) | (refine tidy_step (by omega) (newBlock_eq rfl rfl rfl ?_ ?_) <;> first | exact (if_pos (by assumption)).symm | exact (if_neg (by assumption)).symm)) (.fzE rfl (.box (by first | rfl | (exfalso; omega) | (refine tidy_step (by omega) (newBlock_eq rfl rfl rfl ?_ ?_) <;> first | exact (if_pos (by assumption)).symm | exact (if_neg (by assumption)).symm)) (.rowE rfl (.nil) (by first | rfl | (exfalso; omega) | (refine tidy_step (by omega) (newBlock_eq rfl rfl rfl ?_ ?_) <;> first | exact (if_pos (by assumption)).symm | exact (if_neg (by assumption)).symm)))) (by first | rfl | (exfalso; omega) | (refine tidy_step (by omega) (newBlock_eq rfl rfl rfl ?_ ?_) <;> first | exact (if_pos (by assumption)).symm | exact (if_neg (by assumption)).symm)))) (by first | rfl | (exfalso; omega) | (refine tidy_step (by omega) (newBlock_eq rfl rfl rfl ?_ ?_) <;> first | exact (if_pos (by assumption)).symm | exact (if_neg (by assumption)).symm))))) (by first | rfl | (exfalso; omega) | (refine tidy_step (by omega) (newBlock_eq rfl rfl rfl ?_ ?_) <;> first | exact (if_pos (by assumption)).symm | exact (if_neg (by assumption)).symm)), rfl⟩
  · have h1 := g1; (try simp only [cmpB, decide_eq_true_eq, decide_eq_false_iff_not, beq_iff_eq, beq_eq_false_iff_ne, bne_iff_ne, ne_eq, bne_eq_false_iff_eq, Bool.not_eq_true', Bool.not_eq_false', Int.not_lt, Int.not_le] at h1)
    refine W_exit ?_
    refine thenK_e ?_
    refine thenK_e ?_
    refine blockK_hit ?_
    refine thenK_n ?_
    refine W_seq ?_
    refine W_anyK (b' := 89) rfl rfl rfl ?_
    refine k_op0 (d := 64) (b := 25) (j' := 1) rfl rfl rfl rfl (.plain rfl) (T_load_bA D (l := [_, _]) rfl rfl rfl rfl rfl rfl rfl) rfl ?_
    refine k_op0 (d := 65) (b := 41) (j' := 2) rfl rfl rfl rfl (.plain rfl) (T_load_b D rfl rfl rfl rfl rfl rfl) rfl ?_
    refine k_st1 (b := 57) (j' := 3) rfl rfl rfl rfl (.plain rfl) (T_stB D (cs' := [_, _]) rfl rfl rfl rfl flat_agg rfl rfl (Nat.le_of_ble_eq_true rfl) rfl) rfl ?_
    refine k_op0 (d := 3) (b := 73) (j' := 4) rfl rfl rfl rfl (.plain rfl) (T_assign rfl rfl) rfl ?_
    refine k_done rfl ?_
    refine ⟨rfl, ?_⟩
    refine thenK_n ?_
    refine W_ret ?_
    -- end 0
    exact .mk [(2, 8), (3, 6)] (.inr rfl) (.cellA rfl rfl rfl rfl rfl (.tmp rfl (.nil))) (by first | rfl | (have e : j = (pathsL f).length := (by omega); rw [e, List.take_of_length_le (Nat.le_refl _)]; rfl)) (.rowE rfl (.fzE rfl (.nil) (by first | rfl | (have e : j = (pathsL f).length := (by omega); rw [e, List.take_of_length_le (Nat.le_refl _)]; rfl))) (by first | rfl | (have e : j = (pathsL f).length := (by omega); rw [e, List.take_of_length_le (Nat.le_refl _)]; rfl))) rfl
end Lg
end Go.Proofs.Ytpfhmodjjljpjaa

namespace Go.Proofs.Ytpfhmodjjljpjaa
open Go.RowKit
namespace Lg

theorem HR.lk {w0 w : World} {M : Fp} {U : Nat → Prop} {ρ : Nat → Value} {own : Nat → Option Nat} {o o' : List (Nat × Ob)} (h : HR w0 M U ρ own o w) (hl : ∀ i, o'.lookup i = o.lookup i) : HR w0 M U ρ own o' w :=
  ⟨fun i b hi => h.ob i b (by rw [← hl]; exact hi), h.gr, h.fr, by rw [hl]; exact h.z, h.z0, h.ag⟩
/-- A contract whose last argument is a slice, for the nil slice. -/
theorem spec_nil {P : Program} {f : Nat} {pre : List LV} {b0 sz : Nat} {oc : List (Nat × Ob)} {r : Value} (hs : Spec P f (pre ++ [.r b0]) (b0 + 1) (oc ++ [(b0, .fz sz [])]) (.v r) (b0 + 1) []) (hoc : oc.lookup b0 = none) :
    Spec P f (pre ++ [.v (.slice none 0 0)]) b0 oc (.v r) b0 [] := by
  intro w0 M ρ own w hM hr hu
  have hnil : Rd w (fun k => own k = none) (.sl sz []) (.slice none 0 0) := .sl sz [] none 0 (fun _ _ => undef) (Nat.le_refl _) (Nat.zero_le _) (by simp) (by simp) (by simp) (by simp)
  have hr1 := hr.addFz b0 (Nat.lt_irrefl _) hnil
  have hρ : ∀ i, i < b0 → upd1 ρ b0 (.slice none 0 0) i = ρ i := fun i hi => upd1_other _ _ (by omega)
  have hr2 := (hr1.mono (U' := fun c => c < b0 + 1) (fun i hi => by rcases hi with hi | hi <;> omega)).lk (o' := oc ++ [(b0, .fz sz [])]) (fun i => by
    simp only [lookup_append, List.lookup]
    by_cases hi : i = b0
    · subst hi
      rw [hoc]
      simp
    · have : (i == b0) = false := by simpa using hi
      rw [this]
      cases oc.lookup i <;> rfl)
  have hr3 : HR w0 ⟨M.mt, M.ok, b0 + 1, upd1 ρ b0 (.slice none 0 0)⟩ (fun c => c < b0 + 1) (upd1 ρ b0 (.slice none 0 0)) own (oc ++ [(b0, .fz sz [])]) w :=
    ⟨hr2.ob, hr2.gr, hr2.fr, hr2.z, hr2.z0, fun i hi => ⟨hi, rfl⟩⟩
  have hup : LV.useds (fun c => c < b0) ρ pre := useds_iff.2 (fun x hx => useds_iff.1 hu x (List.mem_append_left _ hx))
  have hup2 : LV.useds (fun c => c < b0 + 1) (upd1 ρ b0 (.slice none 0 0)) pre := useds_mono hρ (fun i hi => by omega) pre hup
  have hu2 : LV.useds (fun c => c < b0 + 1) (upd1 ρ b0 (.slice none 0 0)) (pre ++ [.r b0]) := useds_iff.2 (fun x hx => by
    rcases List.mem_append.1 hx with hx | hx
    · exact useds_iff.1 hup2 x hx
    · simp at hx; subst hx; exact Nat.lt_succ_self _)
  have hv : LV.vals (upd1 ρ b0 (.slice none 0 0)) (pre ++ [.r b0]) = LV.vals ρ (pre ++ [.v (.slice none 0 0)]) := by
    rw [vals_append, vals_append, useds_congr hρ pre hup]
    simp [LV.vals, LV.val, upd1_same]
  have hcall := hs w0 ⟨M.mt, M.ok, b0 + 1, upd1 ρ b0 (.slice none 0 0)⟩ _ own w rfl hr3 hu2
  rw [hv] at hcall
  refine Calls.mono hcall (fun e w' h => ?_)
  obtain ⟨ρ', own', h1, _, h3⟩ := h
  refine ⟨ρ', own', h1, trivial, ⟨fun i b hi => by simp at hi, h3.gr, h3.fr, rfl, by have := hr.z0; exact this, fun i hi => ?_⟩⟩
  have h4 := h3.ag i (show i < b0 + 1 by omega)
  have h5 := hr.ag i hi
  refine ⟨h5.1, h4.2.trans ?_⟩
  show upd1 ρ b0 _ i = _
  rw [hρ i (by omega)]
  exact h5.2
end Lg
end Go.Proofs.Ytpfhmodjjljpjaa

namespace Go.Proofs.Ytpfhmodjjljpjaa
open Go.RowKit
namespace Lg
set_option linter.unusedSimpArgs false
set_option linter.unusedVariables false

/-! ### The fixed example -/
def aF : GFn := ⟨1, [⟨[⟨8, 0, 0, 0, 0, 0, 0, 0⟩], 1, 0, 2, 0⟩, ⟨[], 3, 0, 0, 0⟩, ⟨[⟨9, 0, 0, 0, 0, 0, 0, 0⟩], 3, 0, 0, 0⟩]⟩
def aG : GFn := ⟨1, [⟨[⟨8, 0, 0, 0, 0, 0, 0, 0⟩, ⟨9, 0, 0, 0, 0, 0, 0, 0⟩], 3, 0, 0, 0⟩]⟩
theorem aF_in : InN aF := by unfold InN; decide +kernel
theorem aF_g : tidyG aF = aG := by decide +kernel
theorem aF_p : pathsL aF = [[0, 2]] := by decide +kernel
theorem take_len {f : GFn} {p : List Int} {c : Nat} (h : ∀ b ∈ f.blocks, b.ins.length ≤ 1000) (hp : p.length ≤ 1000000) (j : Nat) : (instrs f (p.take j)).length ≤ 1000000000 := by
  have h1 := instrs_le h (p.take j)
  have h2 : (p.take j).length ≤ 1000000 := by rw [List.length_take]; omega
  have h3 := Nat.mul_le_mul_right 1000 h2
  omega
theorem aI (ps : List (List Int)) (h : ∀ p ∈ ps, p.length ≤ 1000000) : ∀ p ∈ ps, ∀ j, (instrs aF (p.take j)).length ≤ 1000000000 := fun p hp j => take_len (c := 0) (by decide) (h p hp) j
theorem aI1 : ∀ p ∈ pathsL aF, ∀ j, (instrs aF (p.take j)).length ≤ 1000000000 := aI _ (by decide +kernel)
theorem aI2 : ∀ p ∈ [[(0 : Int)]], ∀ j, (instrs aF (p.take j)).length ≤ 1000000000 := aI _ (by decide)
theorem aI3 : ∀ p ∈ ([] : List (List Int)), ∀ j, (instrs aF (p.take j)).length ≤ 1000000000 := aI _ (by decide)
end Lg
end Go.Proofs.Ytpfhmodjjljpjaa

namespace Go.Proofs.Ytpfhmodjjljpjaa
open Go.RowKit
namespace Lg
set_option maxRecDepth 100000
set_option linter.unusedVariables false
set_option linter.unusedSimpArgs false



theorem body24 : (Try.prog.funcs[24]?).map (fun fn => (fn.name == "runtime.NumGoroutine" || fn.body.isNone)) = some false := by kernel_rfl
theorem awake_spec  : Spec Try.prog 24 [] 1 [] (.v (.bool true)) 1 [] := by
  refine spec_of D (fn := Try.f24) rfl rfl (Nat.le_of_ble_eq_true rfl) ?_
  refine W_seq ?_
  refine W_seqK (b' := 17) rfl rfl ?_
  refine k_op0 (d := 0) (b := 1) (j' := 1) rfl rfl rfl rfl (.plain rfl) (T_assign rfl rfl) rfl ?_
  refine k_done rfl ?_
  refine thenK_n ?_
  refine W_seq ?_
  refine W_seqK (b' := 193) rfl rfl ?_
  refine k_op0 (d := 5) (b := 17) (j' := 1) rfl rfl rfl rfl (.plain rfl) (T_build D (l := [_, _, _, _, _, _, _, _]) rfl rfl rfl rfl (.cons rfl (flat_v rfl) (.nil)) rfl rfl) rfl ?_
  refine k_op1 (d := 6) (b := 33) (j' := 2) rfl rfl rfl rfl (.plain rfl) (T_bs D (ys := [⟨_, _, _, _, _, _, _, _⟩]) (enc := eTac) (l := [_, _, _, _, _, _, _, _]) rfl rfl rfl rfl rfl rfl (.cons rfl flat_agg (.nil)) rfl rfl rfl rfl (.v rfl (.v rfl (.v rfl (.v rfl (.v rfl (.v rfl (.v rfl (.v rfl (.nil))))))))) rfl rfl) rfl ?_
  refine k_op0 (d := 7) (b := 49) (j' := 3) rfl rfl rfl rfl (.plain rfl) (T_build D (l := [_, _, _, _, _]) rfl rfl rfl rfl (.cons rfl (flat_sl rfl) (.cons rfl (flat_v rfl) (.cons rfl (flat_v rfl) (.nil)))) rfl rfl) rfl ?_
  refine k_op1 (d := 8) (b := 65) (j' := 4) rfl rfl rfl rfl (.plain rfl) (T_nils [(70, 8)] (T_build D (l := [_, _, _, _, _]) rfl rfl rfl rfl (.cons rfl (flat_v rfl) (.nil)) rfl rfl) rfl (.inl ⟨rfl, rfl⟩) (.cons (.nil rfl) <| .cons (.same _) <| .cons (.same _) <| .cons (.same _) <| .cons (.same _) <| .nil) (lv' := .agg [.r 65, _, _, _, _]) (upd' := [(65, .row 70 8 (List.map eTac ([] : List (GTac))))]) (nn' := 1) rfl rfl) rfl ?_
  refine k_op0 (d := 9) (b := 81) (j' := 5) rfl rfl rfl rfl (.plain rfl) (T_build D (l := [_, _, _, _, _, _, _, _]) rfl rfl rfl rfl (.cons rfl (flat_v rfl) (.nil)) rfl rfl) rfl ?_
  refine k_op1 (d := 10) (b := 97) (j' := 6) rfl rfl rfl rfl (.plain rfl) (T_bs D (ys := [⟨_, _, _, _, _, _, _, _⟩]) (enc := eTac) (l := [_, _, _, _, _, _, _, _]) rfl rfl rfl rfl rfl rfl (.cons rfl flat_agg (.nil)) rfl rfl rfl rfl (.v rfl (.v rfl (.v rfl (.v rfl (.v rfl (.v rfl (.v rfl (.v rfl (.nil))))))))) rfl rfl) rfl ?_
  refine k_op0 (d := 11) (b := 113) (j' := 7) rfl rfl rfl rfl (.plain rfl) (T_build D (l := [_, _, _, _, _]) rfl rfl rfl rfl (.cons rfl (flat_sl rfl) (.cons rfl (flat_v rfl) (.nil))) rfl rfl) rfl ?_
  refine k_opn (d := 12) (b := 129) (j' := 8) rfl rfl rfl rfl (.plain rfl) (T_bs D (ys := [⟨_, _, _, _, _⟩, ⟨_, _, _, _, _⟩, ⟨_, _, _, _, _⟩]) (enc := eBlock) (l := [_, _, _, _, _, _, _, _, _, _, _, _, _, _, _]) rfl rfl rfl rfl rfl rfl (.cons rfl flat_agg (.cons rfl flat_agg (.cons rfl flat_agg (.nil)))) rfl rfl rfl rfl (.row rfl (.v rfl (.v rfl (.v rfl (.v rfl (.row rfl (.v rfl (.v rfl (.v rfl (.v rfl (.row rfl (.v rfl (.v rfl (.v rfl (.v rfl (.nil))))) rfl))))) rfl))))) rfl) rfl rfl) rfl ?_
  refine k_op0 (d := 13) (b := 145) (j' := 9) rfl rfl rfl rfl (.plain rfl) (T_build D (l := [_, _]) rfl rfl rfl rfl (.cons rfl (flat_v rfl) (.cons rfl (flat_sl rfl) (.nil))) rfl rfl) rfl ?_
  refine k_opn (d := 1) (b := 161) (j' := 10) rfl rfl rfl rfl (.plain rfl) (T_nilbox [(72, 5)] (T_alloc D rfl rfl rfl) rfl (.cons (.same _) <| .cons (.nil rfl) <| .nil) (upd' := [(161, .box 29 [.v (.int .i64 0), .r 162]), (162, .row 72 5 (List.map eBlock ([] : List (GBlock))))]) (nn' := 2) rfl rfl) rfl ?_
  refine k_st1 (b := 177) (j' := 11) rfl rfl rfl rfl (.plain rfl) (T_stB D (cs' := [_, _]) rfl rfl rfl rfl flat_agg rfl rfl (Nat.le_of_ble_eq_true rfl) rfl) rfl ?_
  refine k_done rfl ?_
  refine thenK_n ?_
  refine W_seq ?_
  refine W_seqK (b' := 321) rfl rfl ?_
  refine k_op0 (d := 14) (b := 193) (j' := 1) rfl rfl rfl rfl (.plain rfl) (T_build D (l := [_, _, _, _, _, _, _, _]) rfl rfl rfl rfl (.cons rfl (flat_v rfl) (.nil)) rfl rfl) rfl ?_
  refine k_op0 (d := 15) (b := 209) (j' := 2) rfl rfl rfl rfl (.plain rfl) (T_build D (l := [_, _, _, _, _, _, _, _]) rfl rfl rfl rfl (.cons rfl (flat_v rfl) (.nil)) rfl rfl) rfl ?_
  refine k_op1 (d := 16) (b := 225) (j' := 3) rfl rfl rfl rfl (.plain rfl) (T_bs D (ys := [⟨_, _, _, _, _, _, _, _⟩, ⟨_, _, _, _, _, _, _, _⟩]) (enc := eTac) (l := [_, _, _, _, _, _, _, _, _, _, _, _, _, _, _, _]) rfl rfl rfl rfl rfl rfl (.cons rfl flat_agg (.cons rfl flat_agg (.nil))) rfl rfl rfl rfl (.v rfl (.v rfl (.v rfl (.v rfl (.v rfl (.v rfl (.v rfl (.v rfl (.v rfl (.v rfl (.v rfl (.v rfl (.v rfl (.v rfl (.v rfl (.v rfl (.nil))))))))))))))))) rfl rfl) rfl ?_
  refine k_op0 (d := 17) (b := 241) (j' := 4) rfl rfl rfl rfl (.plain rfl) (T_build D (l := [_, _, _, _, _]) rfl rfl rfl rfl (.cons rfl (flat_sl rfl) (.cons rfl (flat_v rfl) (.nil))) rfl rfl) rfl ?_
  refine k_opn (d := 18) (b := 257) (j' := 5) rfl rfl rfl rfl (.plain rfl) (T_bs D (ys := [⟨_, _, _, _, _⟩]) (enc := eBlock) (l := [_, _, _, _, _]) rfl rfl rfl rfl rfl rfl (.cons rfl flat_agg (.nil)) rfl rfl rfl rfl (.row rfl (.v rfl (.v rfl (.v rfl (.v rfl (.nil))))) rfl) rfl rfl) rfl ?_
  refine k_op0 (d := 19) (b := 273) (j' := 6) rfl rfl rfl rfl (.plain rfl) (T_build D (l := [_, _]) rfl rfl rfl rfl (.cons rfl (flat_v rfl) (.cons rfl (flat_sl rfl) (.nil))) rfl rfl) rfl ?_
  refine k_opn (d := 2) (b := 289) (j' := 7) rfl rfl rfl rfl (.plain rfl) (T_nilbox [(72, 5)] (T_alloc D rfl rfl rfl) rfl (.cons (.same _) <| .cons (.nil rfl) <| .nil) (upd' := [(289, .box 29 [.v (.int .i64 0), .r 290]), (290, .row 72 5 (List.map eBlock ([] : List (GBlock))))]) (nn' := 2) rfl rfl) rfl ?_
  refine k_st1 (b := 305) (j' := 8) rfl rfl rfl rfl (.plain rfl) (T_stB D (cs' := [_, _]) rfl rfl rfl rfl flat_agg rfl rfl (Nat.le_of_ble_eq_true rfl) rfl) rfl ?_
  refine k_done rfl ?_
  refine thenK_n ?_
  refine W_seq ?_
  refine W_seqK (b' := 449) rfl rfl ?_
  refine k_op0 (d := 21) (b := 321) (j' := 1) rfl rfl rfl rfl (.plain rfl) (T_load_bA D (l := [_, _]) rfl rfl rfl rfl rfl rfl rfl) rfl ?_
  refine k_opn (d := 22) (b := 337) (j' := 2) rfl rfl rfl rfl (.plain rfl) (T_call (lvs := [_]) (L := [(1, 129)]) (lv := .tup [.agg [.v _, .r 337], .r 338]) (upd := [(337, .row 72 5 _), (338, .fz 1 _), (129, .fz 5 _)]) (nn := 2) false (tidy_spec aF (by decide) aF_in (by decide)) body26 rfl rfl rfl rfl (.lend rfl (.nil)) rfl (.inl rfl) rfl rfl rfl) rfl ?_
  refine k_op0 (d := 20) (b := 353) (j' := 3) rfl rfl rfl rfl (.plain rfl) (T_move rfl rfl) rfl ?_
  refine k_op0 (d := 23) (b := 369) (j' := 4) rfl rfl rfl rfl (.plain rfl) (T_extract rfl rfl rfl) rfl ?_
  refine k_op0 (d := 24) (b := 385) (j' := 5) rfl rfl rfl rfl (.plain rfl) (T_extract rfl rfl rfl) rfl ?_
  refine k_opn (d := 3) (b := 401) (j' := 6) rfl rfl rfl rfl (.plain rfl) (T_nilbox [(72, 5)] (T_alloc D rfl rfl rfl) rfl (.cons (.same _) <| .cons (.nil rfl) <| .nil) (upd' := [(401, .box 29 [.v (.int .i64 0), .r 402]), (402, .row 72 5 (List.map eBlock ([] : List (GBlock))))]) (nn' := 2) rfl rfl) rfl ?_
  refine k_st1 (b := 417) (j' := 7) rfl rfl rfl rfl (.plain rfl) (T_stB D (cs' := [_, _]) rfl rfl rfl rfl flat_agg rfl rfl (Nat.le_of_ble_eq_true rfl) rfl) rfl ?_
  refine k_op0 (d := 4) (b := 433) (j' := 8) rfl rfl rfl rfl (.plain rfl) (T_assign rfl rfl) rfl ?_
  refine k_done rfl ?_
  refine thenK_n ?_
  refine W_seq ?_
  refine W_seqK (b' := 1025) rfl rfl ?_
  refine k_op0 (d := 25) (b := 449) (j' := 1) rfl rfl rfl rfl (.plain rfl) (T_load_bA D (l := [_, _]) rfl rfl rfl rfl rfl rfl rfl) rfl ?_
  refine k_op0 (d := 26) (b := 465) (j' := 2) rfl rfl rfl rfl (.plain rfl) (T_load_bA D (l := [_, _]) rfl rfl rfl rfl rfl rfl rfl) rfl ?_
  refine k_op0 (d := 27) (b := 481) (j' := 3) rfl rfl rfl rfl (.plain rfl) (T_callV (lvs := [_, _]) (L := [(1, 337), (2, 257)]) (same_spec (tidyG aF) aG (by decide +kernel) (by decide +kernel)) body28 rfl rfl rfl rfl (.lend rfl (.lend rfl (.nil))) rfl) rfl ?_
  refine k_op0 (d := 28) (b := 497) (j' := 4) rfl rfl rfl rfl (.plain rfl) (T_move rfl rfl) rfl ?_
  refine k_split (d := 28) rfl (fun g1 => ?_) (fun g1 => ?_)
  · have h1 := g1; (try simp only [cmpB, decide_eq_true_eq, decide_eq_false_iff_not, beq_iff_eq, beq_eq_false_iff_ne, bne_iff_ne, ne_eq, bne_eq_false_iff_eq, Bool.not_eq_true', Bool.not_eq_false', Int.not_lt, Int.not_le] at h1)
    refine k_op0 (d := 29) (b := 513) (j' := 5) rfl rfl rfl rfl (g_tt rfl rfl rfl g1) (T_move rfl rfl) rfl ?_
    refine k_op0 (d := 30) (b := 529) (j' := 6) rfl rfl rfl rfl (g_tt rfl rfl rfl g1) (T_len D rfl rfl rfl rfl rfl rfl) rfl ?_
    refine k_op0 (d := 31) (b := 545) (j' := 7) rfl rfl rfl rfl (g_tt rfl rfl rfl g1) (T_cmp rfl rfl rfl rfl) rfl ?_
    refine k_op0 (d := 32) (b := 561) (j' := 8) rfl rfl rfl rfl (.plain rfl) (T_pick_t rfl rfl rfl g1) rfl ?_
    refine k_op0 (d := 33) (b := 577) (j' := 9) rfl rfl rfl rfl (.plain rfl) (T_move rfl rfl) rfl ?_
    refine k_split (d := 33) rfl (fun g2 => ?_) (fun g2 => ?_)
    · have h2 := g2; (try simp only [cmpB, decide_eq_true_eq, decide_eq_false_iff_not, beq_iff_eq, beq_eq_false_iff_ne, bne_iff_ne, ne_eq, bne_eq_false_iff_eq, Bool.not_eq_true', Bool.not_eq_false', Int.not_lt, Int.not_le] at h2)
      refine k_op0 (d := 34) (b := 593) (j' := 10) rfl rfl rfl rfl (g_tt rfl rfl rfl g2) (T_move rfl rfl) rfl ?_
      first | refine k_op0 (d := 35) (b := 609) (j' := 11) rfl rfl rfl rfl (g_tt rfl rfl rfl g2) (T_indexAddr D rfl rfl rfl rfl rfl rfl rfl rfl (by first | assumption | decide +kernel)) rfl ?_ | refine k_op0 (d := 35) (b := 609) (j' := 11) rfl rfl rfl rfl (g_tt rfl rfl rfl g2) (T_indexAddrZ D rfl rfl rfl rfl rfl rfl rfl rfl (by first | assumption | decide +kernel) (by first | assumption | decide +kernel)) rfl ?_
      refine k_op1 (d := 36) (b := 625) (j' := 12) rfl rfl rfl rfl (g_tt rfl rfl rfl g2) (T_ldE D (lv := .r 625) (nn := 1) (upd := [(625, .fz 1 _)]) rfl rfl rfl rfl rfl (by first | assumption | decide +kernel) rfl rfl rfl rfl) rfl ?_
      refine k_op1 (d := 37) (b := 641) (j' := 13) rfl rfl rfl rfl (g_tt rfl rfl rfl g2) (T_bs D (ys := [_, _]) (enc := eI) (l := [_, _]) rfl rfl rfl rfl rfl rfl (.cons rfl (flat_v rfl) (.cons rfl (flat_v rfl) (.nil))) rfl rfl rfl rfl (.v rfl (.v rfl (.nil))) rfl rfl) rfl ?_
      refine k_op0 (d := 38) (b := 657) (j' := 14) rfl rfl rfl rfl (g_tt rfl rfl rfl g2) (T_callV (lvs := [_, _]) (L := [(1, 625), (2, 641)]) (list_spec ((pathsL aF).getD 0 default) [0, 2] (by decide +kernel)) body39 rfl rfl rfl rfl (.fz rfl (.lend rfl (.nil))) rfl) rfl ?_
      refine k_op0 (d := 39) (b := 673) (j' := 15) rfl rfl rfl rfl (.plain rfl) (T_pick_t rfl rfl rfl g2) rfl ?_
      refine k_op0 (d := 40) (b := 689) (j' := 16) rfl rfl rfl rfl (.plain rfl) (T_move rfl rfl) rfl ?_
      refine k_split (d := 40) rfl (fun g3 => ?_) (fun g3 => ?_)
      · have h3 := g3; (try simp only [cmpB, decide_eq_true_eq, decide_eq_false_iff_not, beq_iff_eq, beq_eq_false_iff_ne, bne_iff_ne, ne_eq, bne_eq_false_iff_eq, Bool.not_eq_true', Bool.not_eq_false', Int.not_lt, Int.not_le] at h3)
        refine k_op0 (d := 41) (b := 705) (j' := 17) rfl rfl rfl rfl (g_tt rfl rfl rfl g3) (T_load_bA D (l := [_, _]) rfl rfl rfl rfl rfl rfl rfl) rfl ?_
        refine k_op0 (d := 42) (b := 721) (j' := 18) rfl rfl rfl rfl (g_tt rfl rfl rfl g3) (T_load_bA D (l := [_, _]) rfl rfl rfl rfl rfl rfl rfl) rfl ?_
        refine k_op0 (d := 43) (b := 737) (j' := 19) rfl rfl rfl rfl (g_tt rfl rfl rfl g3) (T_move rfl rfl) rfl ?_
        refine k_op0 (d := 44) (b := 753) (j' := 20) rfl rfl rfl rfl (g_tt rfl rfl rfl g3) (T_callV (lvs := [_, _, _]) (L := [(1, 129), (2, 337), (3, 338)]) (tcheck_spec aF (tidyG aF) (pathsL aF) (by decide +kernel) (by decide +kernel) (by decide +kernel) aI1) body30 rfl rfl rfl rfl (.fz rfl (.lend rfl (.fz rfl (.nil)))) rfl) rfl ?_
        refine k_op0 (d := 45) (b := 769) (j' := 21) rfl rfl rfl rfl (.plain rfl) (T_pick_t rfl rfl rfl g3) rfl ?_
        refine k_op0 (d := 46) (b := 785) (j' := 22) rfl rfl rfl rfl (.plain rfl) (T_move rfl rfl) rfl ?_
        refine k_split (d := 46) rfl (fun g4 => ?_) (fun g4 => ?_)
        · have h4 := g4; (try simp only [cmpB, decide_eq_true_eq, decide_eq_false_iff_not, beq_iff_eq, beq_eq_false_iff_ne, bne_iff_ne, ne_eq, bne_eq_false_iff_eq, Bool.not_eq_true', Bool.not_eq_false', Int.not_lt, Int.not_le] at h4)
          refine k_op0 (d := 47) (b := 801) (j' := 23) rfl rfl rfl rfl (g_tt rfl rfl rfl g4) (T_load_bA D (l := [_, _]) rfl rfl rfl rfl rfl rfl rfl) rfl ?_
          refine k_op0 (d := 48) (b := 817) (j' := 24) rfl rfl rfl rfl (g_tt rfl rfl rfl g4) (T_load_bA D (l := [_, _]) rfl rfl rfl rfl rfl rfl rfl) rfl ?_
          refine k_op1 (d := 49) (b := 833) (j' := 25) rfl rfl rfl rfl (g_tt rfl rfl rfl g4) (T_bs D (ys := [_]) (enc := eI) (l := [_]) rfl rfl rfl rfl rfl rfl (.cons rfl (flat_v rfl) (.nil)) rfl rfl rfl rfl (.v rfl (.nil)) rfl rfl) rfl ?_
          refine k_opn (d := 50) (b := 849) (j' := 26) rfl rfl rfl rfl (g_tt rfl rfl rfl g4) (T_bs D (ys := [_]) (enc := eIs) (l := [_]) rfl rfl rfl rfl rfl rfl (.cons rfl (flat_sl rfl) (.nil)) rfl rfl rfl rfl (.row rfl (.nil) rfl) rfl rfl) rfl ?_
          refine k_op0 (d := 51) (b := 865) (j' := 27) rfl rfl rfl rfl (g_tt rfl rfl rfl g4) (T_callV (lvs := [_, _, _]) (L := [(1, 129), (2, 337), (3, 849)]) (tcheck_spec aF (tidyG aF) [[0]] (by decide +kernel) (by decide +kernel) (by decide +kernel) aI2) body30 rfl rfl rfl rfl (.fz rfl (.lend rfl (.lend rfl (.nil)))) rfl) rfl ?_
          refine k_op0 (d := 52) (b := 881) (j' := 28) rfl rfl rfl rfl (g_tt rfl rfl rfl g4) (T_not rfl rfl) rfl ?_
          refine k_op0 (d := 53) (b := 897) (j' := 29) rfl rfl rfl rfl (.plain rfl) (T_pick_t rfl rfl rfl g4) rfl ?_
          refine k_op0 (d := 54) (b := 913) (j' := 30) rfl rfl rfl rfl (.plain rfl) (T_move rfl rfl) rfl ?_
          refine k_split (d := 54) rfl (fun g5 => ?_) (fun g5 => ?_)
          · have h5 := g5; (try simp only [cmpB, decide_eq_true_eq, decide_eq_false_iff_not, beq_iff_eq, beq_eq_false_iff_ne, bne_iff_ne, ne_eq, bne_eq_false_iff_eq, Bool.not_eq_true', Bool.not_eq_false', Int.not_lt, Int.not_le] at h5)
            refine k_op0 (d := 55) (b := 929) (j' := 31) rfl rfl rfl rfl (g_tt rfl rfl rfl g5) (T_load_bA D (l := [_, _]) rfl rfl rfl rfl rfl rfl rfl) rfl ?_
            refine k_op0 (d := 56) (b := 945) (j' := 32) rfl rfl rfl rfl (g_tt rfl rfl rfl g5) (T_load_bA D (l := [_, _]) rfl rfl rfl rfl rfl rfl rfl) rfl ?_
            refine k_op0 (d := 57) (b := 961) (j' := 33) rfl rfl rfl rfl (g_tt rfl rfl rfl g5) (T_callV (lvs := [_, _, _]) (L := [(1, 129), (2, 337)]) (spec_nil (sz := 1) (b0 := 3) (pre := [_, _]) (tcheck_spec aF (tidyG aF) [] (by decide +kernel) (by decide +kernel) (by decide +kernel) aI3) rfl) body30 rfl rfl rfl rfl (.fz rfl (.lend rfl (.nil))) rfl) rfl ?_
            refine k_op0 (d := 58) (b := 977) (j' := 34) rfl rfl rfl rfl (g_tt rfl rfl rfl g5) (T_not rfl rfl) rfl ?_
            refine k_op0 (d := 59) (b := 993) (j' := 35) rfl rfl rfl rfl (.plain rfl) (T_pick_t rfl rfl rfl g5) rfl ?_
            refine k_op0 (d := 0) (b := 1009) (j' := 36) rfl rfl rfl rfl (.plain rfl) (T_assign rfl rfl) rfl ?_
            refine k_done rfl ?_
            refine thenK_n ?_
            refine W_ret ?_
            -- end 0
            exact .mk [] (.inr rfl) (.tmp rfl (.nil)) (by first | rfl | exact absurd g1 (by decide +kernel) | exact absurd g2 (by decide +kernel) | exact absurd g3 (by decide +kernel) | exact absurd g4 (by decide +kernel) | exact absurd g5 (by decide +kernel) | exact absurd g6 (by decide +kernel) | exact absurd g7 (by decide +kernel) | decide +kernel) (.nil) rfl
          · have h5 := g5; (try simp only [cmpB, decide_eq_true_eq, decide_eq_false_iff_not, beq_iff_eq, beq_eq_false_iff_ne, bne_iff_ne, ne_eq, bne_eq_false_iff_eq, Bool.not_eq_true', Bool.not_eq_false', Int.not_lt, Int.not_le] at h5)
            refine k_no (d := 55) (j' := 31) rfl rfl rfl (g_tf rfl rfl rfl g5) ?_
            refine k_no (d := 56) (j' := 32) rfl rfl rfl (g_tf rfl rfl rfl g5) ?_
            refine k_no (d := 57) (j' := 33) rfl rfl rfl (g_tf rfl rfl rfl g5) ?_
            refine k_no (d := 58) (j' := 34) rfl rfl rfl (g_tf rfl rfl rfl g5) ?_
            refine k_op0 (d := 59) (b := 993) (j' := 35) rfl rfl rfl rfl (.plain rfl) (T_pick_f rfl rfl rfl g5) rfl ?_
            refine k_op0 (d := 0) (b := 1009) (j' := 36) rfl rfl rfl rfl (.plain rfl) (T_assign rfl rfl) rfl ?_
            refine k_done rfl ?_
            refine thenK_n ?_
            refine W_ret ?_
            -- end 1
            exact .mk [] (.inr rfl) (.tmp rfl (.nil)) (by first | rfl | exact absurd g1 (by decide +kernel) | exact absurd g2 (by decide +kernel) | exact absurd g3 (by decide +kernel) | exact absurd g4 (by decide +kernel) | exact absurd g5 (by decide +kernel) | exact absurd g6 (by decide +kernel) | exact absurd g7 (by decide +kernel) | decide +kernel) (.nil) rfl
        · have h4 := g4; (try simp only [cmpB, decide_eq_true_eq, decide_eq_false_iff_not, beq_iff_eq, beq_eq_false_iff_ne, bne_iff_ne, ne_eq, bne_eq_false_iff_eq, Bool.not_eq_true', Bool.not_eq_false', Int.not_lt, Int.not_le] at h4)
          refine k_no (d := 47) (j' := 23) rfl rfl rfl (g_tf rfl rfl rfl g4) ?_
          refine k_no (d := 48) (j' := 24) rfl rfl rfl (g_tf rfl rfl rfl g4) ?_
          refine k_no (d := 49) (j' := 25) rfl rfl rfl (g_tf rfl rfl rfl g4) ?_
          refine k_no (d := 50) (j' := 26) rfl rfl rfl (g_tf rfl rfl rfl g4) ?_
          refine k_no (d := 51) (j' := 27) rfl rfl rfl (g_tf rfl rfl rfl g4) ?_
          refine k_no (d := 52) (j' := 28) rfl rfl rfl (g_tf rfl rfl rfl g4) ?_
          refine k_op0 (d := 53) (b := 897) (j' := 29) rfl rfl rfl rfl (.plain rfl) (T_pick_f rfl rfl rfl g4) rfl ?_
          refine k_op0 (d := 54) (b := 913) (j' := 30) rfl rfl rfl rfl (.plain rfl) (T_move rfl rfl) rfl ?_
          refine k_no (d := 55) (j' := 31) rfl rfl rfl (g_tf rfl rfl rfl rfl) ?_
          refine k_no (d := 56) (j' := 32) rfl rfl rfl (g_tf rfl rfl rfl rfl) ?_
          refine k_no (d := 57) (j' := 33) rfl rfl rfl (g_tf rfl rfl rfl rfl) ?_
          refine k_no (d := 58) (j' := 34) rfl rfl rfl (g_tf rfl rfl rfl rfl) ?_
          refine k_op0 (d := 59) (b := 993) (j' := 35) rfl rfl rfl rfl (.plain rfl) (T_pick_f rfl rfl rfl rfl) rfl ?_
          refine k_op0 (d := 0) (b := 1009) (j' := 36) rfl rfl rfl rfl (.plain rfl) (T_assign rfl rfl) rfl ?_
          refine k_done rfl ?_
          refine thenK_n ?_
          refine W_ret ?_
          -- end 2
          exact .mk [] (.inr rfl) (.tmp rfl (.nil)) (by first | rfl | exact absurd g1 (by decide +kernel) | exact absurd g2 (by decide +kernel) | exact absurd g3 (by decide +kernel) | exact absurd g4 (by decide +kernel) | exact absurd g5 (by decide +kernel) | exact absurd g6 (by decide +kernel) | exact absurd g7 (by decide +kernel) | decide +kernel) (.nil) rfl
      · have h3 := g3; (try simp only [cmpB, decide_eq_true_eq, decide_eq_false_iff_not, beq_iff_eq, beq_eq_false_iff_ne, bne_iff_ne, ne_eq, bne_eq_false_iff_eq, Bool.not_eq_true', Bool.not_eq_false', Int.not_lt, Int.not_le] at h3)
        refine k_no (d := 41) (j' := 17) rfl rfl rfl (g_tf rfl rfl rfl g3) ?_
        refine k_no (d := 42) (j' := 18) rfl rfl rfl (g_tf rfl rfl rfl g3) ?_
        refine k_no (d := 43) (j' := 19) rfl rfl rfl (g_tf rfl rfl rfl g3) ?_
        refine k_no (d := 44) (j' := 20) rfl rfl rfl (g_tf rfl rfl rfl g3) ?_
        refine k_op0 (d := 45) (b := 769) (j' := 21) rfl rfl rfl rfl (.plain rfl) (T_pick_f rfl rfl rfl g3) rfl ?_
        refine k_op0 (d := 46) (b := 785) (j' := 22) rfl rfl rfl rfl (.plain rfl) (T_move rfl rfl) rfl ?_
        refine k_no (d := 47) (j' := 23) rfl rfl rfl (g_tf rfl rfl rfl rfl) ?_
        refine k_no (d := 48) (j' := 24) rfl rfl rfl (g_tf rfl rfl rfl rfl) ?_
        refine k_no (d := 49) (j' := 25) rfl rfl rfl (g_tf rfl rfl rfl rfl) ?_
        refine k_no (d := 50) (j' := 26) rfl rfl rfl (g_tf rfl rfl rfl rfl) ?_
        refine k_no (d := 51) (j' := 27) rfl rfl rfl (g_tf rfl rfl rfl rfl) ?_
        refine k_no (d := 52) (j' := 28) rfl rfl rfl (g_tf rfl rfl rfl rfl) ?_
        refine k_op0 (d := 53) (b := 897) (j' := 29) rfl rfl rfl rfl (.plain rfl) (T_pick_f rfl rfl rfl rfl) rfl ?_
        refine k_op0 (d := 54) (b := 913) (j' := 30) rfl rfl rfl rfl (.plain rfl) (T_move rfl rfl) rfl ?_
        refine k_no (d := 55) (j' := 31) rfl rfl rfl (g_tf rfl rfl rfl rfl) ?_
        refine k_no (d := 56) (j' := 32) rfl rfl rfl (g_tf rfl rfl rfl rfl) ?_
        refine k_no (d := 57) (j' := 33) rfl rfl rfl (g_tf rfl rfl rfl rfl) ?_
        refine k_no (d := 58) (j' := 34) rfl rfl rfl (g_tf rfl rfl rfl rfl) ?_
        refine k_op0 (d := 59) (b := 993) (j' := 35) rfl rfl rfl rfl (.plain rfl) (T_pick_f rfl rfl rfl rfl) rfl ?_
        refine k_op0 (d := 0) (b := 1009) (j' := 36) rfl rfl rfl rfl (.plain rfl) (T_assign rfl rfl) rfl ?_
        refine k_done rfl ?_
        refine thenK_n ?_
        refine W_ret ?_
        -- end 3
        exact .mk [] (.inr rfl) (.tmp rfl (.nil)) (by first | rfl | exact absurd g1 (by decide +kernel) | exact absurd g2 (by decide +kernel) | exact absurd g3 (by decide +kernel) | exact absurd g4 (by decide +kernel) | exact absurd g5 (by decide +kernel) | exact absurd g6 (by decide +kernel) | exact absurd g7 (by decide +kernel) | decide +kernel) (.nil) rfl
    · have h2 := g2; (try simp only [cmpB, decide_eq_true_eq, decide_eq_false_iff_not, beq_iff_eq, beq_eq_false_iff_ne, bne_iff_ne, ne_eq, bne_eq_false_iff_eq, Bool.not_eq_true', Bool.not_eq_false', Int.not_lt, Int.not_le] at h2)
      refine k_no (d := 34) (j' := 10) rfl rfl rfl (g_tf rfl rfl rfl g2) ?_
      refine k_no (d := 35) (j' := 11) rfl rfl rfl (g_tf rfl rfl rfl g2) ?_
      refine k_no (d := 36) (j' := 12) rfl rfl rfl (g_tf rfl rfl rfl g2) ?_
      refine k_no (d := 37) (j' := 13) rfl rfl rfl (g_tf rfl rfl rfl g2) ?_
      refine k_no (d := 38) (j' := 14) rfl rfl rfl (g_tf rfl rfl rfl g2) ?_
      refine k_op0 (d := 39) (b := 673) (j' := 15) rfl rfl rfl rfl (.plain rfl) (T_pick_f rfl rfl rfl g2) rfl ?_
      refine k_op0 (d := 40) (b := 689) (j' := 16) rfl rfl rfl rfl (.plain rfl) (T_move rfl rfl) rfl ?_
      refine k_no (d := 41) (j' := 17) rfl rfl rfl (g_tf rfl rfl rfl rfl) ?_
      refine k_no (d := 42) (j' := 18) rfl rfl rfl (g_tf rfl rfl rfl rfl) ?_
      refine k_no (d := 43) (j' := 19) rfl rfl rfl (g_tf rfl rfl rfl rfl) ?_
      refine k_no (d := 44) (j' := 20) rfl rfl rfl (g_tf rfl rfl rfl rfl) ?_
      refine k_op0 (d := 45) (b := 769) (j' := 21) rfl rfl rfl rfl (.plain rfl) (T_pick_f rfl rfl rfl rfl) rfl ?_
      refine k_op0 (d := 46) (b := 785) (j' := 22) rfl rfl rfl rfl (.plain rfl) (T_move rfl rfl) rfl ?_
      refine k_no (d := 47) (j' := 23) rfl rfl rfl (g_tf rfl rfl rfl rfl) ?_
      refine k_no (d := 48) (j' := 24) rfl rfl rfl (g_tf rfl rfl rfl rfl) ?_
      refine k_no (d := 49) (j' := 25) rfl rfl rfl (g_tf rfl rfl rfl rfl) ?_
      refine k_no (d := 50) (j' := 26) rfl rfl rfl (g_tf rfl rfl rfl rfl) ?_
      refine k_no (d := 51) (j' := 27) rfl rfl rfl (g_tf rfl rfl rfl rfl) ?_
      refine k_no (d := 52) (j' := 28) rfl rfl rfl (g_tf rfl rfl rfl rfl) ?_
      refine k_op0 (d := 53) (b := 897) (j' := 29) rfl rfl rfl rfl (.plain rfl) (T_pick_f rfl rfl rfl rfl) rfl ?_
      refine k_op0 (d := 54) (b := 913) (j' := 30) rfl rfl rfl rfl (.plain rfl) (T_move rfl rfl) rfl ?_
      refine k_no (d := 55) (j' := 31) rfl rfl rfl (g_tf rfl rfl rfl rfl) ?_
      refine k_no (d := 56) (j' := 32) rfl rfl rfl (g_tf rfl rfl rfl rfl) ?_
      refine k_no (d := 57) (j' := 33) rfl rfl rfl (g_tf rfl rfl rfl rfl) ?_
      refine k_no (d := 58) (j' := 34) rfl rfl rfl (g_tf rfl rfl rfl rfl) ?_
      refine k_op0 (d := 59) (b := 993) (j' := 35) rfl rfl rfl rfl (.plain rfl) (T_pick_f rfl rfl rfl rfl) rfl ?_
      refine k_op0 (d := 0) (b := 1009) (j' := 36) rfl rfl rfl rfl (.plain rfl) (T_assign rfl rfl) rfl ?_
      refine k_done rfl ?_
      refine thenK_n ?_
      refine W_ret ?_
      -- end 4
      exact .mk [] (.inr rfl) (.tmp rfl (.nil)) (by first | rfl | exact absurd g1 (by decide +kernel) | exact absurd g2 (by decide +kernel) | exact absurd g3 (by decide +kernel) | exact absurd g4 (by decide +kernel) | exact absurd g5 (by decide +kernel) | exact absurd g6 (by decide +kernel) | exact absurd g7 (by decide +kernel) | decide +kernel) (.nil) rfl
  · have h1 := g1; (try simp only [cmpB, decide_eq_true_eq, decide_eq_false_iff_not, beq_iff_eq, beq_eq_false_iff_ne, bne_iff_ne, ne_eq, bne_eq_false_iff_eq, Bool.not_eq_true', Bool.not_eq_false', Int.not_lt, Int.not_le] at h1)
    refine k_no (d := 29) (j' := 5) rfl rfl rfl (g_tf rfl rfl rfl g1) ?_
    refine k_no (d := 30) (j' := 6) rfl rfl rfl (g_tf rfl rfl rfl g1) ?_
    refine k_no (d := 31) (j' := 7) rfl rfl rfl (g_tf rfl rfl rfl g1) ?_
    refine k_op0 (d := 32) (b := 561) (j' := 8) rfl rfl rfl rfl (.plain rfl) (T_pick_f rfl rfl rfl g1) rfl ?_
    refine k_op0 (d := 33) (b := 577) (j' := 9) rfl rfl rfl rfl (.plain rfl) (T_move rfl rfl) rfl ?_
    refine k_no (d := 34) (j' := 10) rfl rfl rfl (g_tf rfl rfl rfl rfl) ?_
    refine k_no (d := 35) (j' := 11) rfl rfl rfl (g_tf rfl rfl rfl rfl) ?_
    refine k_no (d := 36) (j' := 12) rfl rfl rfl (g_tf rfl rfl rfl rfl) ?_
    refine k_no (d := 37) (j' := 13) rfl rfl rfl (g_tf rfl rfl rfl rfl) ?_
    refine k_no (d := 38) (j' := 14) rfl rfl rfl (g_tf rfl rfl rfl rfl) ?_
    refine k_op0 (d := 39) (b := 673) (j' := 15) rfl rfl rfl rfl (.plain rfl) (T_pick_f rfl rfl rfl rfl) rfl ?_
    refine k_op0 (d := 40) (b := 689) (j' := 16) rfl rfl rfl rfl (.plain rfl) (T_move rfl rfl) rfl ?_
    refine k_no (d := 41) (j' := 17) rfl rfl rfl (g_tf rfl rfl rfl rfl) ?_
    refine k_no (d := 42) (j' := 18) rfl rfl rfl (g_tf rfl rfl rfl rfl) ?_
    refine k_no (d := 43) (j' := 19) rfl rfl rfl (g_tf rfl rfl rfl rfl) ?_
    refine k_no (d := 44) (j' := 20) rfl rfl rfl (g_tf rfl rfl rfl rfl) ?_
    refine k_op0 (d := 45) (b := 769) (j' := 21) rfl rfl rfl rfl (.plain rfl) (T_pick_f rfl rfl rfl rfl) rfl ?_
    refine k_op0 (d := 46) (b := 785) (j' := 22) rfl rfl rfl rfl (.plain rfl) (T_move rfl rfl) rfl ?_
    refine k_no (d := 47) (j' := 23) rfl rfl rfl (g_tf rfl rfl rfl rfl) ?_
    refine k_no (d := 48) (j' := 24) rfl rfl rfl (g_tf rfl rfl rfl rfl) ?_
    refine k_no (d := 49) (j' := 25) rfl rfl rfl (g_tf rfl rfl rfl rfl) ?_
    refine k_no (d := 50) (j' := 26) rfl rfl rfl (g_tf rfl rfl rfl rfl) ?_
    refine k_no (d := 51) (j' := 27) rfl rfl rfl (g_tf rfl rfl rfl rfl) ?_
    refine k_no (d := 52) (j' := 28) rfl rfl rfl (g_tf rfl rfl rfl rfl) ?_
    refine k_op0 (d := 53) (b := 897) (j' := 29) rfl rfl rfl rfl (.plain rfl) (T_pick_f rfl rfl rfl rfl) rfl ?_
    refine k_op0 (d := 54) (b := 913) (j' := 30) rfl rfl rfl rfl (.plain rfl) (T_move rfl rfl) rfl ?_
    refine k_no (d := 55) (j' := 31) rfl rfl rfl (g_tf rfl rfl rfl rfl) ?_
    refine k_no (d := 56) (j' := 32) rfl rfl rfl (g_tf rfl rfl rfl rfl) ?_
    refine k_no (d := 57) (j' := 33) rfl rfl rfl (g_tf rfl rfl rfl rfl) ?_
    refine k_no (d := 58) (j' := 34) rfl rfl rfl (g_tf rfl rfl rfl rfl) ?_
    refine k_op0 (d := 59) (b := 993) (j' := 35) rfl rfl rfl rfl (.plain rfl) (T_pick_f rfl rfl rfl rfl) rfl ?_
    refine k_op0 (d := 0) (b := 1009) (j' := 36) rfl rfl rfl rfl (.plain rfl) (T_assign rfl rfl) rfl ?_
    refine k_done rfl ?_
    refine thenK_n ?_
    refine W_ret ?_
    -- end 5
    exact .mk [] (.inr rfl) (.tmp rfl (.nil)) (by first | rfl | exact absurd g1 (by decide +kernel) | exact absurd g2 (by decide +kernel) | exact absurd g3 (by decide +kernel) | exact absurd g4 (by decide +kernel) | exact absurd g5 (by decide +kernel) | exact absurd g6 (by decide +kernel) | exact absurd g7 (by decide +kernel) | decide +kernel) (.nil) rfl
end Lg
end Go.Proofs.Ytpfhmodjjljpjaa

namespace Go.Proofs.Ytpfhmodjjljpjaa
open Go.RowKit
namespace Lg

/-! ### Sizes of what comes in, and what the guards say -/
def FnOk (f : GFn) : Prop := f.blocks.length ≤ 140737488351232 ∧ ∀ b ∈ f.blocks, b.ins.length ≤ 140737488351232
def PsOk (ps : List (List Int)) : Prop := ps.length ≤ 140737488351232 ∧ ∀ p ∈ ps, p.length ≤ 140737488351232
theorem sumLen_le {α : Type} {c : Nat} : ∀ (l : List (List α)), (∀ x ∈ l, x.length ≤ c) → sumLen l ≤ l.length * c
  | [], _ => by simp [sumLen]
  | x :: l, h => by
    have h1 := sumLen_le l (fun y hy => h y (List.mem_cons_of_mem _ hy))
    have h2 := h x (by simp)
    have h3 : sumLen (x :: l) = x.length + sumLen l := by simp [sumLen]
    rw [h3, List.length_cons, Nat.succ_mul]
    omega
theorem le_sumLen {α : Type} : ∀ (l : List (List α)) (x : List α), x ∈ l → x.length ≤ sumLen l
  | y :: l, x, h => by
    have h3 : sumLen (y :: l) = y.length + sumLen l := by simp [sumLen]
    rcases List.mem_cons.1 h with rfl | h
    · omega
    · have := le_sumLen l x h; omega
theorem few_sum {f : GFn} (hf : FnOk f) {n : Nat} (hn : f.blocks.length ≤ n) (h1000 : n ≤ 1000) (j : Nat) : sumLen ((insOf f).take j) ≤ 4000000000000000000 := by
  have h1 := sumLen_take_le (insOf f) j
  have h2 := sumLen_le (c := 140737488351232) (insOf f) (fun x hx => by
    obtain ⟨b, hb, rfl⟩ := List.mem_map.1 hx
    exact hf.2 b hb)
  have h3 : (insOf f).length = f.blocks.length := by simp [insOf]
  have h4 := Nat.mul_le_mul_right 140737488351232 (show (insOf f).length ≤ 1000 by omega)
  omega
theorem few_iff {f : GFn} {x y : Int} (h : few f x y = true) : (f.blocks.length : Int) ≤ x ∧ (sumLen (insOf f) : Int) ≤ y := by
  simpa [few] using h
theorem few_ins {f : GFn} {x y : Int} (h : few f x y = true) : ∀ b ∈ f.blocks, (b.ins.length : Int) ≤ y := fun b hb => by
  have h1 := le_sumLen (insOf f) b.ins (List.mem_map_of_mem (f := fun b : GBlock => b.ins) hb)
  have h2 := (few_iff h).2
  omega
def smallP (ps : List (List Int)) (x y : Int) : Bool := decide ((ps.length : Int) ≤ x) && decide ((sumLen ps : Int) ≤ y)
theorem smallP_iff {ps : List (List Int)} {x y : Int} (h : smallP ps x y = true) : (ps.length : Int) ≤ x ∧ ∀ p ∈ ps, (p.length : Int) ≤ y := by
  simp only [smallP, Bool.and_eq_true, decide_eq_true_eq] at h
  exact ⟨h.1, fun p hp => by have := le_sumLen ps p hp; omega⟩
/-- What a contract of Check asks. -/
structure ChkOk (f g : GFn) (ps : List (List Int)) : Prop where
  hl : ps.length ≤ 1000000000
  hpl : ∀ p ∈ ps, p.length ≤ 1000000000
  hgi : ∀ b ∈ g.blocks, b.ins.length ≤ 1000000
  hI : ∀ p ∈ ps, ∀ j, (instrs f (p.take j)).length ≤ 1000000000
theorem chkOk {f g : GFn} {ps : List (List Int)} {a b c d e q : Int} (h1 : few f a b = true) (h2 : few g c d = true) (h3 : smallP ps e q = true) (hb : b ≤ 1000) (hd : d ≤ 1000) (he : e ≤ 1000) (hq : q ≤ 1000) : ChkOk f g ps := by
  have h4 := smallP_iff h3
  refine ⟨by omega, fun p hp => by have := h4.2 p hp; omega, fun x hx => by have := few_ins h2 x hx; omega, fun p hp j => ?_⟩
  exact take_len (c := 0) (fun x hx => by have := few_ins h1 x hx; omega) (by have := h4.2 p hp; omega) j
theorem tcheck_ok {f g : GFn} {ps : List (List Int)} (hc : ChkOk f g ps) : Spec Try.prog 30 [.agg [.v (.int .i64 f.regs), .r 1], .agg [.v (.int .i64 g.regs), .r 2], .r 3] 4 [(1, .fz 5 (f.blocks.map eBlock)), (2, .fz 5 (g.blocks.map eBlock)), (3, .fz 1 (ps.map eIs))] (.v (.bool (tcheck f g ps))) 4 [] := tcheck_spec f g ps hc.hl hc.hpl hc.hgi hc.hI
theorem rcheck_ok {f g : GFn} {ps : List (List Int)} (hc : ChkOk f g ps) : Spec Try.prog 33 [.agg [.v (.int .i64 f.regs), .r 1], .agg [.v (.int .i64 g.regs), .r 2], .r 3] 4 [(1, .fz 5 (f.blocks.map eBlock)), (2, .fz 5 (g.blocks.map eBlock)), (3, .fz 1 (ps.map eIs))] (.v (.bool (tcheck f g ps))) 4 [] := rcheck_spec f g ps hc.hl hc.hpl hc.hgi hc.hI
end Lg
end Go.Proofs.Ytpfhmodjjljpjaa

namespace Go.Proofs.Ytpfhmodjjljpjaa
open Go.RowKit
namespace Lg
theorem fnOk {f : GFn} (h : WFn f) : FnOk f := ⟨by have := h.len; omega, fun b hb => by have := (h.each b hb).len; omega⟩
theorem psOk {l : List (List Int)} (h : WIss l) : PsOk l := ⟨by have := h.len; omega, fun p hp => by have := (h.each p hp).len; omega⟩
end Lg
end Go.Proofs.Ytpfhmodjjljpjaa

namespace Go.Proofs.Ytpfhmodjjljpjaa
open Go.ChangeShapes Go.WideShapes Go.ChangeAt Go.RowKit
namespace Lg
set_option maxRecDepth 100000
theorem one_int (k : IntKind) (x : Int) : (Value.int k x).oneCell' = true := rfl
structure GTwo where
  a : GFn
  b : GFn
  c : GFn
  p : List (List Int)
  q : List (List Int)
structure WTwo (x : GTwo) : Prop where
  a : WFn x.a
  b : WFn x.b
  c : WFn x.c
  p : WIss x.p
  q : WIss x.q
def eTwo (x : GTwo) : List Cell := eFn x.a ++ (eFn x.b ++ (eFn x.c ++ ([.sl 1 (x.p.map eIs)] ++ ([.sl 1 (x.q.map eIs)] ++ []))))
section
variable {H : Type} {enc : TypeId × Value → H} {w : World}
theorem o_two : Opens enc Try.prog w 78 eTwo WTwo :=
  (opens_struct (n := 8) Try.underlying78 (by kernel_rfl) (opensF_cons (k := 2) rfl (by kernel_rfl) o_fn <| opensF_cons (k := 2) rfl (by kernel_rfl) o_fn <| opensF_cons (k := 2) rfl (by kernel_rfl) o_fn <| opensF_cons (k := 1) rfl (by kernel_rfl) o_iss <|
    opensF_cons (k := 1) rfl (by kernel_rfl) o_iss <| opensF_nil rfl)).map
  (fun x h => ⟨⟨x.1, x.2.1, x.2.2.1, x.2.2.2.1, x.2.2.2.2.1⟩, rfl, ⟨h.1, h.2.1, h.2.2.1, h.2.2.2.1, h.2.2.2.2.1⟩⟩)
theorem rd_v {x v : Value} {ok : Nat → Prop} (h : Rd w ok (.v x) v) : v = x := by cases h; rfl
theorem arg_two {r : Reach} {b : Nat} {v : Value} {d : DataW H} {p : List MemPlace} (hv : Value.okWide Try.prog w r b 78 v) (hd : DataW.Trod enc Try.prog w 0 (fun _ => true) true 78 v d p) (hw : (d.weights Try.prog 78).all (· ≤ reachBytes) = true) :
    ∃ (x : GTwo) (s1 s2 s3 s4 s5 : Value), v = .agg #[.int .i64 x.a.regs, s1, .int .i64 x.b.regs, s2, .int .i64 x.c.regs, s3, s4, s5] ∧ Rd w (fun _ => True) (.sl 5 (x.a.blocks.map eBlock)) s1 ∧ Rd w (fun _ => True) (.sl 5 (x.b.blocks.map eBlock)) s2 ∧ Rd w (fun _ => True) (.sl 5 (x.c.blocks.map eBlock)) s3 ∧ Rd w (fun _ => True) (.sl 1 (x.p.map eIs)) s4 ∧ Rd w (fun _ => True) (.sl 1 (x.q.map eIs)) s5 ∧ WTwo x := by
  obtain ⟨x, cs, rfl, h1, h2⟩ := arg_agg o_two (by rw [Try.underlying78]) hv hd hw
  obtain ⟨l⟩ := cs
  match l, h1 with
  | [v1, s1, v2, s2, v3, s3, s4, s5], h1 =>
    obtain ⟨a1, a2, a3, a4, a5, a6, a7, a8, _⟩ := h1
    exact ⟨x, s1, s2, s3, s4, s5, by rw [rd_v a1, rd_v a3, rd_v a5], a2, a4, a6, a7, a8, h2⟩
theorem arg_prog {r : Reach} {b : Nat} {v : Value} {d : DataW H} {p : List MemPlace} (hv : Value.okWide Try.prog w r b 24 v) (hd : DataW.Trod enc Try.prog w 0 (fun _ => true) true 24 v d p) (hw : (d.weights Try.prog 24).all (· ≤ reachBytes) = true) :
    ∃ (x : GProg) (s : Value), v = .agg #[.int .i64 x.words, s] ∧ Rd w (fun _ => True) (.sl 2 (x.funcs.map eFn)) s ∧ WProg x := by
  obtain ⟨x, cs, rfl, h1, h2⟩ := arg_agg o_prog (by rw [Try.underlying24]) hv hd hw
  obtain ⟨l⟩ := cs
  match l, h1 with
  | [v1, s1], h1 =>
    obtain ⟨a1, a2, _⟩ := h1
    exact ⟨x, s1, by rw [rd_v a1], a2, h2⟩
theorem arg_u8 {r : Reach} {b : Nat} {v : Value} {d : DataW H} {p : List MemPlace} (hv : Value.okWide Try.prog w r b 5 v) (hd : DataW.Trod enc Try.prog w 0 (fun _ => true) true 5 v d p) (hw : (d.weights Try.prog 5).all (· ≤ reachBytes) = true) :
    ∃ x : Int, v = .int .u8 x ∧ 0 ≤ x ∧ x < 256 := by
  obtain ⟨n, rfl⟩ := okWide_int Try.underlying5 hv
  obtain ⟨fuel, hf⟩ := hd
  obtain ⟨x, h1, h2⟩ := o_u8 fuel _ d p hf hw
  have h3 := rd_v h1.1
  cases h3
  exact ⟨_, rfl, h2⟩
end
end Lg
end Go.Proofs.Ytpfhmodjjljpjaa

namespace Go.Proofs.Ytpfhmodjjljpjaa
open Go.RowKit
namespace Lg

/-- The second one told by its fields. -/
theorem T_eqTac8 {N : Nat} {o : Oper} {b : Nat} {st : St} {x y : Operand} (u : GTac) {v1 v2 v3 v4 v5 v6 v7 v8 : Int} {t' : TypeId} (ho : o.op = .binOp .eql 70 x y t') (hx : st.ev x = some (lvTac u))
    (hy : st.ev y = some (.agg [.v (.int .i64 v1), .v (.int .i64 v2), .v (.int .i64 v3), .v (.int .i64 v4), .v (.int .i64 v5), .v (.int .i64 v6), .v (.int .i64 v7), .v (.int .u32 v8)])) : T Try.prog N o b [] st (.v (.bool (decide (u = ⟨v1, v2, v3, v4, v5, v6, v7, v8⟩)))) 0 [] :=
  T_eqTac u ⟨v1, v2, v3, v4, v5, v6, v7, v8⟩ ho hx hy
/-! ### May a program be? -/
def withinB (i n : Int) : Bool := decide (0 ≤ i) && decide (i < n)
def setsOp (op : Int) : Bool := decide (op = 1 ∨ op = 2 ∨ op = 3 ∨ op = 4 ∨ op = 6 ∨ op = 8)
def setsT (t : GTac) : Int := if setsOp t.op = true then t.d else -1
def usesT (t : GTac) : List Int := if t.op = 2 ∨ t.op = 5 ∨ t.op = 6 ∨ t.op = 9 then [t.a] else if t.op = 3 ∨ t.op = 7 then [t.a, t.b] else []
def wantT (t : GTac) : GTac :=
  ⟨t.op, if setsOp t.op = true then t.d else 0, if 0 < (usesT t).length then t.a else 0, if 1 < (usesT t).length then t.b else 0, if t.op = 3 then t.k else 0, if t.op = 4 ∨ t.op = 5 ∨ t.op = 6 ∨ t.op = 7 ∨ t.op = 10 then t.base else 0, if t.op = 6 ∨ t.op = 7 then t.size else 0, if t.op = 1 then t.n else 0⟩
/-- What an instruction must be, but for what it has beside. -/
def FitsP (t : GTac) (f regs words : Int) : Prop :=
  (1 ≤ t.op ∧ t.op ≤ 10) ∧ (setsOp t.op = true → withinB t.d regs = true) ∧ (∀ u ∈ usesT t, withinB u regs = true) ∧ (t.op = 3 → 4 ≤ t.k ∧ t.k ≤ 15) ∧ (t.op = 4 ∨ t.op = 5 → withinB t.base words = true) ∧
  (t.op = 6 ∨ t.op = 7 → 1 ≤ t.size ∧ t.size ≤ 4096 ∧ 0 ≤ t.base ∧ t.base ≤ words - t.size) ∧ (t.op = 10 → withinB t.base f = true) ∧ t = wantT t
instance (t : GTac) (f regs words : Int) : Decidable (FitsP t f regs words) := by unfold FitsP; infer_instance
def fitsB (t : GTac) (f regs words : Int) : Bool := decide (FitsP t f regs words)
def endsB (b : GBlock) (blocks regs : Int) : Bool :=
  if b.fin = 1 then withinB b.to blocks && (b.v == 0) && (b.els == 0)
  else if b.fin = 2 then withinB b.to blocks && withinB b.els blocks && withinB b.v regs
  else (b.fin == 3) && (b.v == 0) && (b.to == 0) && (b.els == 0)
def blockB (b : GBlock) (blocks number regs words : Int) : Bool := endsB b blocks regs && b.ins.all (fun t => fitsB t number regs words)
def oneB (f : GFn) (number words : Int) : Bool := decide (0 ≤ f.regs ∧ f.regs ≤ 4000 ∧ f.blocks ≠ []) && f.blocks.all (fun b => blockB b f.blocks.length number f.regs words)
def rightB (p : GProg) : Bool := decide (0 ≤ p.words ∧ p.words ≤ 1048576 ∧ p.funcs ≠ []) && (List.range p.funcs.length).all (fun i => oneB (p.funcs.getD i default) (i : Int) p.words)
theorem setsOp_t {op : Int} (h : op = 1 ∨ op = 2 ∨ op = 3 ∨ op = 4 ∨ op = 6 ∨ op = 8) : setsOp op = true := decide_eq_true h
theorem setsOp_f {op : Int} (h : ¬ (op = 1 ∨ op = 2 ∨ op = 3 ∨ op = 4 ∨ op = 6 ∨ op = 8)) : setsOp op = false := decide_eq_false h
theorem setsT_ge {t : GTac} (h : setsT t ≥ 0) : setsOp t.op = true := by
  unfold setsT at h
  split at h
  · assumption
  · omega
/-- The instruction that has what it must have, and what the code has found. -/
theorem fits_fin {t : GTac} {f regs words k base size n : Int} (h : (1 ≤ t.op ∧ t.op ≤ 10) ∧ (setsOp t.op = true → withinB t.d regs = true) ∧ (∀ u ∈ usesT t, withinB u regs = true)) (h3 : t.op = 3 → 4 ≤ t.k ∧ t.k ≤ 15) (h4 : t.op = 4 ∨ t.op = 5 → withinB t.base words = true)
    (h6 : t.op = 6 ∨ t.op = 7 → 1 ≤ t.size ∧ t.size ≤ 4096 ∧ 0 ≤ t.base ∧ t.base ≤ words - t.size) (h10 : t.op = 10 → withinB t.base f = true)
    (hk : k = if t.op = 3 then t.k else 0) (hb : base = if t.op = 4 ∨ t.op = 5 ∨ t.op = 6 ∨ t.op = 7 ∨ t.op = 10 then t.base else 0) (hs : size = if t.op = 6 ∨ t.op = 7 then t.size else 0) (hn : n = if t.op = 1 then t.n else 0) :
    decide (t = ⟨t.op, if setsOp t.op = true then t.d else 0, if 0 < (usesT t).length then t.a else 0, if 1 < (usesT t).length then t.b else 0, k, base, size, n⟩) = fitsB t f regs words := by
  subst hk hb hs hn
  show decide (t = wantT t) = _
  unfold fitsB
  by_cases hw : t = wantT t
  · rw [decide_eq_true hw, decide_eq_true]
    exact ⟨h.1, h.2.1, h.2.2, h3, h4, h6, h10, hw⟩
  · rw [decide_eq_false hw, decide_eq_false]
    exact fun hF => hw hF.2.2.2.2.2.2.2
theorem fits_no {t : GTac} {f regs words : Int} (h : ¬ FitsP t f regs words) : false = fitsB t f regs words := (decide_eq_false h).symm
theorem usesT_le (t : GTac) : (usesT t).length ≤ 2 := by
  unfold usesT
  split
  · simp
  · split <;> simp
theorem blockB_t {b : GBlock} {n number regs words : Int} (h : endsB b n regs = true) (h2 : ∀ m, m < b.ins.length → fitsB (b.ins.getD m default) number regs words = true) : blockB b n number regs words = true := by
  unfold blockB
  rw [h, all_iff_getD.2 h2]
  rfl
theorem one_no1 {f : GFn} {number words : Int} (h : ¬ (0 ≤ f.regs ∧ f.regs ≤ 4000 ∧ ¬ (f.blocks.length : Int) = 0)) : false = oneB f number words := by
  unfold oneB
  rw [decide_eq_false (fun hk => h ⟨hk.1, hk.2.1, fun e => hk.2.2 (List.eq_nil_of_length_eq_zero (by omega))⟩)]
  rfl
theorem one_no2 {f : GFn} {number words : Int} {j : Nat} (hj : j < f.blocks.length) (h : endsB (f.blocks.getD j default) f.blocks.length f.regs = false) : false = oneB f number words := by
  unfold oneB
  rw [all_false_at hj (by unfold blockB; rw [h]; rfl), Bool.and_false]
theorem one_no3 {f : GFn} {number words : Int} {j i : Nat} (hj : j < f.blocks.length) (hi : i < (f.blocks.getD j default).ins.length) (h : fitsB ((f.blocks.getD j default).ins.getD i default) number f.regs words = false) : false = oneB f number words := by
  unfold oneB
  rw [all_false_at hj (by unfold blockB; rw [all_false_at hi h, Bool.and_false]), Bool.and_false]
theorem one_yes {f : GFn} {number words : Int} (h : 0 ≤ f.regs ∧ f.regs ≤ 4000) (h0 : ¬ (f.blocks.length : Int) = 0) (hb : ∀ i, i < f.blocks.length → blockB (f.blocks.getD i default) f.blocks.length number f.regs words = true) : true = oneB f number words := by
  unfold oneB
  rw [decide_eq_true ⟨h.1, h.2, fun e => h0 (by rw [e]; rfl)⟩, all_iff_getD.2 hb]
  rfl
end Lg
end Go.Proofs.Ytpfhmodjjljpjaa

namespace Go.Proofs.Ytpfhmodjjljpjaa
open Go.RowKit
namespace Lg

/-! ### Tidying: the plain law -/
/-- A function that may be, as far as its graph goes. -/
structure VF (f : GFn) : Prop where
  ne : 0 < f.blocks.length
  ends : ∀ k, k < f.blocks.length → endsB (f.blocks.getD k default) f.blocks.length f.regs = true
theorem withinB_iff {i n : Int} : withinB i n = true ↔ 0 ≤ i ∧ i < n := by
  simp [withinB]
structure Ends (f : GFn) (b : GBlock) : Prop where
  e : (b.fin = 1 ∧ (0 ≤ b.to ∧ b.to < (f.blocks.length : Int)) ∧ b.v = 0 ∧ b.els = 0) ∨ (b.fin = 2 ∧ (0 ≤ b.to ∧ b.to < (f.blocks.length : Int)) ∧ (0 ≤ b.els ∧ b.els < (f.blocks.length : Int)) ∧ 0 ≤ b.v ∧ b.v < f.regs) ∨ (b.fin = 3 ∧ b.v = 0 ∧ b.to = 0 ∧ b.els = 0)
theorem ends_of {f : GFn} {b : GBlock} (h : endsB b f.blocks.length f.regs = true) : Ends f b := by
  unfold endsB at h
  split at h
  · simp only [Bool.and_eq_true, withinB_iff, beq_iff_eq] at h
    exact ⟨.inl ⟨by assumption, h.1.1, h.1.2, h.2⟩⟩
  · split at h
    · simp only [Bool.and_eq_true, withinB_iff] at h
      exact ⟨.inr (.inl ⟨by assumption, h.1.1, h.1.2, h.2⟩)⟩
    · simp only [Bool.and_eq_true, beq_iff_eq] at h
      exact ⟨.inr (.inr ⟨h.1.1.1, h.1.1.2, h.1.2, h.2⟩)⟩
theorem VF.at {f : GFn} (h : VF f) {k : Nat} (hk : k < f.blocks.length) : Ends f (f.blocks.getD k default) := ends_of (h.ends k hk)
theorem Ends.follows {f : GFn} {b : GBlock} (h : Ends f b) {x : Int} (hx : x ∈ follows b) : 0 ≤ x ∧ x < (f.blocks.length : Int) := by
  unfold Lg.follows at hx
  rcases h.e with ⟨h1, h2, _⟩ | ⟨h1, h2, h3, _⟩ | ⟨h1, _⟩
  · rw [if_pos h1] at hx; simp at hx; omega
  · rw [if_neg (by omega), if_pos h1] at hx; simp at hx; omega
  · rw [if_neg (by omega), if_neg (by omega)] at hx; cases hx
theorem VF.inN {f : GFn} (h : VF f) : InN f := fun l hl x hx => by
  obtain ⟨k, hk, rfl⟩ := mem_getD hl
  rw [nextL_length] at hk
  rw [nextL_getD] at hx
  exact (h.at hk).follows hx

/-! Heads -/
def headsL (f : GFn) : List Nat := (List.range f.blocks.length).filter (isHead f)
theorem pathsL_eq (f : GFn) : pathsL f = (headsL f).map (pathAt f) := rfl
theorem heads_lt {f : GFn} {x : Nat} (h : x ∈ headsL f) : x < f.blocks.length ∧ isHead f x = true := by
  obtain ⟨h1, h2⟩ := List.mem_filter.1 h
  exact ⟨by simpa using h1, h2⟩
theorem mem_heads {f : GFn} {x : Nat} (h1 : x < f.blocks.length) (h2 : isHead f x = true) : x ∈ headsL f := List.mem_filter.2 ⟨by simpa using h1, h2⟩
theorem heads_nodup (f : GFn) : (headsL f).Nodup := List.nodup_range.sublist List.filter_sublist
theorem isHead_iff {f : GFn} {x : Nat} : isHead f x = true ↔ (reachL f).getD x default = true ∧ (byL f).getD x default < 0 := by
  simp only [isHead, Bool.and_eq_true, decide_eq_true_eq]
theorem zero_head {f : GFn} (h : VF f) : isHead f 0 = true := by
  rw [isHead_iff]
  refine ⟨(reachL_iff f 0).2 (RF.refl (by omega) (by rw [nextL_length]; have := h.ne; omega) (by omega)), ?_⟩
  rw [byL_getD f h.ne]
  unfold takenAt
  rw [if_neg (fun hc => Nat.lt_irrefl 0 hc.1)]
  omega
theorem heads_zero {f : GFn} (h : VF f) : 0 < (headsL f).length ∧ (headsL f).getD 0 default = 0 := by
  obtain ⟨m, hm⟩ : ∃ m, f.blocks.length = m + 1 := ⟨f.blocks.length - 1, by have := h.ne; omega⟩
  have e : headsL f = 0 :: ((List.range m).map Nat.succ).filter (isHead f) := by
    unfold headsL
    rw [hm, List.range_succ_eq_map, List.filter_cons_of_pos (zero_head h)]
  rw [e]
  exact ⟨by simp, rfl⟩
theorem paths_length (f : GFn) : (pathsL f).length = (headsL f).length := by rw [pathsL_eq, List.length_map]
theorem path_at {f : GFn} (h : VF f) {j : Nat} (hj : j < (headsL f).length) : ∃ p, PathOf f ((headsL f).getD j default) p ∧ (pathsL f).getD j default = ints p := by
  have hm := heads_lt (getD_mem hj)
  obtain ⟨p, hp⟩ := (path_of h.inN hm.1 hm.2).2
  exact ⟨p, hp, by rw [pathsL_eq, getD_map _ _ hj, hp.e]⟩
theorem headOf_ints (p : List Nat) : headOf (ints p) = ((p.getD 0 default : Nat) : Int) := ints_getD p 0
theorem path_head {f : GFn} (h : VF f) {j : Nat} (hj : j < (headsL f).length) : headOf ((pathsL f).getD j default) = (((headsL f).getD j default : Nat) : Int) := by
  obtain ⟨p, hp, e⟩ := path_at h hj
  rw [e, headOf_ints, hp.h]
theorem begins_head {f : GFn} (h : VF f) {j : Nat} (hj : j < (headsL f).length) : begins (pathsL f) (((headsL f).getD j default : Nat) : Int) = (j : Int) := by
  unfold begins
  refine fstIdx_hit (fun p : List Int => p.getD 0 default == (((headsL f).getD j default : Nat) : Int)) _ (by rw [paths_length]; exact hj) (beq_iff_eq.2 (path_head h hj)) (fun i hi => beq_eq_false_iff_ne.2 (fun e => ?_))
  have h1 := path_head h (show i < (headsL f).length by omega)
  have h2 : (((headsL f).getD i default : Nat) : Int) = (((headsL f).getD j default : Nat) : Int) := h1.symm.trans e
  have := nodup_getD (heads_nodup f) (i := i) (j := j) (by omega) hj (by omega)
  omega
/-- The number of a head. -/
theorem begins_of {f : GFn} (h : VF f) {x : Nat} (hx : x < f.blocks.length) (hh : isHead f x = true) : ∃ j, j < (headsL f).length ∧ (headsL f).getD j default = x ∧ begins (pathsL f) (x : Int) = (j : Int) := by
  obtain ⟨j, hj, e⟩ := mem_getD (mem_heads hx hh)
  exact ⟨j, hj, e, by rw [← e]; exact begins_head h hj⟩

/-! What follows a reached block -/
theorem reach_step {f : GFn} (h : VF f) {x : Nat} (hx : x < f.blocks.length) (hr : (reachL f).getD x default = true) {y : Int} (hy : y ∈ follows (f.blocks.getD x default)) : y.toNat < f.blocks.length ∧ ((y.toNat : Nat) : Int) = y ∧ (reachL f).getD y.toNat default = true := by
  have h1 := (h.at hx).follows hy
  refine ⟨by omega, by omega, (reachL_iff f _).2 ?_⟩
  exact RF.step ((reachL_iff f x).1 hr) (by rw [nextL_getD]; exact hy) h1.1 (by rw [nextL_length]; exact h1.2) (by omega)
/-- It is a head, or taken in by that block. -/
theorem step_cases {f : GFn} (h : VF f) {x : Nat} (hx : x < f.blocks.length) (hr : (reachL f).getD x default = true) {y : Int} (hy : y ∈ follows (f.blocks.getD x default)) : isHead f y.toNat = true ∨ Takes f x y.toNat := by
  obtain ⟨h1, h2, h3⟩ := reach_step h hx hr hy
  by_cases hb : (byL f).getD y.toNat default < 0
  · exact .inl (isHead_iff.2 ⟨h3, hb⟩)
  · have ht := takes_of h.inN h1 hb
    have hm : (x : Int) ∈ (fromL f).getD y.toNat default := (mem_fromL h.inN h1).2 ⟨x, hx, rfl, hr, by rw [h2, nextL_getD]; exact hy⟩
    rw [ht.one] at hm
    have e : x = ((byL f).getD y.toNat default).toNat := by have := List.mem_singleton.1 hm; omega
    exact .inr (by rw [e]; exact ht)
theorem last_head {f : GFn} (h : VF f) {i : Nat} {p : List Nat} (hp : PathOf f i p) {y : Int} (hy : y ∈ follows (f.blocks.getD (lastN p) default)) : y.toNat < f.blocks.length ∧ ((y.toNat : Nat) : Int) = y ∧ isHead f y.toNat = true := by
  have hl : lastN p ∈ p := getD_mem (by have := List.length_pos_iff.2 hp.g.ne; omega)
  obtain ⟨h1, h2, h3⟩ := reach_step h (hp.g.lt _ hl) (hp.g.rch _ hl) hy
  rcases step_cases h (hp.g.lt _ hl) (hp.g.rch _ hl) hy with h4 | h4
  · exact ⟨h1, h2, h4⟩
  · exact absurd h4 (hp.last _)
theorem blk_nat (f : GFn) (x : Nat) : blk f (x : Int) = f.blocks.getD x default := by unfold blk; simp
theorem leads_of {f : GFn} (h : VF f) {i : Nat} {p : List Nat} (hp : PathOf f i p) {y : Int} (hy : y ∈ follows (f.blocks.getD (lastN p) default)) : leads (pathsL f) (begins (pathsL f) y) y = true := by
  obtain ⟨h1, h2, h3⟩ := last_head h hp hy
  obtain ⟨j, hj, e, hb⟩ := begins_of h h1 h3
  rw [h2] at hb
  rw [leads_iff, hb]
  refine ⟨by omega, by rw [paths_length]; omega, ?_⟩
  rw [show ((j : Int)).toNat = j by omega, path_head h hj, e, h2]

theorem chn_ints {f : GFn} {p : List Nat} (hg : Grown f p) : chn f (ints p) := by
  rw [chn_iff]
  intro i hi
  rw [ints_length] at hi
  have ht := hg.link i hi
  rw [ints_getD, ints_getD]
  exact ⟨by rw [blk_nat]; exact ht.fin, by rw [blk_nat]; exact ht.to⟩
theorem tidyG_at {f : GFn} {j : Nat} (hj : j < (headsL f).length) : (tidyG f).blocks.getD j default = newBlock f (pathsL f) ((pathsL f).getD j default) := by
  unfold tidyG
  exact getD_map _ _ (by rw [paths_length]; exact hj)
theorem tidyG_length (f : GFn) : (tidyG f).blocks.length = (headsL f).length := by simp [tidyG, paths_length]
theorem lastOf_path {f : GFn} {i : Nat} {p : List Nat} (hp : PathOf f i p) : blk f (lastOf (ints p)) = f.blocks.getD (lastN p) default := by
  rw [lastOf_ints hp.g.ne, blk_nat]
theorem lastN_mem {f : GFn} {i : Nat} {p : List Nat} (hp : PathOf f i p) : lastN p ∈ p := getD_mem (by have := List.length_pos_iff.2 hp.g.ne; omega)

/-- What is tidied holds. -/
theorem tidy_holds {f : GFn} (h : VF f) : Holds f (tidyG f) (pathsL f) := by
  refine ⟨by rw [tidyG_length, paths_length], by rw [paths_length]; have := (heads_zero h).1; omega, rfl, fun p hp => ?_, ?_, fun j hj => ?_⟩
  · have h1 := path_in h.inN hp
    exact ⟨List.length_pos_iff.1 (by omega), h1.2.2⟩
  · rw [path_head h (heads_zero h).1, (heads_zero h).2]; rfl
  · rw [paths_length] at hj
    obtain ⟨p, hp, e⟩ := path_at h hj
    rw [tidyG_at hj, e]
    refine ⟨chn_ints hp.g, rfl, ?_⟩
    have hE := h.at (hp.g.lt _ (lastN_mem hp))
    unfold endOk newBlock
    simp only
    rw [lastOf_path hp]
    refine ⟨trivial, trivial, ?_⟩
    rcases hE.e with ⟨h1, h2, h3, h4⟩ | ⟨h1, h2, h3, h4⟩ | ⟨h1, h2, h3, h4⟩
    · rw [if_pos h1, if_neg (by omega), if_neg (by omega), h4]
      exact ⟨leads_of h hp (by unfold follows; rw [if_pos h1]; simp), rfl⟩
    · rw [if_neg (by omega), if_pos h1, if_neg (by omega), if_pos h1]
      exact ⟨leads_of h hp (by unfold follows; rw [if_neg (by omega), if_pos h1]; simp), leads_of h hp (by unfold follows; rw [if_neg (by omega), if_pos h1]; simp)⟩
    · rw [if_neg (by omega), if_neg (by omega), if_pos h1, if_neg (by omega)]
      exact ⟨h3.symm, h4.symm⟩

/-! ### The tidied function's own graph -/
theorem tidy_follows {f : GFn} (h : VF f) {j : Nat} (hj : j < (headsL f).length) {p : List Nat} (hp : PathOf f ((headsL f).getD j default) p) (e : (pathsL f).getD j default = ints p) :
    follows ((tidyG f).blocks.getD j default) = (follows (f.blocks.getD (lastN p) default)).map (begins (pathsL f)) := by
  rw [tidyG_at hj, e]
  have hE := h.at (hp.g.lt _ (lastN_mem hp))
  unfold follows newBlock
  simp only
  rw [lastOf_path hp]
  rcases hE.e with ⟨h1, _⟩ | ⟨h1, _⟩ | ⟨h1, _⟩
  · rw [if_pos h1, if_pos h1, if_neg (by omega)]; rfl
  · rw [if_neg (by omega), if_pos h1, if_neg (by omega), if_pos h1, if_neg (by omega), if_pos h1]; rfl
  · rw [if_neg (by omega), if_neg (by omega), if_neg (by omega), if_neg (by omega)]; rfl
theorem begins_inj {f : GFn} (h : VF f) {x y : Nat} (hx : x < f.blocks.length) (hxh : isHead f x = true) (hy : y < f.blocks.length) (hyh : isHead f y = true) (e : begins (pathsL f) (x : Int) = begins (pathsL f) (y : Int)) : x = y := by
  obtain ⟨j, _, e1, b1⟩ := begins_of h hx hxh
  obtain ⟨j', _, e2, b2⟩ := begins_of h hy hyh
  have : j = j' := by omega
  rw [← e1, ← e2, this]
/-- A block on a path: its last one, or the next one is what it takes in. -/
theorem on_path {f : GFn} {i : Nat} {p : List Nat} (hp : PathOf f i p) {x : Nat} (hx : x ∈ p) : x = lastN p ∨ ∃ y ∈ p, Takes f x y := by
  obtain ⟨k, hk, rfl⟩ := mem_getD hx
  by_cases hl : k + 1 < p.length
  · exact .inr ⟨_, getD_mem hl, hp.g.link k hl⟩
  · left; unfold lastN; rw [show p.length - 1 = k by omega]
theorem head_on_path {f : GFn} (h : VF f) {i : Nat} {p : List Nat} (hp : PathOf f i p) {x : Nat} (hx : x ∈ p) (hh : isHead f x = true) : x = i := by
  obtain ⟨k, hk, rfl⟩ := mem_getD hx
  cases k with
  | zero => exact hp.h
  | succ k => exact absurd (hp.g.link k hk) (byL_neg (hp.g.lt _ hx) (isHead_iff.1 hh).2 h.inN _)
theorem takes_follows {f : GFn} {x y : Nat} (h : Takes f x y) : follows (f.blocks.getD x default) = [(y : Int)] := by
  unfold follows; rw [if_pos h.fin, h.to]

/-- Each reached block lies on a path, whose number is reached. -/
theorem reached_on {f : GFn} (h : VF f) {x : Nat} (hx : RF (nextL f) (-1) 0 x) : ∃ j p, j < (headsL f).length ∧ PathOf f ((headsL f).getD j default) p ∧ (pathsL f).getD j default = ints p ∧ x ∈ p ∧ RF (nextL (tidyG f)) (-1) 0 j := by
  have hg : (nextL (tidyG f)).length = (headsL f).length := by rw [nextL_length, tidyG_length]
  induction hx with
  | refl h0 h1 h2 =>
    obtain ⟨z0, z1⟩ := heads_zero h
    obtain ⟨p, hp, e⟩ := path_at h z0
    refine ⟨0, p, z0, hp, e, ?_, RF.refl (by omega) (by rw [hg]; omega) (by omega)⟩
    have h3 := hp.h
    rw [z1] at h3
    show 0 ∈ p
    rw [← h3]
    exact getD_mem (List.length_pos_iff.2 hp.g.ne)
  | @step x y hr hy h0 h1 h2 ih =>
    obtain ⟨j, p, hj, hp, e, hxp, hrg⟩ := ih
    have hxl := hp.g.lt x hxp
    have hxr := hp.g.rch x hxp
    rw [nextL_getD] at hy
    rcases step_cases h hxl hxr hy with hh | ht
    · obtain ⟨y1, y2, y3⟩ := reach_step h hxl hxr hy
      obtain ⟨j2, hj2, e2, hb2⟩ := begins_of h y1 hh
      obtain ⟨p2, hp2, ep2⟩ := path_at h hj2
      have hlast : x = lastN p := by
        rcases on_path hp hxp with hl | ⟨z, hz, ht⟩
        · exact hl
        · exfalso
          rw [takes_follows ht] at hy
          have e3 : y.toNat = z := by simp at hy; omega
          rw [e3] at hh
          exact byL_neg ht.kn (isHead_iff.1 hh).2 h.inN _ ht
      refine ⟨j2, p2, hj2, hp2, ep2, ?_, ?_⟩
      · have h3 := hp2.h
        rw [e2] at h3
        rw [← h3]
        exact getD_mem (List.length_pos_iff.2 hp2.g.ne)
      · have h4 : (j2 : Int) ∈ (nextL (tidyG f)).getD j default := by
          rw [nextL_getD, tidy_follows h hj hp e, ← hlast, List.mem_map]
          exact ⟨y, hy, by rw [← y2]; exact hb2⟩
        have := RF.step hrg h4 (by omega) (by rw [hg]; omega) (by omega)
        simpa using this
    · refine ⟨j, p, hj, hp, e, ?_, hrg⟩
      rcases on_path hp hxp with hl | ⟨z, hz, ht'⟩
      · rw [hl] at ht; exact absurd ht (hp.last _)
      · rw [ht.uniq ht']; exact hz
theorem tidy_reached {f : GFn} (h : VF f) {k : Nat} (hk : k < (headsL f).length) : RF (nextL (tidyG f)) (-1) 0 k := by
  have hm := heads_lt (getD_mem hk)
  obtain ⟨j, p, hj, hp, e, hx, hr⟩ := reached_on h ((reachL_iff f _).1 (isHead_iff.1 hm.2).1)
  have h1 := head_on_path h hp hx hm.2
  have := nodup_getD (heads_nodup f) hk hj h1
  rw [this]; exact hr

/-! ### Nothing is left to join -/
def srcs (next : List (List Int)) (k : Nat) (m : Nat) : List Int := (List.range m).flatMap (fun j => List.replicate ((next.getD j default).count (k : Int)) (j : Int))
theorem mem_srcs {next : List (List Int)} {k m : Nat} {x : Int} : x ∈ srcs next k m ↔ ∃ j : Nat, j < m ∧ x = (j : Int) ∧ (k : Int) ∈ next.getD j default := by
  unfold srcs
  rw [List.mem_flatMap]
  constructor
  · rintro ⟨j, h1, h2⟩
    obtain ⟨h3, h4⟩ := List.mem_replicate.1 h2
    exact ⟨j, by simpa using h1, h4, List.count_pos_iff.1 (by omega)⟩
  · rintro ⟨j, h1, h2, h3⟩
    exact ⟨j, by simpa using h1, List.mem_replicate.2 ⟨by have := List.count_pos_iff.2 h3; omega, h2⟩⟩
theorem flatMap_one {g : Nat → List Int} {l : Nat} {z : List Int} : ∀ (n : Nat), l < n → g l = z → (∀ i, i < n → i ≠ l → g i = []) → (List.range n).flatMap g = z
  | 0, h, _, _ => by omega
  | n + 1, h, hl, hz => by
    rw [List.range_succ, List.flatMap_append]
    have hsing : [n].flatMap g = g n := by simp
    rw [hsing]
    by_cases e : l = n
    · have : (List.range n).flatMap g = [] := by
        rw [List.flatMap_eq_nil_iff]
        intro i hi
        exact hz i (by have := List.mem_range.1 hi; omega) (by have := List.mem_range.1 hi; omega)
      rw [this, ← e, hl]; rfl
    · rw [flatMap_one n (by omega) hl (fun i hi hne => hz i (by omega) hne), hz n (by omega) (by omega), List.append_nil]
theorem tidy_most {f : GFn} (h : VF f) {k : Nat} (hk : k < (headsL f).length) (hk0 : 0 < k) : srcs (nextL (tidyG f)) k (headsL f).length ≠ [] ∧ ∀ j : Nat, srcs (nextL (tidyG f)) k (headsL f).length = [(j : Int)] → j ≠ k → ((tidyG f).blocks.getD j default).fin = 1 → False := by
  constructor
  · intro he
    have hr := tidy_reached h hk
    cases hr with
    | @step x y hx hy h0 h1 h2 =>
      have hm : (x : Int) ∈ srcs (nextL (tidyG f)) y.toNat (headsL f).length := mem_srcs.2 ⟨x, by have := hx.lt; rw [nextL_length, tidyG_length] at this; exact this, rfl, by rw [show ((y.toNat : Nat) : Int) = y by omega]; exact hy⟩
      rw [he] at hm
      cases hm
    | refl => omega
  · intro j hs hjk hfin
    have hjm : (j : Int) ∈ srcs (nextL (tidyG f)) k (headsL f).length := by rw [hs]; simp
    obtain ⟨j', hj, ej, hkf⟩ := mem_srcs.1 hjm
    have ej' : j = j' := by omega
    subst ej'
    obtain ⟨p, hp, e⟩ := path_at h hj
    rw [nextL_getD, tidy_follows h hj hp e, List.mem_map] at hkf
    obtain ⟨y, hy, hby⟩ := hkf
    obtain ⟨y1, y2, y3⟩ := last_head h hp hy
    have hhk := heads_lt (getD_mem hk)
    have eH : y.toNat = (headsL f).getD k default := begins_inj h y1 y3 hhk.1 hhk.2 (by rw [y2, hby, begins_head h hk])
    have hll := hp.g.lt _ (lastN_mem hp)
    have hlr := hp.g.rch _ (lastN_mem hp)
    have hlfin : (f.blocks.getD (lastN p) default).fin = 1 := by
      rw [tidyG_at hj, e] at hfin
      unfold newBlock at hfin
      simp only at hfin
      rwa [lastOf_path hp] at hfin
    have hlfol : follows (f.blocks.getD (lastN p) default) = [y] := by
      have h8 := hy
      unfold follows at h8 ⊢
      rw [if_pos hlfin] at h8 ⊢
      rw [List.mem_singleton.1 h8]
    have hlne : lastN p ≠ (headsL f).getD k default := fun e2 => by
      have h5 := head_on_path h hp (lastN_mem hp) (by rw [e2]; exact hhk.2)
      have h6 := nodup_getD (heads_nodup f) hj hk (h5.symm.trans e2)
      exact hjk h6
    have hone : (fromL f).getD ((headsL f).getD k default) default = [((lastN p : Nat) : Int)] := by
      rw [fromL_getD h.inN hhk.1]
      refine flatMap_one (l := lastN p) _ hll ?_ (fun x hx hne => ?_)
      · rw [if_pos hlr, nextL_getD, hlfol, ← eH, y2]
        simp
      · split
        · rename_i hxr
          have hnm : ¬ (((headsL f).getD k default : Nat) : Int) ∈ (nextL f).getD x default := fun hm => by
            rw [nextL_getD] at hm
            obtain ⟨j2, p2, hj2, hp2, e2, hx2, _⟩ := reached_on h ((reachL_iff f x).1 hxr)
            have hlast : x = lastN p2 := by
              rcases on_path hp2 hx2 with hl | ⟨z, hz, ht⟩
              · exact hl
              · exfalso
                rw [takes_follows ht] at hm
                have e3 : (headsL f).getD k default = z := by have := List.mem_singleton.1 hm; omega
                have hh := hhk.2
                rw [e3] at hh
                exact byL_neg ht.kn (isHead_iff.1 hh).2 h.inN _ ht
            have hm2 : (j2 : Int) ∈ srcs (nextL (tidyG f)) k (headsL f).length := mem_srcs.2 ⟨j2, hj2, rfl, by
              rw [nextL_getD, tidy_follows h hj2 hp2 e2, List.mem_map, ← hlast]
              exact ⟨_, hm, begins_head h hk⟩⟩
            rw [hs] at hm2
            have e4 : j2 = j := by simp at hm2; omega
            subst e4
            have e5 : ints p2 = ints p := e2.symm.trans e
            have e6 : lastN p2 = lastN p := by
              have h7 := lastOf_ints hp2.g.ne
              rw [e5, lastOf_ints hp.g.ne] at h7
              omega
            exact hne (hlast.trans e6)
          rw [List.count_eq_zero.2 hnm]
          rfl
        · rfl
    have hby2 : (byL f).getD ((headsL f).getD k default) default = ((lastN p : Nat) : Int) := by
      rw [byL_getD f hhk.1]
      unfold takenAt
      rw [hone]
      refine if_pos ⟨?_, (isHead_iff.1 hhk.2).1, rfl, ?_, ?_⟩
      · rcases Nat.eq_zero_or_pos ((headsL f).getD k default) with h0 | h0
        · exfalso
          have := nodup_getD (heads_nodup f) hk (heads_zero h).1 (h0.trans (heads_zero h).2.symm)
          omega
        · exact h0
      · show ¬ ((lastN p : Nat) : Int) = _
        omega
      · show (blk f ((lastN p : Nat) : Int)).fin = 1
        rw [blk_nat]; exact hlfin
    have := (isHead_iff.1 hhk.2).2
    omega
end Lg
end Go.Proofs.Ytpfhmodjjljpjaa

namespace Go.Proofs.Ytpfhmodjjljpjaa
open Go.RowKit
namespace Lg
set_option maxRecDepth 100000
set_option linter.unusedVariables false
set_option linter.unusedSimpArgs false



theorem body125 : (Try.prog.funcs[125]?).map (fun fn => (fn.name == "runtime.NumGoroutine" || fn.body.isNone)) = some false := by kernel_rfl
theorem within_spec (i n : Int) : Spec Try.prog 125 [.v (.int .i64 i), .v (.int .i64 n)] 1 [] (.v (.bool (withinB i n))) 1 [] := by
  refine spec_of D (fn := Try.f125) rfl rfl (Nat.le_of_ble_eq_true rfl) ?_
  refine W_seq ?_
  refine W_seqK (b' := 17) rfl rfl ?_
  refine k_op0 (d := 4) (b := 1) (j' := 1) rfl rfl rfl rfl (.plain rfl) (T_assign rfl rfl) rfl ?_
  refine k_done rfl ?_
  refine thenK_n ?_
  refine W_seq ?_
  refine W_seqK (b' := 145) rfl rfl ?_
  refine k_op0 (d := 5) (b := 17) (j' := 1) rfl rfl rfl rfl (.plain rfl) (T_move rfl rfl) rfl ?_
  refine k_op0 (d := 6) (b := 33) (j' := 2) rfl rfl rfl rfl (.plain rfl) (T_cmp rfl rfl rfl rfl) rfl ?_
  refine k_op0 (d := 7) (b := 49) (j' := 3) rfl rfl rfl rfl (.plain rfl) (T_move rfl rfl) rfl ?_
  refine k_split (d := 7) rfl (fun g1 => ?_) (fun g1 => ?_)
  · have h1 := g1; (try simp only [cmpB, decide_eq_true_eq, decide_eq_false_iff_not, beq_iff_eq, beq_eq_false_iff_ne, bne_iff_ne, ne_eq, bne_eq_false_iff_eq, Bool.not_eq_true', Bool.not_eq_false', Int.not_lt, Int.not_le] at h1)
    refine k_op0 (d := 8) (b := 65) (j' := 4) rfl rfl rfl rfl (g_tt rfl rfl rfl g1) (T_move rfl rfl) rfl ?_
    refine k_op0 (d := 9) (b := 81) (j' := 5) rfl rfl rfl rfl (g_tt rfl rfl rfl g1) (T_move rfl rfl) rfl ?_
    refine k_op0 (d := 10) (b := 97) (j' := 6) rfl rfl rfl rfl (g_tt rfl rfl rfl g1) (T_cmp rfl rfl rfl rfl) rfl ?_
    refine k_op0 (d := 11) (b := 113) (j' := 7) rfl rfl rfl rfl (.plain rfl) (T_pick_t rfl rfl rfl g1) rfl ?_
    refine k_op0 (d := 4) (b := 129) (j' := 8) rfl rfl rfl rfl (.plain rfl) (T_assign rfl rfl) rfl ?_
    refine k_done rfl ?_
    refine thenK_n ?_
    refine W_ret ?_
    -- end 0
    exact .mk [] (.inr rfl) (.tmp rfl (.nil)) (by first | rfl | (simp only [resLV, LV.ren, LV.v.injEq, Value.bool.injEq]; unfold withinB; rw [decide_eq_true (by omega)]; rfl) | (simp only [resLV, LV.ren, LV.v.injEq, Value.bool.injEq]; unfold withinB; rw [decide_eq_false (p := 0 ≤ i) (by omega)]; rfl)) (.nil) rfl
  · have h1 := g1; (try simp only [cmpB, decide_eq_true_eq, decide_eq_false_iff_not, beq_iff_eq, beq_eq_false_iff_ne, bne_iff_ne, ne_eq, bne_eq_false_iff_eq, Bool.not_eq_true', Bool.not_eq_false', Int.not_lt, Int.not_le] at h1)
    refine k_no (d := 8) (j' := 4) rfl rfl rfl (g_tf rfl rfl rfl g1) ?_
    refine k_no (d := 9) (j' := 5) rfl rfl rfl (g_tf rfl rfl rfl g1) ?_
    refine k_no (d := 10) (j' := 6) rfl rfl rfl (g_tf rfl rfl rfl g1) ?_
    refine k_op0 (d := 11) (b := 113) (j' := 7) rfl rfl rfl rfl (.plain rfl) (T_pick_f rfl rfl rfl g1) rfl ?_
    refine k_op0 (d := 4) (b := 129) (j' := 8) rfl rfl rfl rfl (.plain rfl) (T_assign rfl rfl) rfl ?_
    refine k_done rfl ?_
    refine thenK_n ?_
    refine W_ret ?_
    -- end 1
    exact .mk [] (.inr rfl) (.tmp rfl (.nil)) (by first | rfl | (simp only [resLV, LV.ren, LV.v.injEq, Value.bool.injEq]; unfold withinB; rw [decide_eq_true (by omega)]; rfl) | (simp only [resLV, LV.ren, LV.v.injEq, Value.bool.injEq]; unfold withinB; rw [decide_eq_false (p := 0 ≤ i) (by omega)]; rfl)) (.nil) rfl

theorem body86 : (Try.prog.funcs[86]?).map (fun fn => (fn.name == "runtime.NumGoroutine" || fn.body.isNone)) = some false := by kernel_rfl
theorem sets_spec (t : GTac) : Spec Try.prog 86 [.agg [.v (.int .i64 t.op), .v (.int .i64 t.d), .v (.int .i64 t.a), .v (.int .i64 t.b), .v (.int .i64 t.k), .v (.int .i64 t.base), .v (.int .i64 t.size), .v (.int .u32 t.n)]] 1 [] (.v (.int .i64 (setsT t))) 1 [] := by
  refine spec_of D (fn := Try.f86) rfl rfl (Nat.le_of_ble_eq_true rfl) ?_
  refine W_seq ?_
  refine W_seqK (b' := 33) rfl rfl ?_
  refine k_op1 (d := 1) (b := 1) (j' := 1) rfl rfl rfl rfl (.plain rfl) (T_box rfl rfl flat_agg) rfl ?_
  refine k_op0 (d := 2) (b := 17) (j' := 2) rfl rfl rfl rfl (.plain rfl) (T_assign rfl rfl) rfl ?_
  refine k_done rfl ?_
  refine thenK_n ?_
  refine W_seq ?_
  refine W_seq ?_
  refine W_seqK (b' := 65) rfl rfl ?_
  refine k_op0 (d := 3) (b := 33) (j' := 1) rfl rfl rfl rfl (.plain rfl) (T_fa D (m := 0) rfl rfl rfl rfl rfl rfl) rfl ?_
  refine k_op0 (d := 4) (b := 49) (j' := 2) rfl rfl rfl rfl (.plain rfl) (T_load_b D rfl rfl rfl rfl rfl rfl) rfl ?_
  refine k_done rfl ?_
  refine thenK_n ?_
  refine W_block ?_
  refine W_seq ?_
  refine W_seq ?_
  refine W_seqK (b' := 97) rfl rfl ?_
  refine k_op0 (d := 6) (b := 65) (j' := 1) rfl rfl rfl rfl (.plain rfl) (T_cmp rfl rfl rfl rfl) rfl ?_
  refine k_op0 (d := 5) (b := 81) (j' := 2) rfl rfl rfl rfl (.plain rfl) (T_assign rfl rfl) rfl ?_
  refine k_done rfl ?_
  refine thenK_n ?_
  refine W_cond rfl (fun g1 => ?_) (fun g1 => ?_)
  · have h1 := g1; (try simp only [cmpB, decide_eq_true_eq, decide_eq_false_iff_not, beq_iff_eq, beq_eq_false_iff_ne, bne_iff_ne, ne_eq, bne_eq_false_iff_eq, Bool.not_eq_true', Bool.not_eq_false', Int.not_lt, Int.not_le] at h1)
    refine W_skip ?_
    refine thenK_n ?_
    refine W_cond rfl (fun g2 => ?_) (fun g2 => ?_)
    · skip
      refine W_seq ?_
      refine W_seqK (b' := 145) rfl rfl ?_
      refine k_op0 (d := 12) (b := 97) (j' := 1) rfl rfl rfl rfl (.plain rfl) (T_fa D (m := 1) rfl rfl rfl rfl rfl rfl) rfl ?_
      refine k_op0 (d := 13) (b := 113) (j' := 2) rfl rfl rfl rfl (.plain rfl) (T_load_b D rfl rfl rfl rfl rfl rfl) rfl ?_
      refine k_op0 (d := 2) (b := 129) (j' := 3) rfl rfl rfl rfl (.plain rfl) (T_assign rfl rfl) rfl ?_
      refine k_done rfl ?_
      refine thenK_n ?_
      refine W_ret ?_
      refine blockK_r ?_
      refine thenK_r ?_
      -- end 0
      exact .mk [] (.inr rfl) (.tmp rfl (.nil)) (by first | (simp only [resLV, LV.ren, LV.v.injEq, Value.int.injEq, true_and]; unfold setsT; rw [setsOp_t (by omega)]; rfl) | (simp only [resLV, LV.ren, LV.v.injEq, Value.int.injEq, true_and]; unfold setsT; rw [setsOp_f (by omega)]; rfl)) (.nil) rfl
    · exact absurd (g2.symm.trans g1) (by decide)
  · have h1 := g1; (try simp only [cmpB, decide_eq_true_eq, decide_eq_false_iff_not, beq_iff_eq, beq_eq_false_iff_ne, bne_iff_ne, ne_eq, bne_eq_false_iff_eq, Bool.not_eq_true', Bool.not_eq_false', Int.not_lt, Int.not_le] at h1)
    refine W_seq ?_
    refine W_seqK (b' := 129) rfl rfl ?_
    refine k_op0 (d := 7) (b := 97) (j' := 1) rfl rfl rfl rfl (.plain rfl) (T_cmp rfl rfl rfl rfl) rfl ?_
    refine k_op0 (d := 5) (b := 113) (j' := 2) rfl rfl rfl rfl (.plain rfl) (T_assign rfl rfl) rfl ?_
    refine k_done rfl ?_
    refine thenK_n ?_
    refine W_cond rfl (fun g3 => ?_) (fun g3 => ?_)
    · have h3 := g3; (try simp only [cmpB, decide_eq_true_eq, decide_eq_false_iff_not, beq_iff_eq, beq_eq_false_iff_ne, bne_iff_ne, ne_eq, bne_eq_false_iff_eq, Bool.not_eq_true', Bool.not_eq_false', Int.not_lt, Int.not_le] at h3)
      refine W_skip ?_
      refine thenK_n ?_
      refine W_cond rfl (fun g4 => ?_) (fun g4 => ?_)
      · skip
        refine W_seq ?_
        refine W_seqK (b' := 177) rfl rfl ?_
        refine k_op0 (d := 12) (b := 129) (j' := 1) rfl rfl rfl rfl (.plain rfl) (T_fa D (m := 1) rfl rfl rfl rfl rfl rfl) rfl ?_
        refine k_op0 (d := 13) (b := 145) (j' := 2) rfl rfl rfl rfl (.plain rfl) (T_load_b D rfl rfl rfl rfl rfl rfl) rfl ?_
        refine k_op0 (d := 2) (b := 161) (j' := 3) rfl rfl rfl rfl (.plain rfl) (T_assign rfl rfl) rfl ?_
        refine k_done rfl ?_
        refine thenK_n ?_
        refine W_ret ?_
        refine blockK_r ?_
        refine thenK_r ?_
        -- end 1
        exact .mk [] (.inr rfl) (.tmp rfl (.nil)) (by first | (simp only [resLV, LV.ren, LV.v.injEq, Value.int.injEq, true_and]; unfold setsT; rw [setsOp_t (by omega)]; rfl) | (simp only [resLV, LV.ren, LV.v.injEq, Value.int.injEq, true_and]; unfold setsT; rw [setsOp_f (by omega)]; rfl)) (.nil) rfl
      · exact absurd (g4.symm.trans g3) (by decide)
    · have h3 := g3; (try simp only [cmpB, decide_eq_true_eq, decide_eq_false_iff_not, beq_iff_eq, beq_eq_false_iff_ne, bne_iff_ne, ne_eq, bne_eq_false_iff_eq, Bool.not_eq_true', Bool.not_eq_false', Int.not_lt, Int.not_le] at h3)
      refine W_seq ?_
      refine W_seqK (b' := 161) rfl rfl ?_
      refine k_op0 (d := 8) (b := 129) (j' := 1) rfl rfl rfl rfl (.plain rfl) (T_cmp rfl rfl rfl rfl) rfl ?_
      refine k_op0 (d := 5) (b := 145) (j' := 2) rfl rfl rfl rfl (.plain rfl) (T_assign rfl rfl) rfl ?_
      refine k_done rfl ?_
      refine thenK_n ?_
      refine W_cond rfl (fun g5 => ?_) (fun g5 => ?_)
      · have h5 := g5; (try simp only [cmpB, decide_eq_true_eq, decide_eq_false_iff_not, beq_iff_eq, beq_eq_false_iff_ne, bne_iff_ne, ne_eq, bne_eq_false_iff_eq, Bool.not_eq_true', Bool.not_eq_false', Int.not_lt, Int.not_le] at h5)
        refine W_skip ?_
        refine thenK_n ?_
        refine W_cond rfl (fun g6 => ?_) (fun g6 => ?_)
        · skip
          refine W_seq ?_
          refine W_seqK (b' := 209) rfl rfl ?_
          refine k_op0 (d := 12) (b := 161) (j' := 1) rfl rfl rfl rfl (.plain rfl) (T_fa D (m := 1) rfl rfl rfl rfl rfl rfl) rfl ?_
          refine k_op0 (d := 13) (b := 177) (j' := 2) rfl rfl rfl rfl (.plain rfl) (T_load_b D rfl rfl rfl rfl rfl rfl) rfl ?_
          refine k_op0 (d := 2) (b := 193) (j' := 3) rfl rfl rfl rfl (.plain rfl) (T_assign rfl rfl) rfl ?_
          refine k_done rfl ?_
          refine thenK_n ?_
          refine W_ret ?_
          refine blockK_r ?_
          refine thenK_r ?_
          -- end 2
          exact .mk [] (.inr rfl) (.tmp rfl (.nil)) (by first | (simp only [resLV, LV.ren, LV.v.injEq, Value.int.injEq, true_and]; unfold setsT; rw [setsOp_t (by omega)]; rfl) | (simp only [resLV, LV.ren, LV.v.injEq, Value.int.injEq, true_and]; unfold setsT; rw [setsOp_f (by omega)]; rfl)) (.nil) rfl
        · exact absurd (g6.symm.trans g5) (by decide)
      · have h5 := g5; (try simp only [cmpB, decide_eq_true_eq, decide_eq_false_iff_not, beq_iff_eq, beq_eq_false_iff_ne, bne_iff_ne, ne_eq, bne_eq_false_iff_eq, Bool.not_eq_true', Bool.not_eq_false', Int.not_lt, Int.not_le] at h5)
        refine W_seq ?_
        refine W_seqK (b' := 193) rfl rfl ?_
        refine k_op0 (d := 9) (b := 161) (j' := 1) rfl rfl rfl rfl (.plain rfl) (T_cmp rfl rfl rfl rfl) rfl ?_
        refine k_op0 (d := 5) (b := 177) (j' := 2) rfl rfl rfl rfl (.plain rfl) (T_assign rfl rfl) rfl ?_
        refine k_done rfl ?_
        refine thenK_n ?_
        refine W_cond rfl (fun g7 => ?_) (fun g7 => ?_)
        · have h7 := g7; (try simp only [cmpB, decide_eq_true_eq, decide_eq_false_iff_not, beq_iff_eq, beq_eq_false_iff_ne, bne_iff_ne, ne_eq, bne_eq_false_iff_eq, Bool.not_eq_true', Bool.not_eq_false', Int.not_lt, Int.not_le] at h7)
          refine W_skip ?_
          refine thenK_n ?_
          refine W_cond rfl (fun g8 => ?_) (fun g8 => ?_)
          · skip
            refine W_seq ?_
            refine W_seqK (b' := 241) rfl rfl ?_
            refine k_op0 (d := 12) (b := 193) (j' := 1) rfl rfl rfl rfl (.plain rfl) (T_fa D (m := 1) rfl rfl rfl rfl rfl rfl) rfl ?_
            refine k_op0 (d := 13) (b := 209) (j' := 2) rfl rfl rfl rfl (.plain rfl) (T_load_b D rfl rfl rfl rfl rfl rfl) rfl ?_
            refine k_op0 (d := 2) (b := 225) (j' := 3) rfl rfl rfl rfl (.plain rfl) (T_assign rfl rfl) rfl ?_
            refine k_done rfl ?_
            refine thenK_n ?_
            refine W_ret ?_
            refine blockK_r ?_
            refine thenK_r ?_
            -- end 3
            exact .mk [] (.inr rfl) (.tmp rfl (.nil)) (by first | (simp only [resLV, LV.ren, LV.v.injEq, Value.int.injEq, true_and]; unfold setsT; rw [setsOp_t (by omega)]; rfl) | (simp only [resLV, LV.ren, LV.v.injEq, Value.int.injEq, true_and]; unfold setsT; rw [setsOp_f (by omega)]; rfl)) (.nil) rfl
          · exact absurd (g8.symm.trans g7) (by decide)
        · have h7 := g7; (try simp only [cmpB, decide_eq_true_eq, decide_eq_false_iff_not, beq_iff_eq, beq_eq_false_iff_ne, bne_iff_ne, ne_eq, bne_eq_false_iff_eq, Bool.not_eq_true', Bool.not_eq_false', Int.not_lt, Int.not_le] at h7)
          refine W_seq ?_
          refine W_seqK (b' := 225) rfl rfl ?_
          refine k_op0 (d := 10) (b := 193) (j' := 1) rfl rfl rfl rfl (.plain rfl) (T_cmp rfl rfl rfl rfl) rfl ?_
          refine k_op0 (d := 5) (b := 209) (j' := 2) rfl rfl rfl rfl (.plain rfl) (T_assign rfl rfl) rfl ?_
          refine k_done rfl ?_
          refine thenK_n ?_
          refine W_cond rfl (fun g9 => ?_) (fun g9 => ?_)
          · have h9 := g9; (try simp only [cmpB, decide_eq_true_eq, decide_eq_false_iff_not, beq_iff_eq, beq_eq_false_iff_ne, bne_iff_ne, ne_eq, bne_eq_false_iff_eq, Bool.not_eq_true', Bool.not_eq_false', Int.not_lt, Int.not_le] at h9)
            refine W_skip ?_
            refine thenK_n ?_
            refine W_cond rfl (fun g10 => ?_) (fun g10 => ?_)
            · skip
              refine W_seq ?_
              refine W_seqK (b' := 273) rfl rfl ?_
              refine k_op0 (d := 12) (b := 225) (j' := 1) rfl rfl rfl rfl (.plain rfl) (T_fa D (m := 1) rfl rfl rfl rfl rfl rfl) rfl ?_
              refine k_op0 (d := 13) (b := 241) (j' := 2) rfl rfl rfl rfl (.plain rfl) (T_load_b D rfl rfl rfl rfl rfl rfl) rfl ?_
              refine k_op0 (d := 2) (b := 257) (j' := 3) rfl rfl rfl rfl (.plain rfl) (T_assign rfl rfl) rfl ?_
              refine k_done rfl ?_
              refine thenK_n ?_
              refine W_ret ?_
              refine blockK_r ?_
              refine thenK_r ?_
              -- end 4
              exact .mk [] (.inr rfl) (.tmp rfl (.nil)) (by first | (simp only [resLV, LV.ren, LV.v.injEq, Value.int.injEq, true_and]; unfold setsT; rw [setsOp_t (by omega)]; rfl) | (simp only [resLV, LV.ren, LV.v.injEq, Value.int.injEq, true_and]; unfold setsT; rw [setsOp_f (by omega)]; rfl)) (.nil) rfl
            · exact absurd (g10.symm.trans g9) (by decide)
          · have h9 := g9; (try simp only [cmpB, decide_eq_true_eq, decide_eq_false_iff_not, beq_iff_eq, beq_eq_false_iff_ne, bne_iff_ne, ne_eq, bne_eq_false_iff_eq, Bool.not_eq_true', Bool.not_eq_false', Int.not_lt, Int.not_le] at h9)
            refine W_seqK (b' := 257) rfl rfl ?_
            refine k_op0 (d := 11) (b := 225) (j' := 1) rfl rfl rfl rfl (.plain rfl) (T_cmp rfl rfl rfl rfl) rfl ?_
            refine k_op0 (d := 5) (b := 241) (j' := 2) rfl rfl rfl rfl (.plain rfl) (T_assign rfl rfl) rfl ?_
            refine k_done rfl ?_
            refine thenK_n ?_
            refine W_cond rfl (fun g11 => ?_) (fun g11 => ?_)
            · have h11 := g11; (try simp only [cmpB, decide_eq_true_eq, decide_eq_false_iff_not, beq_iff_eq, beq_eq_false_iff_ne, bne_iff_ne, ne_eq, bne_eq_false_iff_eq, Bool.not_eq_true', Bool.not_eq_false', Int.not_lt, Int.not_le] at h11)
              refine W_seq ?_
              refine W_seqK (b' := 305) rfl rfl ?_
              refine k_op0 (d := 12) (b := 257) (j' := 1) rfl rfl rfl rfl (.plain rfl) (T_fa D (m := 1) rfl rfl rfl rfl rfl rfl) rfl ?_
              refine k_op0 (d := 13) (b := 273) (j' := 2) rfl rfl rfl rfl (.plain rfl) (T_load_b D rfl rfl rfl rfl rfl rfl) rfl ?_
              refine k_op0 (d := 2) (b := 289) (j' := 3) rfl rfl rfl rfl (.plain rfl) (T_assign rfl rfl) rfl ?_
              refine k_done rfl ?_
              refine thenK_n ?_
              refine W_ret ?_
              refine blockK_r ?_
              refine thenK_r ?_
              -- end 5
              exact .mk [] (.inr rfl) (.tmp rfl (.nil)) (by first | (simp only [resLV, LV.ren, LV.v.injEq, Value.int.injEq, true_and]; unfold setsT; rw [setsOp_t (by omega)]; rfl) | (simp only [resLV, LV.ren, LV.v.injEq, Value.int.injEq, true_and]; unfold setsT; rw [setsOp_f (by omega)]; rfl)) (.nil) rfl
            · have h11 := g11; (try simp only [cmpB, decide_eq_true_eq, decide_eq_false_iff_not, beq_iff_eq, beq_eq_false_iff_ne, bne_iff_ne, ne_eq, bne_eq_false_iff_eq, Bool.not_eq_true', Bool.not_eq_false', Int.not_lt, Int.not_le] at h11)
              refine W_skip ?_
              refine blockK_n ?_
              refine thenK_n ?_
              refine W_seq ?_
              refine W_seqK (b' := 273) rfl rfl ?_
              refine k_op0 (d := 2) (b := 257) (j' := 1) rfl rfl rfl rfl (.plain rfl) (T_assign rfl rfl) rfl ?_
              refine k_done rfl ?_
              refine thenK_n ?_
              refine W_ret ?_
              -- end 6
              exact .mk [] (.inr rfl) (.tmp rfl (.nil)) (by first | (simp only [resLV, LV.ren, LV.v.injEq, Value.int.injEq, true_and]; unfold setsT; rw [setsOp_t (by omega)]; rfl) | (simp only [resLV, LV.ren, LV.v.injEq, Value.int.injEq, true_and]; unfold setsT; rw [setsOp_f (by omega)]; rfl)) (.nil) rfl

theorem body60 : (Try.prog.funcs[60]?).map (fun fn => (fn.name == "runtime.NumGoroutine" || fn.body.isNone)) = some false := by kernel_rfl
theorem uses_spec (t : GTac) : Spec Try.prog 60 [.agg [.v (.int .i64 t.op), .v (.int .i64 t.d), .v (.int .i64 t.a), .v (.int .i64 t.b), .v (.int .i64 t.k), .v (.int .i64 t.base), .v (.int .i64 t.size), .v (.int .u32 t.n)]] 1 [] (.r 1) 2 [(1, .row 3 1 ((usesT t).map eI))] := by
  refine spec_of D (fn := Try.f60) rfl rfl (Nat.le_of_ble_eq_true rfl) ?_
  refine W_seq ?_
  refine W_seqK (b' := 33) rfl rfl ?_
  refine k_op1 (d := 1) (b := 1) (j' := 1) rfl rfl rfl rfl (.plain rfl) (T_box rfl rfl flat_agg) rfl ?_
  refine k_op1 (d := 2) (b := 17) (j' := 2) rfl rfl rfl rfl (.plain rfl) (T_nils [(3, 1)] (T_assign rfl rfl) rfl (.inr ⟨rfl, rfl⟩) (.cons (.nil rfl) .nil) (lv' := .r 17) (upd' := [(17, .row 3 1 (List.map eI ([] : List (Int))))]) (nn' := 1) rfl rfl) rfl ?_
  refine k_done rfl ?_
  refine thenK_n ?_
  refine W_seq ?_
  refine W_seq ?_
  refine W_seqK (b' := 65) rfl rfl ?_
  refine k_op0 (d := 3) (b := 33) (j' := 1) rfl rfl rfl rfl (.plain rfl) (T_fa D (m := 0) rfl rfl rfl rfl rfl rfl) rfl ?_
  refine k_op0 (d := 4) (b := 49) (j' := 2) rfl rfl rfl rfl (.plain rfl) (T_load_b D rfl rfl rfl rfl rfl rfl) rfl ?_
  refine k_done rfl ?_
  refine thenK_n ?_
  refine W_block ?_
  refine W_seq ?_
  refine W_seq ?_
  refine W_seqK (b' := 97) rfl rfl ?_
  refine k_op0 (d := 6) (b := 65) (j' := 1) rfl rfl rfl rfl (.plain rfl) (T_cmp rfl rfl rfl rfl) rfl ?_
  refine k_op0 (d := 5) (b := 81) (j' := 2) rfl rfl rfl rfl (.plain rfl) (T_assign rfl rfl) rfl ?_
  refine k_done rfl ?_
  refine thenK_n ?_
  refine W_cond rfl (fun g1 => ?_) (fun g1 => ?_)
  · have h1 := g1; (try simp only [cmpB, decide_eq_true_eq, decide_eq_false_iff_not, beq_iff_eq, beq_eq_false_iff_ne, bne_iff_ne, ne_eq, bne_eq_false_iff_eq, Bool.not_eq_true', Bool.not_eq_false', Int.not_lt, Int.not_le] at h1)
    refine W_skip ?_
    refine thenK_n ?_
    refine W_cond rfl (fun g2 => ?_) (fun g2 => ?_)
    · skip
      refine W_seq ?_
      refine W_seqK (b' := 161) rfl rfl ?_
      refine k_op0 (d := 10) (b := 97) (j' := 1) rfl rfl rfl rfl (.plain rfl) (T_fa D (m := 2) rfl rfl rfl rfl rfl rfl) rfl ?_
      refine k_op0 (d := 11) (b := 113) (j' := 2) rfl rfl rfl rfl (.plain rfl) (T_load_b D rfl rfl rfl rfl rfl rfl) rfl ?_
      refine k_op1 (d := 12) (b := 129) (j' := 3) rfl rfl rfl rfl (.plain rfl) (T_bs D (ys := [_]) (enc := eI) (l := [_]) rfl rfl rfl rfl rfl rfl (.cons rfl (flat_v rfl) (.nil)) rfl rfl rfl rfl (.v rfl (.nil)) rfl rfl) rfl ?_
      refine k_op0 (d := 2) (b := 145) (j' := 4) rfl rfl rfl rfl (.plain rfl) (T_assign rfl rfl) rfl ?_
      refine k_done rfl ?_
      refine thenK_n ?_
      refine W_ret ?_
      refine blockK_r ?_
      refine thenK_r ?_
      -- end 0
      exact .mk [(1, 129)] (.inr rfl) (.tmp rfl (.nil)) rfl (.rowE rfl (.nil) (by first | (unfold usesT; rw [if_pos (by omega)]; done) | (unfold usesT; rw [if_pos (by omega)]; rfl) | (unfold usesT; rw [if_neg (by omega), if_pos (by omega)]; done) | (unfold usesT; rw [if_neg (by omega), if_neg (by omega)]; done))) rfl
    · exact absurd (g2.symm.trans g1) (by decide)
  · have h1 := g1; (try simp only [cmpB, decide_eq_true_eq, decide_eq_false_iff_not, beq_iff_eq, beq_eq_false_iff_ne, bne_iff_ne, ne_eq, bne_eq_false_iff_eq, Bool.not_eq_true', Bool.not_eq_false', Int.not_lt, Int.not_le] at h1)
    refine W_seq ?_
    refine W_seqK (b' := 129) rfl rfl ?_
    refine k_op0 (d := 7) (b := 97) (j' := 1) rfl rfl rfl rfl (.plain rfl) (T_cmp rfl rfl rfl rfl) rfl ?_
    refine k_op0 (d := 5) (b := 113) (j' := 2) rfl rfl rfl rfl (.plain rfl) (T_assign rfl rfl) rfl ?_
    refine k_done rfl ?_
    refine thenK_n ?_
    refine W_cond rfl (fun g3 => ?_) (fun g3 => ?_)
    · have h3 := g3; (try simp only [cmpB, decide_eq_true_eq, decide_eq_false_iff_not, beq_iff_eq, beq_eq_false_iff_ne, bne_iff_ne, ne_eq, bne_eq_false_iff_eq, Bool.not_eq_true', Bool.not_eq_false', Int.not_lt, Int.not_le] at h3)
      refine W_skip ?_
      refine thenK_n ?_
      refine W_cond rfl (fun g4 => ?_) (fun g4 => ?_)
      · skip
        refine W_seq ?_
        refine W_seqK (b' := 193) rfl rfl ?_
        refine k_op0 (d := 10) (b := 129) (j' := 1) rfl rfl rfl rfl (.plain rfl) (T_fa D (m := 2) rfl rfl rfl rfl rfl rfl) rfl ?_
        refine k_op0 (d := 11) (b := 145) (j' := 2) rfl rfl rfl rfl (.plain rfl) (T_load_b D rfl rfl rfl rfl rfl rfl) rfl ?_
        refine k_op1 (d := 12) (b := 161) (j' := 3) rfl rfl rfl rfl (.plain rfl) (T_bs D (ys := [_]) (enc := eI) (l := [_]) rfl rfl rfl rfl rfl rfl (.cons rfl (flat_v rfl) (.nil)) rfl rfl rfl rfl (.v rfl (.nil)) rfl rfl) rfl ?_
        refine k_op0 (d := 2) (b := 177) (j' := 4) rfl rfl rfl rfl (.plain rfl) (T_assign rfl rfl) rfl ?_
        refine k_done rfl ?_
        refine thenK_n ?_
        refine W_ret ?_
        refine blockK_r ?_
        refine thenK_r ?_
        -- end 1
        exact .mk [(1, 161)] (.inr rfl) (.tmp rfl (.nil)) rfl (.rowE rfl (.nil) (by first | (unfold usesT; rw [if_pos (by omega)]; done) | (unfold usesT; rw [if_pos (by omega)]; rfl) | (unfold usesT; rw [if_neg (by omega), if_pos (by omega)]; done) | (unfold usesT; rw [if_neg (by omega), if_neg (by omega)]; done))) rfl
      · exact absurd (g4.symm.trans g3) (by decide)
    · have h3 := g3; (try simp only [cmpB, decide_eq_true_eq, decide_eq_false_iff_not, beq_iff_eq, beq_eq_false_iff_ne, bne_iff_ne, ne_eq, bne_eq_false_iff_eq, Bool.not_eq_true', Bool.not_eq_false', Int.not_lt, Int.not_le] at h3)
      refine W_seq ?_
      refine W_seqK (b' := 161) rfl rfl ?_
      refine k_op0 (d := 8) (b := 129) (j' := 1) rfl rfl rfl rfl (.plain rfl) (T_cmp rfl rfl rfl rfl) rfl ?_
      refine k_op0 (d := 5) (b := 145) (j' := 2) rfl rfl rfl rfl (.plain rfl) (T_assign rfl rfl) rfl ?_
      refine k_done rfl ?_
      refine thenK_n ?_
      refine W_cond rfl (fun g5 => ?_) (fun g5 => ?_)
      · have h5 := g5; (try simp only [cmpB, decide_eq_true_eq, decide_eq_false_iff_not, beq_iff_eq, beq_eq_false_iff_ne, bne_iff_ne, ne_eq, bne_eq_false_iff_eq, Bool.not_eq_true', Bool.not_eq_false', Int.not_lt, Int.not_le] at h5)
        refine W_skip ?_
        refine thenK_n ?_
        refine W_cond rfl (fun g6 => ?_) (fun g6 => ?_)
        · skip
          refine W_seq ?_
          refine W_seqK (b' := 225) rfl rfl ?_
          refine k_op0 (d := 10) (b := 161) (j' := 1) rfl rfl rfl rfl (.plain rfl) (T_fa D (m := 2) rfl rfl rfl rfl rfl rfl) rfl ?_
          refine k_op0 (d := 11) (b := 177) (j' := 2) rfl rfl rfl rfl (.plain rfl) (T_load_b D rfl rfl rfl rfl rfl rfl) rfl ?_
          refine k_op1 (d := 12) (b := 193) (j' := 3) rfl rfl rfl rfl (.plain rfl) (T_bs D (ys := [_]) (enc := eI) (l := [_]) rfl rfl rfl rfl rfl rfl (.cons rfl (flat_v rfl) (.nil)) rfl rfl rfl rfl (.v rfl (.nil)) rfl rfl) rfl ?_
          refine k_op0 (d := 2) (b := 209) (j' := 4) rfl rfl rfl rfl (.plain rfl) (T_assign rfl rfl) rfl ?_
          refine k_done rfl ?_
          refine thenK_n ?_
          refine W_ret ?_
          refine blockK_r ?_
          refine thenK_r ?_
          -- end 2
          exact .mk [(1, 193)] (.inr rfl) (.tmp rfl (.nil)) rfl (.rowE rfl (.nil) (by first | (unfold usesT; rw [if_pos (by omega)]; done) | (unfold usesT; rw [if_pos (by omega)]; rfl) | (unfold usesT; rw [if_neg (by omega), if_pos (by omega)]; done) | (unfold usesT; rw [if_neg (by omega), if_neg (by omega)]; done))) rfl
        · exact absurd (g6.symm.trans g5) (by decide)
      · have h5 := g5; (try simp only [cmpB, decide_eq_true_eq, decide_eq_false_iff_not, beq_iff_eq, beq_eq_false_iff_ne, bne_iff_ne, ne_eq, bne_eq_false_iff_eq, Bool.not_eq_true', Bool.not_eq_false', Int.not_lt, Int.not_le] at h5)
        refine W_seqK (b' := 193) rfl rfl ?_
        refine k_op0 (d := 9) (b := 161) (j' := 1) rfl rfl rfl rfl (.plain rfl) (T_cmp rfl rfl rfl rfl) rfl ?_
        refine k_op0 (d := 5) (b := 177) (j' := 2) rfl rfl rfl rfl (.plain rfl) (T_assign rfl rfl) rfl ?_
        refine k_done rfl ?_
        refine thenK_n ?_
        refine W_cond rfl (fun g7 => ?_) (fun g7 => ?_)
        · have h7 := g7; (try simp only [cmpB, decide_eq_true_eq, decide_eq_false_iff_not, beq_iff_eq, beq_eq_false_iff_ne, bne_iff_ne, ne_eq, bne_eq_false_iff_eq, Bool.not_eq_true', Bool.not_eq_false', Int.not_lt, Int.not_le] at h7)
          refine W_seq ?_
          refine W_seqK (b' := 257) rfl rfl ?_
          refine k_op0 (d := 10) (b := 193) (j' := 1) rfl rfl rfl rfl (.plain rfl) (T_fa D (m := 2) rfl rfl rfl rfl rfl rfl) rfl ?_
          refine k_op0 (d := 11) (b := 209) (j' := 2) rfl rfl rfl rfl (.plain rfl) (T_load_b D rfl rfl rfl rfl rfl rfl) rfl ?_
          refine k_op1 (d := 12) (b := 225) (j' := 3) rfl rfl rfl rfl (.plain rfl) (T_bs D (ys := [_]) (enc := eI) (l := [_]) rfl rfl rfl rfl rfl rfl (.cons rfl (flat_v rfl) (.nil)) rfl rfl rfl rfl (.v rfl (.nil)) rfl rfl) rfl ?_
          refine k_op0 (d := 2) (b := 241) (j' := 4) rfl rfl rfl rfl (.plain rfl) (T_assign rfl rfl) rfl ?_
          refine k_done rfl ?_
          refine thenK_n ?_
          refine W_ret ?_
          refine blockK_r ?_
          refine thenK_r ?_
          -- end 3
          exact .mk [(1, 225)] (.inr rfl) (.tmp rfl (.nil)) rfl (.rowE rfl (.nil) (by first | (unfold usesT; rw [if_pos (by omega)]; done) | (unfold usesT; rw [if_pos (by omega)]; rfl) | (unfold usesT; rw [if_neg (by omega), if_pos (by omega)]; done) | (unfold usesT; rw [if_neg (by omega), if_neg (by omega)]; done))) rfl
        · have h7 := g7; (try simp only [cmpB, decide_eq_true_eq, decide_eq_false_iff_not, beq_iff_eq, beq_eq_false_iff_ne, bne_iff_ne, ne_eq, bne_eq_false_iff_eq, Bool.not_eq_true', Bool.not_eq_false', Int.not_lt, Int.not_le] at h7)
          refine W_seq ?_
          refine W_seq ?_
          refine W_seqK (b' := 225) rfl rfl ?_
          refine k_op0 (d := 14) (b := 193) (j' := 1) rfl rfl rfl rfl (.plain rfl) (T_cmp rfl rfl rfl rfl) rfl ?_
          refine k_op0 (d := 13) (b := 209) (j' := 2) rfl rfl rfl rfl (.plain rfl) (T_assign rfl rfl) rfl ?_
          refine k_done rfl ?_
          refine thenK_n ?_
          refine W_cond rfl (fun g8 => ?_) (fun g8 => ?_)
          · have h8 := g8; (try simp only [cmpB, decide_eq_true_eq, decide_eq_false_iff_not, beq_iff_eq, beq_eq_false_iff_ne, bne_iff_ne, ne_eq, bne_eq_false_iff_eq, Bool.not_eq_true', Bool.not_eq_false', Int.not_lt, Int.not_le] at h8)
            refine W_skip ?_
            refine thenK_n ?_
            refine W_cond rfl (fun g9 => ?_) (fun g9 => ?_)
            · skip
              refine W_seq ?_
              refine W_seqK (b' := 321) rfl rfl ?_
              refine k_op0 (d := 16) (b := 225) (j' := 1) rfl rfl rfl rfl (.plain rfl) (T_fa D (m := 2) rfl rfl rfl rfl rfl rfl) rfl ?_
              refine k_op0 (d := 17) (b := 241) (j' := 2) rfl rfl rfl rfl (.plain rfl) (T_load_b D rfl rfl rfl rfl rfl rfl) rfl ?_
              refine k_op0 (d := 18) (b := 257) (j' := 3) rfl rfl rfl rfl (.plain rfl) (T_fa D (m := 3) rfl rfl rfl rfl rfl rfl) rfl ?_
              refine k_op0 (d := 19) (b := 273) (j' := 4) rfl rfl rfl rfl (.plain rfl) (T_load_b D rfl rfl rfl rfl rfl rfl) rfl ?_
              refine k_op1 (d := 20) (b := 289) (j' := 5) rfl rfl rfl rfl (.plain rfl) (T_bs D (ys := [_, _]) (enc := eI) (l := [_, _]) rfl rfl rfl rfl rfl rfl (.cons rfl (flat_v rfl) (.cons rfl (flat_v rfl) (.nil))) rfl rfl rfl rfl (.v rfl (.v rfl (.nil))) rfl rfl) rfl ?_
              refine k_op0 (d := 2) (b := 305) (j' := 6) rfl rfl rfl rfl (.plain rfl) (T_assign rfl rfl) rfl ?_
              refine k_done rfl ?_
              refine thenK_n ?_
              refine W_ret ?_
              refine blockK_r ?_
              refine thenK_r ?_
              -- end 4
              exact .mk [(1, 289)] (.inr rfl) (.tmp rfl (.nil)) rfl (.rowE rfl (.nil) (by first | (unfold usesT; rw [if_pos (by omega)]; done) | (unfold usesT; rw [if_pos (by omega)]; rfl) | (unfold usesT; rw [if_neg (by omega), if_pos (by omega)]; done) | (unfold usesT; rw [if_neg (by omega), if_neg (by omega)]; done))) rfl
            · exact absurd (g9.symm.trans g8) (by decide)
          · have h8 := g8; (try simp only [cmpB, decide_eq_true_eq, decide_eq_false_iff_not, beq_iff_eq, beq_eq_false_iff_ne, bne_iff_ne, ne_eq, bne_eq_false_iff_eq, Bool.not_eq_true', Bool.not_eq_false', Int.not_lt, Int.not_le] at h8)
            refine W_seqK (b' := 257) rfl rfl ?_
            refine k_op0 (d := 15) (b := 225) (j' := 1) rfl rfl rfl rfl (.plain rfl) (T_cmp rfl rfl rfl rfl) rfl ?_
            refine k_op0 (d := 13) (b := 241) (j' := 2) rfl rfl rfl rfl (.plain rfl) (T_assign rfl rfl) rfl ?_
            refine k_done rfl ?_
            refine thenK_n ?_
            refine W_cond rfl (fun g10 => ?_) (fun g10 => ?_)
            · have h10 := g10; (try simp only [cmpB, decide_eq_true_eq, decide_eq_false_iff_not, beq_iff_eq, beq_eq_false_iff_ne, bne_iff_ne, ne_eq, bne_eq_false_iff_eq, Bool.not_eq_true', Bool.not_eq_false', Int.not_lt, Int.not_le] at h10)
              refine W_seq ?_
              refine W_seqK (b' := 353) rfl rfl ?_
              refine k_op0 (d := 16) (b := 257) (j' := 1) rfl rfl rfl rfl (.plain rfl) (T_fa D (m := 2) rfl rfl rfl rfl rfl rfl) rfl ?_
              refine k_op0 (d := 17) (b := 273) (j' := 2) rfl rfl rfl rfl (.plain rfl) (T_load_b D rfl rfl rfl rfl rfl rfl) rfl ?_
              refine k_op0 (d := 18) (b := 289) (j' := 3) rfl rfl rfl rfl (.plain rfl) (T_fa D (m := 3) rfl rfl rfl rfl rfl rfl) rfl ?_
              refine k_op0 (d := 19) (b := 305) (j' := 4) rfl rfl rfl rfl (.plain rfl) (T_load_b D rfl rfl rfl rfl rfl rfl) rfl ?_
              refine k_op1 (d := 20) (b := 321) (j' := 5) rfl rfl rfl rfl (.plain rfl) (T_bs D (ys := [_, _]) (enc := eI) (l := [_, _]) rfl rfl rfl rfl rfl rfl (.cons rfl (flat_v rfl) (.cons rfl (flat_v rfl) (.nil))) rfl rfl rfl rfl (.v rfl (.v rfl (.nil))) rfl rfl) rfl ?_
              refine k_op0 (d := 2) (b := 337) (j' := 6) rfl rfl rfl rfl (.plain rfl) (T_assign rfl rfl) rfl ?_
              refine k_done rfl ?_
              refine thenK_n ?_
              refine W_ret ?_
              refine blockK_r ?_
              refine thenK_r ?_
              -- end 5
              exact .mk [(1, 321)] (.inr rfl) (.tmp rfl (.nil)) rfl (.rowE rfl (.nil) (by first | (unfold usesT; rw [if_pos (by omega)]; done) | (unfold usesT; rw [if_pos (by omega)]; rfl) | (unfold usesT; rw [if_neg (by omega), if_pos (by omega)]; done) | (unfold usesT; rw [if_neg (by omega), if_neg (by omega)]; done))) rfl
            · have h10 := g10; (try simp only [cmpB, decide_eq_true_eq, decide_eq_false_iff_not, beq_iff_eq, beq_eq_false_iff_ne, bne_iff_ne, ne_eq, bne_eq_false_iff_eq, Bool.not_eq_true', Bool.not_eq_false', Int.not_lt, Int.not_le] at h10)
              refine W_skip ?_
              refine blockK_n ?_
              refine thenK_n ?_
              refine W_seq ?_
              refine W_seqK (b' := 273) rfl rfl ?_
              refine k_op1 (d := 2) (b := 257) (j' := 1) rfl rfl rfl rfl (.plain rfl) (T_nils [(3, 1)] (T_assign rfl rfl) rfl (.inr ⟨rfl, rfl⟩) (.cons (.nil rfl) .nil) (lv' := .r 257) (upd' := [(257, .row 3 1 (List.map eI ([] : List (Int))))]) (nn' := 1) rfl rfl) rfl ?_
              refine k_done rfl ?_
              refine thenK_n ?_
              refine W_ret ?_
              -- end 6
              exact .mk [(1, 257)] (.inr rfl) (.tmp rfl (.nil)) rfl (.rowE rfl (.nil) (by first | (unfold usesT; rw [if_pos (by omega)]; done) | (unfold usesT; rw [if_pos (by omega)]; rfl) | (unfold usesT; rw [if_neg (by omega), if_pos (by omega)]; done) | (unfold usesT; rw [if_neg (by omega), if_neg (by omega)]; done))) rfl

theorem body87 : (Try.prog.funcs[87]?).map (fun fn => (fn.name == "runtime.NumGoroutine" || fn.body.isNone)) = some false := by kernel_rfl
theorem ends_spec (b : GBlock) (n r : Int) : Spec Try.prog 87 [.agg [.r 1, .v (.int .i64 b.fin), .v (.int .i64 b.v), .v (.int .i64 b.to), .v (.int .i64 b.els)], .v (.int .i64 n), .v (.int .i64 r)] 2 [(1, .fz 8 (b.ins.map eTac))] (.v (.bool (endsB b n r))) 2 [] := by
  refine spec_of D (fn := Try.f87) rfl rfl (Nat.le_of_ble_eq_true rfl) ?_
  refine W_seq ?_
  refine W_seqK (b' := 34) rfl rfl ?_
  refine k_op1 (d := 3) (b := 2) (j' := 1) rfl rfl rfl rfl (.plain rfl) (T_box rfl rfl flat_agg) rfl ?_
  refine k_op0 (d := 6) (b := 18) (j' := 2) rfl rfl rfl rfl (.plain rfl) (T_assign rfl rfl) rfl ?_
  refine k_done rfl ?_
  refine thenK_n ?_
  refine W_seq ?_
  refine W_seq ?_
  refine W_seqK (b' := 66) rfl rfl ?_
  refine k_op0 (d := 7) (b := 34) (j' := 1) rfl rfl rfl rfl (.plain rfl) (T_fa D (m := 1) rfl rfl rfl rfl rfl rfl) rfl ?_
  refine k_op0 (d := 8) (b := 50) (j' := 2) rfl rfl rfl rfl (.plain rfl) (T_load_b D rfl rfl rfl rfl rfl rfl) rfl ?_
  refine k_done rfl ?_
  refine thenK_n ?_
  refine W_block ?_
  refine W_seq ?_
  refine W_seqK (b' := 98) rfl rfl ?_
  refine k_op0 (d := 10) (b := 66) (j' := 1) rfl rfl rfl rfl (.plain rfl) (T_cmp rfl rfl rfl rfl) rfl ?_
  refine k_op0 (d := 9) (b := 82) (j' := 2) rfl rfl rfl rfl (.plain rfl) (T_assign rfl rfl) rfl ?_
  refine k_done rfl ?_
  refine thenK_n ?_
  refine W_cond rfl (fun g1 => ?_) (fun g1 => ?_)
  · have h1 := g1; (try simp only [cmpB, decide_eq_true_eq, decide_eq_false_iff_not, beq_iff_eq, beq_eq_false_iff_ne, bne_iff_ne, ne_eq, bne_eq_false_iff_eq, Bool.not_eq_true', Bool.not_eq_false', Int.not_lt, Int.not_le] at h1)
    refine W_seq ?_
    refine W_seqK (b' := 338) rfl rfl ?_
    refine k_op0 (d := 11) (b := 98) (j' := 1) rfl rfl rfl rfl (.plain rfl) (T_fa D (m := 3) rfl rfl rfl rfl rfl rfl) rfl ?_
    refine k_op0 (d := 12) (b := 114) (j' := 2) rfl rfl rfl rfl (.plain rfl) (T_load_b D rfl rfl rfl rfl rfl rfl) rfl ?_
    refine k_op0 (d := 13) (b := 130) (j' := 3) rfl rfl rfl rfl (.plain rfl) (T_move rfl rfl) rfl ?_
    refine k_op0 (d := 14) (b := 146) (j' := 4) rfl rfl rfl rfl (.plain rfl) (T_callV (lvs := [_, _]) (L := []) (within_spec _ _) body125 rfl rfl rfl rfl (.nil) rfl) rfl ?_
    refine k_op0 (d := 15) (b := 162) (j' := 5) rfl rfl rfl rfl (.plain rfl) (T_move rfl rfl) rfl ?_
    refine k_split (d := 15) rfl (fun g2 => ?_) (fun g2 => ?_)
    · have h2 := g2; (try simp only [cmpB, decide_eq_true_eq, decide_eq_false_iff_not, beq_iff_eq, beq_eq_false_iff_ne, bne_iff_ne, ne_eq, bne_eq_false_iff_eq, Bool.not_eq_true', Bool.not_eq_false', Int.not_lt, Int.not_le] at h2)
      refine k_op0 (d := 16) (b := 178) (j' := 6) rfl rfl rfl rfl (g_tt rfl rfl rfl g2) (T_fa D (m := 2) rfl rfl rfl rfl rfl rfl) rfl ?_
      refine k_op0 (d := 17) (b := 194) (j' := 7) rfl rfl rfl rfl (g_tt rfl rfl rfl g2) (T_load_b D rfl rfl rfl rfl rfl rfl) rfl ?_
      refine k_op0 (d := 18) (b := 210) (j' := 8) rfl rfl rfl rfl (g_tt rfl rfl rfl g2) (T_cmp rfl rfl rfl rfl) rfl ?_
      refine k_op0 (d := 19) (b := 226) (j' := 9) rfl rfl rfl rfl (.plain rfl) (T_pick_t rfl rfl rfl g2) rfl ?_
      refine k_op0 (d := 20) (b := 242) (j' := 10) rfl rfl rfl rfl (.plain rfl) (T_move rfl rfl) rfl ?_
      refine k_split (d := 20) rfl (fun g3 => ?_) (fun g3 => ?_)
      · have h3 := g3; (try simp only [cmpB, decide_eq_true_eq, decide_eq_false_iff_not, beq_iff_eq, beq_eq_false_iff_ne, bne_iff_ne, ne_eq, bne_eq_false_iff_eq, Bool.not_eq_true', Bool.not_eq_false', Int.not_lt, Int.not_le] at h3)
        refine k_op0 (d := 21) (b := 258) (j' := 11) rfl rfl rfl rfl (g_tt rfl rfl rfl g3) (T_fa D (m := 4) rfl rfl rfl rfl rfl rfl) rfl ?_
        refine k_op0 (d := 22) (b := 274) (j' := 12) rfl rfl rfl rfl (g_tt rfl rfl rfl g3) (T_load_b D rfl rfl rfl rfl rfl rfl) rfl ?_
        refine k_op0 (d := 23) (b := 290) (j' := 13) rfl rfl rfl rfl (g_tt rfl rfl rfl g3) (T_cmp rfl rfl rfl rfl) rfl ?_
        refine k_op0 (d := 24) (b := 306) (j' := 14) rfl rfl rfl rfl (.plain rfl) (T_pick_t rfl rfl rfl g3) rfl ?_
        refine k_op0 (d := 6) (b := 322) (j' := 15) rfl rfl rfl rfl (.plain rfl) (T_assign rfl rfl) rfl ?_
        refine k_done rfl ?_
        refine thenK_n ?_
        refine W_ret ?_
        refine blockK_r ?_
        refine thenK_r ?_
        -- end 0
        exact .mk [] (.inr rfl) (.tmp rfl (.nil)) (by first | (simp only [resLV, LV.ren, LV.v.injEq, Value.bool.injEq]; unfold endsB; rw [if_pos (by omega)]; simp [*, cmpB]; done) | (simp only [resLV, LV.ren, LV.v.injEq, Value.bool.injEq]; unfold endsB; rw [if_neg (by omega), if_pos (by omega)]; simp [*, cmpB]; done) | (simp only [resLV, LV.ren, LV.v.injEq, Value.bool.injEq]; unfold endsB; rw [if_neg (by omega), if_neg (by omega)]; simp [*, cmpB]; done)) (.nil) rfl
      · have h3 := g3; (try simp only [cmpB, decide_eq_true_eq, decide_eq_false_iff_not, beq_iff_eq, beq_eq_false_iff_ne, bne_iff_ne, ne_eq, bne_eq_false_iff_eq, Bool.not_eq_true', Bool.not_eq_false', Int.not_lt, Int.not_le] at h3)
        refine k_no (d := 21) (j' := 11) rfl rfl rfl (g_tf rfl rfl rfl g3) ?_
        refine k_no (d := 22) (j' := 12) rfl rfl rfl (g_tf rfl rfl rfl g3) ?_
        refine k_no (d := 23) (j' := 13) rfl rfl rfl (g_tf rfl rfl rfl g3) ?_
        refine k_op0 (d := 24) (b := 306) (j' := 14) rfl rfl rfl rfl (.plain rfl) (T_pick_f rfl rfl rfl g3) rfl ?_
        refine k_op0 (d := 6) (b := 322) (j' := 15) rfl rfl rfl rfl (.plain rfl) (T_assign rfl rfl) rfl ?_
        refine k_done rfl ?_
        refine thenK_n ?_
        refine W_ret ?_
        refine blockK_r ?_
        refine thenK_r ?_
        -- end 1
        exact .mk [] (.inr rfl) (.tmp rfl (.nil)) (by first | (simp only [resLV, LV.ren, LV.v.injEq, Value.bool.injEq]; unfold endsB; rw [if_pos (by omega)]; simp [*, cmpB]; done) | (simp only [resLV, LV.ren, LV.v.injEq, Value.bool.injEq]; unfold endsB; rw [if_neg (by omega), if_pos (by omega)]; simp [*, cmpB]; done) | (simp only [resLV, LV.ren, LV.v.injEq, Value.bool.injEq]; unfold endsB; rw [if_neg (by omega), if_neg (by omega)]; simp [*, cmpB]; done)) (.nil) rfl
    · have h2 := g2; (try simp only [cmpB, decide_eq_true_eq, decide_eq_false_iff_not, beq_iff_eq, beq_eq_false_iff_ne, bne_iff_ne, ne_eq, bne_eq_false_iff_eq, Bool.not_eq_true', Bool.not_eq_false', Int.not_lt, Int.not_le] at h2)
      refine k_no (d := 16) (j' := 6) rfl rfl rfl (g_tf rfl rfl rfl g2) ?_
      refine k_no (d := 17) (j' := 7) rfl rfl rfl (g_tf rfl rfl rfl g2) ?_
      refine k_no (d := 18) (j' := 8) rfl rfl rfl (g_tf rfl rfl rfl g2) ?_
      refine k_op0 (d := 19) (b := 226) (j' := 9) rfl rfl rfl rfl (.plain rfl) (T_pick_f rfl rfl rfl g2) rfl ?_
      refine k_op0 (d := 20) (b := 242) (j' := 10) rfl rfl rfl rfl (.plain rfl) (T_move rfl rfl) rfl ?_
      refine k_no (d := 21) (j' := 11) rfl rfl rfl (g_tf rfl rfl rfl rfl) ?_
      refine k_no (d := 22) (j' := 12) rfl rfl rfl (g_tf rfl rfl rfl rfl) ?_
      refine k_no (d := 23) (j' := 13) rfl rfl rfl (g_tf rfl rfl rfl rfl) ?_
      refine k_op0 (d := 24) (b := 306) (j' := 14) rfl rfl rfl rfl (.plain rfl) (T_pick_f rfl rfl rfl rfl) rfl ?_
      refine k_op0 (d := 6) (b := 322) (j' := 15) rfl rfl rfl rfl (.plain rfl) (T_assign rfl rfl) rfl ?_
      refine k_done rfl ?_
      refine thenK_n ?_
      refine W_ret ?_
      refine blockK_r ?_
      refine thenK_r ?_
      -- end 2
      exact .mk [] (.inr rfl) (.tmp rfl (.nil)) (by first | (simp only [resLV, LV.ren, LV.v.injEq, Value.bool.injEq]; unfold endsB; rw [if_pos (by omega)]; simp [*, cmpB]; done) | (simp only [resLV, LV.ren, LV.v.injEq, Value.bool.injEq]; unfold endsB; rw [if_neg (by omega), if_pos (by omega)]; simp [*, cmpB]; done) | (simp only [resLV, LV.ren, LV.v.injEq, Value.bool.injEq]; unfold endsB; rw [if_neg (by omega), if_neg (by omega)]; simp [*, cmpB]; done)) (.nil) rfl
  · have h1 := g1; (try simp only [cmpB, decide_eq_true_eq, decide_eq_false_iff_not, beq_iff_eq, beq_eq_false_iff_ne, bne_iff_ne, ne_eq, bne_eq_false_iff_eq, Bool.not_eq_true', Bool.not_eq_false', Int.not_lt, Int.not_le] at h1)
    refine W_seq ?_
    refine W_seqK (b' := 130) rfl rfl ?_
    refine k_op0 (d := 26) (b := 98) (j' := 1) rfl rfl rfl rfl (.plain rfl) (T_cmp rfl rfl rfl rfl) rfl ?_
    refine k_op0 (d := 25) (b := 114) (j' := 2) rfl rfl rfl rfl (.plain rfl) (T_assign rfl rfl) rfl ?_
    refine k_done rfl ?_
    refine thenK_n ?_
    refine W_cond rfl (fun g4 => ?_) (fun g4 => ?_)
    · have h4 := g4; (try simp only [cmpB, decide_eq_true_eq, decide_eq_false_iff_not, beq_iff_eq, beq_eq_false_iff_ne, bne_iff_ne, ne_eq, bne_eq_false_iff_eq, Bool.not_eq_true', Bool.not_eq_false', Int.not_lt, Int.not_le] at h4)
      refine W_seq ?_
      refine W_seqK (b' := 402) rfl rfl ?_
      refine k_op0 (d := 27) (b := 130) (j' := 1) rfl rfl rfl rfl (.plain rfl) (T_fa D (m := 3) rfl rfl rfl rfl rfl rfl) rfl ?_
      refine k_op0 (d := 28) (b := 146) (j' := 2) rfl rfl rfl rfl (.plain rfl) (T_load_b D rfl rfl rfl rfl rfl rfl) rfl ?_
      refine k_op0 (d := 29) (b := 162) (j' := 3) rfl rfl rfl rfl (.plain rfl) (T_move rfl rfl) rfl ?_
      refine k_op0 (d := 30) (b := 178) (j' := 4) rfl rfl rfl rfl (.plain rfl) (T_callV (lvs := [_, _]) (L := []) (within_spec _ _) body125 rfl rfl rfl rfl (.nil) rfl) rfl ?_
      refine k_op0 (d := 31) (b := 194) (j' := 5) rfl rfl rfl rfl (.plain rfl) (T_move rfl rfl) rfl ?_
      refine k_split (d := 31) rfl (fun g5 => ?_) (fun g5 => ?_)
      · have h5 := g5; (try simp only [cmpB, decide_eq_true_eq, decide_eq_false_iff_not, beq_iff_eq, beq_eq_false_iff_ne, bne_iff_ne, ne_eq, bne_eq_false_iff_eq, Bool.not_eq_true', Bool.not_eq_false', Int.not_lt, Int.not_le] at h5)
        refine k_op0 (d := 32) (b := 210) (j' := 6) rfl rfl rfl rfl (g_tt rfl rfl rfl g5) (T_fa D (m := 4) rfl rfl rfl rfl rfl rfl) rfl ?_
        refine k_op0 (d := 33) (b := 226) (j' := 7) rfl rfl rfl rfl (g_tt rfl rfl rfl g5) (T_load_b D rfl rfl rfl rfl rfl rfl) rfl ?_
        refine k_op0 (d := 34) (b := 242) (j' := 8) rfl rfl rfl rfl (g_tt rfl rfl rfl g5) (T_move rfl rfl) rfl ?_
        refine k_op0 (d := 35) (b := 258) (j' := 9) rfl rfl rfl rfl (g_tt rfl rfl rfl g5) (T_callV (lvs := [_, _]) (L := []) (within_spec _ _) body125 rfl rfl rfl rfl (.nil) rfl) rfl ?_
        refine k_op0 (d := 36) (b := 274) (j' := 10) rfl rfl rfl rfl (.plain rfl) (T_pick_t rfl rfl rfl g5) rfl ?_
        refine k_op0 (d := 37) (b := 290) (j' := 11) rfl rfl rfl rfl (.plain rfl) (T_move rfl rfl) rfl ?_
        refine k_split (d := 37) rfl (fun g6 => ?_) (fun g6 => ?_)
        · have h6 := g6; (try simp only [cmpB, decide_eq_true_eq, decide_eq_false_iff_not, beq_iff_eq, beq_eq_false_iff_ne, bne_iff_ne, ne_eq, bne_eq_false_iff_eq, Bool.not_eq_true', Bool.not_eq_false', Int.not_lt, Int.not_le] at h6)
          refine k_op0 (d := 38) (b := 306) (j' := 12) rfl rfl rfl rfl (g_tt rfl rfl rfl g6) (T_fa D (m := 2) rfl rfl rfl rfl rfl rfl) rfl ?_
          refine k_op0 (d := 39) (b := 322) (j' := 13) rfl rfl rfl rfl (g_tt rfl rfl rfl g6) (T_load_b D rfl rfl rfl rfl rfl rfl) rfl ?_
          refine k_op0 (d := 40) (b := 338) (j' := 14) rfl rfl rfl rfl (g_tt rfl rfl rfl g6) (T_move rfl rfl) rfl ?_
          refine k_op0 (d := 41) (b := 354) (j' := 15) rfl rfl rfl rfl (g_tt rfl rfl rfl g6) (T_callV (lvs := [_, _]) (L := []) (within_spec _ _) body125 rfl rfl rfl rfl (.nil) rfl) rfl ?_
          refine k_op0 (d := 42) (b := 370) (j' := 16) rfl rfl rfl rfl (.plain rfl) (T_pick_t rfl rfl rfl g6) rfl ?_
          refine k_op0 (d := 6) (b := 386) (j' := 17) rfl rfl rfl rfl (.plain rfl) (T_assign rfl rfl) rfl ?_
          refine k_done rfl ?_
          refine thenK_n ?_
          refine W_ret ?_
          refine blockK_r ?_
          refine thenK_r ?_
          -- end 3
          exact .mk [] (.inr rfl) (.tmp rfl (.nil)) (by first | (simp only [resLV, LV.ren, LV.v.injEq, Value.bool.injEq]; unfold endsB; rw [if_pos (by omega)]; simp [*, cmpB]; done) | (simp only [resLV, LV.ren, LV.v.injEq, Value.bool.injEq]; unfold endsB; rw [if_neg (by omega), if_pos (by omega)]; simp [*, cmpB]; done) | (simp only [resLV, LV.ren, LV.v.injEq, Value.bool.injEq]; unfold endsB; rw [if_neg (by omega), if_neg (by omega)]; simp [*, cmpB]; done)) (.nil) rfl
        · have h6 := g6; (try simp only [cmpB, decide_eq_true_eq, decide_eq_false_iff_not, beq_iff_eq, beq_eq_false_iff_ne, bne_iff_ne, ne_eq, bne_eq_false_iff_eq, Bool.not_eq_true', Bool.not_eq_false', Int.not_lt, Int.not_le] at h6)
          refine k_no (d := 38) (j' := 12) rfl rfl rfl (g_tf rfl rfl rfl g6) ?_
          refine k_no (d := 39) (j' := 13) rfl rfl rfl (g_tf rfl rfl rfl g6) ?_
          refine k_no (d := 40) (j' := 14) rfl rfl rfl (g_tf rfl rfl rfl g6) ?_
          refine k_no (d := 41) (j' := 15) rfl rfl rfl (g_tf rfl rfl rfl g6) ?_
          refine k_op0 (d := 42) (b := 370) (j' := 16) rfl rfl rfl rfl (.plain rfl) (T_pick_f rfl rfl rfl g6) rfl ?_
          refine k_op0 (d := 6) (b := 386) (j' := 17) rfl rfl rfl rfl (.plain rfl) (T_assign rfl rfl) rfl ?_
          refine k_done rfl ?_
          refine thenK_n ?_
          refine W_ret ?_
          refine blockK_r ?_
          refine thenK_r ?_
          -- end 4
          exact .mk [] (.inr rfl) (.tmp rfl (.nil)) (by first | (simp only [resLV, LV.ren, LV.v.injEq, Value.bool.injEq]; unfold endsB; rw [if_pos (by omega)]; simp [*, cmpB]; done) | (simp only [resLV, LV.ren, LV.v.injEq, Value.bool.injEq]; unfold endsB; rw [if_neg (by omega), if_pos (by omega)]; simp [*, cmpB]; done) | (simp only [resLV, LV.ren, LV.v.injEq, Value.bool.injEq]; unfold endsB; rw [if_neg (by omega), if_neg (by omega)]; simp [*, cmpB]; done)) (.nil) rfl
      · have h5 := g5; (try simp only [cmpB, decide_eq_true_eq, decide_eq_false_iff_not, beq_iff_eq, beq_eq_false_iff_ne, bne_iff_ne, ne_eq, bne_eq_false_iff_eq, Bool.not_eq_true', Bool.not_eq_false', Int.not_lt, Int.not_le] at h5)
        refine k_no (d := 32) (j' := 6) rfl rfl rfl (g_tf rfl rfl rfl g5) ?_
        refine k_no (d := 33) (j' := 7) rfl rfl rfl (g_tf rfl rfl rfl g5) ?_
        refine k_no (d := 34) (j' := 8) rfl rfl rfl (g_tf rfl rfl rfl g5) ?_
        refine k_no (d := 35) (j' := 9) rfl rfl rfl (g_tf rfl rfl rfl g5) ?_
        refine k_op0 (d := 36) (b := 274) (j' := 10) rfl rfl rfl rfl (.plain rfl) (T_pick_f rfl rfl rfl g5) rfl ?_
        refine k_op0 (d := 37) (b := 290) (j' := 11) rfl rfl rfl rfl (.plain rfl) (T_move rfl rfl) rfl ?_
        refine k_no (d := 38) (j' := 12) rfl rfl rfl (g_tf rfl rfl rfl rfl) ?_
        refine k_no (d := 39) (j' := 13) rfl rfl rfl (g_tf rfl rfl rfl rfl) ?_
        refine k_no (d := 40) (j' := 14) rfl rfl rfl (g_tf rfl rfl rfl rfl) ?_
        refine k_no (d := 41) (j' := 15) rfl rfl rfl (g_tf rfl rfl rfl rfl) ?_
        refine k_op0 (d := 42) (b := 370) (j' := 16) rfl rfl rfl rfl (.plain rfl) (T_pick_f rfl rfl rfl rfl) rfl ?_
        refine k_op0 (d := 6) (b := 386) (j' := 17) rfl rfl rfl rfl (.plain rfl) (T_assign rfl rfl) rfl ?_
        refine k_done rfl ?_
        refine thenK_n ?_
        refine W_ret ?_
        refine blockK_r ?_
        refine thenK_r ?_
        -- end 5
        exact .mk [] (.inr rfl) (.tmp rfl (.nil)) (by first | (simp only [resLV, LV.ren, LV.v.injEq, Value.bool.injEq]; unfold endsB; rw [if_pos (by omega)]; simp [*, cmpB]; done) | (simp only [resLV, LV.ren, LV.v.injEq, Value.bool.injEq]; unfold endsB; rw [if_neg (by omega), if_pos (by omega)]; simp [*, cmpB]; done) | (simp only [resLV, LV.ren, LV.v.injEq, Value.bool.injEq]; unfold endsB; rw [if_neg (by omega), if_neg (by omega)]; simp [*, cmpB]; done)) (.nil) rfl
    · have h4 := g4; (try simp only [cmpB, decide_eq_true_eq, decide_eq_false_iff_not, beq_iff_eq, beq_eq_false_iff_ne, bne_iff_ne, ne_eq, bne_eq_false_iff_eq, Bool.not_eq_true', Bool.not_eq_false', Int.not_lt, Int.not_le] at h4)
      refine W_skip ?_
      refine blockK_n ?_
      refine thenK_n ?_
      refine W_seq ?_
      refine W_seqK (b' := 434) rfl rfl ?_
      refine k_op0 (d := 43) (b := 130) (j' := 1) rfl rfl rfl rfl (.plain rfl) (T_fa D (m := 1) rfl rfl rfl rfl rfl rfl) rfl ?_
      refine k_op0 (d := 44) (b := 146) (j' := 2) rfl rfl rfl rfl (.plain rfl) (T_load_b D rfl rfl rfl rfl rfl rfl) rfl ?_
      refine k_op0 (d := 45) (b := 162) (j' := 3) rfl rfl rfl rfl (.plain rfl) (T_cmp rfl rfl rfl rfl) rfl ?_
      refine k_op0 (d := 46) (b := 178) (j' := 4) rfl rfl rfl rfl (.plain rfl) (T_move rfl rfl) rfl ?_
      refine k_split (d := 46) rfl (fun g7 => ?_) (fun g7 => ?_)
      · have h7 := g7; (try simp only [cmpB, decide_eq_true_eq, decide_eq_false_iff_not, beq_iff_eq, beq_eq_false_iff_ne, bne_iff_ne, ne_eq, bne_eq_false_iff_eq, Bool.not_eq_true', Bool.not_eq_false', Int.not_lt, Int.not_le] at h7)
        refine k_op0 (d := 47) (b := 194) (j' := 5) rfl rfl rfl rfl (g_tt rfl rfl rfl g7) (T_fa D (m := 2) rfl rfl rfl rfl rfl rfl) rfl ?_
        refine k_op0 (d := 48) (b := 210) (j' := 6) rfl rfl rfl rfl (g_tt rfl rfl rfl g7) (T_load_b D rfl rfl rfl rfl rfl rfl) rfl ?_
        refine k_op0 (d := 49) (b := 226) (j' := 7) rfl rfl rfl rfl (g_tt rfl rfl rfl g7) (T_cmp rfl rfl rfl rfl) rfl ?_
        refine k_op0 (d := 50) (b := 242) (j' := 8) rfl rfl rfl rfl (.plain rfl) (T_pick_t rfl rfl rfl g7) rfl ?_
        refine k_op0 (d := 51) (b := 258) (j' := 9) rfl rfl rfl rfl (.plain rfl) (T_move rfl rfl) rfl ?_
        refine k_split (d := 51) rfl (fun g8 => ?_) (fun g8 => ?_)
        · have h8 := g8; (try simp only [cmpB, decide_eq_true_eq, decide_eq_false_iff_not, beq_iff_eq, beq_eq_false_iff_ne, bne_iff_ne, ne_eq, bne_eq_false_iff_eq, Bool.not_eq_true', Bool.not_eq_false', Int.not_lt, Int.not_le] at h8)
          refine k_op0 (d := 52) (b := 274) (j' := 10) rfl rfl rfl rfl (g_tt rfl rfl rfl g8) (T_fa D (m := 3) rfl rfl rfl rfl rfl rfl) rfl ?_
          refine k_op0 (d := 53) (b := 290) (j' := 11) rfl rfl rfl rfl (g_tt rfl rfl rfl g8) (T_load_b D rfl rfl rfl rfl rfl rfl) rfl ?_
          refine k_op0 (d := 54) (b := 306) (j' := 12) rfl rfl rfl rfl (g_tt rfl rfl rfl g8) (T_cmp rfl rfl rfl rfl) rfl ?_
          refine k_op0 (d := 55) (b := 322) (j' := 13) rfl rfl rfl rfl (.plain rfl) (T_pick_t rfl rfl rfl g8) rfl ?_
          refine k_op0 (d := 56) (b := 338) (j' := 14) rfl rfl rfl rfl (.plain rfl) (T_move rfl rfl) rfl ?_
          refine k_split (d := 56) rfl (fun g9 => ?_) (fun g9 => ?_)
          · have h9 := g9; (try simp only [cmpB, decide_eq_true_eq, decide_eq_false_iff_not, beq_iff_eq, beq_eq_false_iff_ne, bne_iff_ne, ne_eq, bne_eq_false_iff_eq, Bool.not_eq_true', Bool.not_eq_false', Int.not_lt, Int.not_le] at h9)
            refine k_op0 (d := 57) (b := 354) (j' := 15) rfl rfl rfl rfl (g_tt rfl rfl rfl g9) (T_fa D (m := 4) rfl rfl rfl rfl rfl rfl) rfl ?_
            refine k_op0 (d := 58) (b := 370) (j' := 16) rfl rfl rfl rfl (g_tt rfl rfl rfl g9) (T_load_b D rfl rfl rfl rfl rfl rfl) rfl ?_
            refine k_op0 (d := 59) (b := 386) (j' := 17) rfl rfl rfl rfl (g_tt rfl rfl rfl g9) (T_cmp rfl rfl rfl rfl) rfl ?_
            refine k_op0 (d := 60) (b := 402) (j' := 18) rfl rfl rfl rfl (.plain rfl) (T_pick_t rfl rfl rfl g9) rfl ?_
            refine k_op0 (d := 6) (b := 418) (j' := 19) rfl rfl rfl rfl (.plain rfl) (T_assign rfl rfl) rfl ?_
            refine k_done rfl ?_
            refine thenK_n ?_
            refine W_ret ?_
            -- end 6
            exact .mk [] (.inr rfl) (.tmp rfl (.nil)) (by first | (simp only [resLV, LV.ren, LV.v.injEq, Value.bool.injEq]; unfold endsB; rw [if_pos (by omega)]; simp [*, cmpB]; done) | (simp only [resLV, LV.ren, LV.v.injEq, Value.bool.injEq]; unfold endsB; rw [if_neg (by omega), if_pos (by omega)]; simp [*, cmpB]; done) | (simp only [resLV, LV.ren, LV.v.injEq, Value.bool.injEq]; unfold endsB; rw [if_neg (by omega), if_neg (by omega)]; simp [*, cmpB]; done)) (.nil) rfl
          · have h9 := g9; (try simp only [cmpB, decide_eq_true_eq, decide_eq_false_iff_not, beq_iff_eq, beq_eq_false_iff_ne, bne_iff_ne, ne_eq, bne_eq_false_iff_eq, Bool.not_eq_true', Bool.not_eq_false', Int.not_lt, Int.not_le] at h9)
            refine k_no (d := 57) (j' := 15) rfl rfl rfl (g_tf rfl rfl rfl g9) ?_
            refine k_no (d := 58) (j' := 16) rfl rfl rfl (g_tf rfl rfl rfl g9) ?_
            refine k_no (d := 59) (j' := 17) rfl rfl rfl (g_tf rfl rfl rfl g9) ?_
            refine k_op0 (d := 60) (b := 402) (j' := 18) rfl rfl rfl rfl (.plain rfl) (T_pick_f rfl rfl rfl g9) rfl ?_
            refine k_op0 (d := 6) (b := 418) (j' := 19) rfl rfl rfl rfl (.plain rfl) (T_assign rfl rfl) rfl ?_
            refine k_done rfl ?_
            refine thenK_n ?_
            refine W_ret ?_
            -- end 7
            exact .mk [] (.inr rfl) (.tmp rfl (.nil)) (by first | (simp only [resLV, LV.ren, LV.v.injEq, Value.bool.injEq]; unfold endsB; rw [if_pos (by omega)]; simp [*, cmpB]; done) | (simp only [resLV, LV.ren, LV.v.injEq, Value.bool.injEq]; unfold endsB; rw [if_neg (by omega), if_pos (by omega)]; simp [*, cmpB]; done) | (simp only [resLV, LV.ren, LV.v.injEq, Value.bool.injEq]; unfold endsB; rw [if_neg (by omega), if_neg (by omega)]; simp [*, cmpB]; done)) (.nil) rfl
        · have h8 := g8; (try simp only [cmpB, decide_eq_true_eq, decide_eq_false_iff_not, beq_iff_eq, beq_eq_false_iff_ne, bne_iff_ne, ne_eq, bne_eq_false_iff_eq, Bool.not_eq_true', Bool.not_eq_false', Int.not_lt, Int.not_le] at h8)
          refine k_no (d := 52) (j' := 10) rfl rfl rfl (g_tf rfl rfl rfl g8) ?_
          refine k_no (d := 53) (j' := 11) rfl rfl rfl (g_tf rfl rfl rfl g8) ?_
          refine k_no (d := 54) (j' := 12) rfl rfl rfl (g_tf rfl rfl rfl g8) ?_
          refine k_op0 (d := 55) (b := 322) (j' := 13) rfl rfl rfl rfl (.plain rfl) (T_pick_f rfl rfl rfl g8) rfl ?_
          refine k_op0 (d := 56) (b := 338) (j' := 14) rfl rfl rfl rfl (.plain rfl) (T_move rfl rfl) rfl ?_
          refine k_no (d := 57) (j' := 15) rfl rfl rfl (g_tf rfl rfl rfl rfl) ?_
          refine k_no (d := 58) (j' := 16) rfl rfl rfl (g_tf rfl rfl rfl rfl) ?_
          refine k_no (d := 59) (j' := 17) rfl rfl rfl (g_tf rfl rfl rfl rfl) ?_
          refine k_op0 (d := 60) (b := 402) (j' := 18) rfl rfl rfl rfl (.plain rfl) (T_pick_f rfl rfl rfl rfl) rfl ?_
          refine k_op0 (d := 6) (b := 418) (j' := 19) rfl rfl rfl rfl (.plain rfl) (T_assign rfl rfl) rfl ?_
          refine k_done rfl ?_
          refine thenK_n ?_
          refine W_ret ?_
          -- end 8
          exact .mk [] (.inr rfl) (.tmp rfl (.nil)) (by first | (simp only [resLV, LV.ren, LV.v.injEq, Value.bool.injEq]; unfold endsB; rw [if_pos (by omega)]; simp [*, cmpB]; done) | (simp only [resLV, LV.ren, LV.v.injEq, Value.bool.injEq]; unfold endsB; rw [if_neg (by omega), if_pos (by omega)]; simp [*, cmpB]; done) | (simp only [resLV, LV.ren, LV.v.injEq, Value.bool.injEq]; unfold endsB; rw [if_neg (by omega), if_neg (by omega)]; simp [*, cmpB]; done)) (.nil) rfl
      · have h7 := g7; (try simp only [cmpB, decide_eq_true_eq, decide_eq_false_iff_not, beq_iff_eq, beq_eq_false_iff_ne, bne_iff_ne, ne_eq, bne_eq_false_iff_eq, Bool.not_eq_true', Bool.not_eq_false', Int.not_lt, Int.not_le] at h7)
        refine k_no (d := 47) (j' := 5) rfl rfl rfl (g_tf rfl rfl rfl g7) ?_
        refine k_no (d := 48) (j' := 6) rfl rfl rfl (g_tf rfl rfl rfl g7) ?_
        refine k_no (d := 49) (j' := 7) rfl rfl rfl (g_tf rfl rfl rfl g7) ?_
        refine k_op0 (d := 50) (b := 242) (j' := 8) rfl rfl rfl rfl (.plain rfl) (T_pick_f rfl rfl rfl g7) rfl ?_
        refine k_op0 (d := 51) (b := 258) (j' := 9) rfl rfl rfl rfl (.plain rfl) (T_move rfl rfl) rfl ?_
        refine k_no (d := 52) (j' := 10) rfl rfl rfl (g_tf rfl rfl rfl rfl) ?_
        refine k_no (d := 53) (j' := 11) rfl rfl rfl (g_tf rfl rfl rfl rfl) ?_
        refine k_no (d := 54) (j' := 12) rfl rfl rfl (g_tf rfl rfl rfl rfl) ?_
        refine k_op0 (d := 55) (b := 322) (j' := 13) rfl rfl rfl rfl (.plain rfl) (T_pick_f rfl rfl rfl rfl) rfl ?_
        refine k_op0 (d := 56) (b := 338) (j' := 14) rfl rfl rfl rfl (.plain rfl) (T_move rfl rfl) rfl ?_
        refine k_no (d := 57) (j' := 15) rfl rfl rfl (g_tf rfl rfl rfl rfl) ?_
        refine k_no (d := 58) (j' := 16) rfl rfl rfl (g_tf rfl rfl rfl rfl) ?_
        refine k_no (d := 59) (j' := 17) rfl rfl rfl (g_tf rfl rfl rfl rfl) ?_
        refine k_op0 (d := 60) (b := 402) (j' := 18) rfl rfl rfl rfl (.plain rfl) (T_pick_f rfl rfl rfl rfl) rfl ?_
        refine k_op0 (d := 6) (b := 418) (j' := 19) rfl rfl rfl rfl (.plain rfl) (T_assign rfl rfl) rfl ?_
        refine k_done rfl ?_
        refine thenK_n ?_
        refine W_ret ?_
        -- end 9
        exact .mk [] (.inr rfl) (.tmp rfl (.nil)) (by first | (simp only [resLV, LV.ren, LV.v.injEq, Value.bool.injEq]; unfold endsB; rw [if_pos (by omega)]; simp [*, cmpB]; done) | (simp only [resLV, LV.ren, LV.v.injEq, Value.bool.injEq]; unfold endsB; rw [if_neg (by omega), if_pos (by omega)]; simp [*, cmpB]; done) | (simp only [resLV, LV.ren, LV.v.injEq, Value.bool.injEq]; unfold endsB; rw [if_neg (by omega), if_neg (by omega)]; simp [*, cmpB]; done)) (.nil) rfl
end Lg
end Go.Proofs.Ytpfhmodjjljpjaa
