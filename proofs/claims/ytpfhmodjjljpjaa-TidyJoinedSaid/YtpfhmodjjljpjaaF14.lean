import Derived.Test.YtpfhmodjjljpjaaPg
namespace Go.Proofs.Ytpfhmodjjljpjaa
open Go.RowKit
namespace Lg
set_option maxRecDepth 100000
set_option linter.unusedVariables false
set_option linter.unusedSimpArgs false



theorem body26 : (Try.prog.funcs[26]?).map (fun fn => (fn.name == "runtime.NumGoroutine" || fn.body.isNone)) = some false := by kernel_rfl
theorem tidy_spec (f : GFn) (hb : f.blocks.length ≤ 900000) (hi : InN f) (hc : ∀ b ∈ f.blocks, b.ins.length ≤ 1000) : Spec Try.prog 26 [.agg [.v (.int .i64 f.regs), .r 1]] 2 [(1, .fz 5 (f.blocks.map eBlock))] (.tup [.agg [.v (.int .i64 f.regs), .r 2], .r 3]) 4 [(2, .row 72 5 ((tidyG f).blocks.map eBlock)), (3, .fz 1 ((pathsL f).map eIs))] := by
  have hpi : ∀ p ∈ pathsL f, 1 ≤ p.length ∧ p.length ≤ f.blocks.length ∧ ∀ x ∈ p, 0 ≤ x ∧ x < (f.blocks.length : Int) := fun p h => path_in hi h
  have hpl : (pathsL f).length ≤ f.blocks.length := pathsTo_le f _
  refine spec_of D (fn := Try.f26) rfl rfl (Nat.le_of_ble_eq_true rfl) ?_
  refine W_seq ?_
  refine W_seqK (b' := 50) rfl rfl ?_
  refine k_op1 (d := 1) (b := 2) (j' := 1) rfl rfl rfl rfl (.plain rfl) (T_box rfl rfl flat_agg) rfl ?_
  refine k_opn (d := 2) (b := 18) (j' := 2) rfl rfl rfl rfl (.plain rfl) (T_nilbox [(72, 5)] (T_alloc D rfl rfl rfl) rfl (.cons (.same _) <| .cons (.nil rfl) <| .nil) (upd' := [(18, .box 29 [.v (.int .i64 0), .r 19]), (19, .row 72 5 (List.map eBlock ([] : List (GBlock))))]) (nn' := 2) rfl rfl) rfl ?_
  refine k_op1 (d := 3) (b := 34) (j' := 3) rfl rfl rfl rfl (.plain rfl) (T_nils [(52, 1)] (T_assign rfl rfl) rfl (.inr ⟨rfl, rfl⟩) (.cons (.nil rfl) .nil) (lv' := .r 34) (upd' := [(34, .row 52 1 (List.map eIs ([] : List (List Int))))]) (nn' := 1) rfl rfl) rfl ?_
  refine k_done rfl ?_
  refine thenK_n ?_
  refine W_seq ?_
  refine W_seqK (b' := 114) rfl rfl ?_
  refine k_op0 (d := 11) (b := 50) (j' := 1) rfl rfl rfl rfl (.plain rfl) (T_load_bA D (l := [_, _]) rfl rfl rfl rfl rfl rfl rfl) rfl ?_
  refine k_op1 (d := 12) (b := 66) (j' := 2) rfl rfl rfl rfl (.plain rfl) (T_callR (lvs := [_]) (L := [(1, 1)]) (keep := false) (paths_spec _ hb hi) body66 rfl rfl rfl rfl (.fz rfl (.nil)) rfl (.inl rfl) rfl) rfl ?_
  refine k_opn (d := 4) (b := 82) (j' := 3) rfl rfl rfl rfl (.plain rfl) (T_nilbox [(52, 1)] (T_alloc D rfl rfl rfl) rfl (.cons (.nil rfl) <| .nil) (upd' := [(82, .box 30 [.r 83]), (83, .row 52 1 (List.map eIs ([] : List (List Int))))]) (nn' := 2) rfl rfl) rfl ?_
  refine k_st1 (b := 98) (j' := 4) rfl rfl rfl rfl (.plain rfl) (T_stB D (cs' := [_]) rfl rfl rfl rfl (flat_sl rfl) rfl rfl (Nat.le_of_ble_eq_true rfl) rfl) rfl ?_
  refine k_done rfl ?_
  refine thenK_n ?_
  refine W_seq ?_
  refine W_seqK (b' := 146) rfl rfl ?_
  refine k_op0 (d := 13) (b := 114) (j' := 1) rfl rfl rfl rfl (.plain rfl) (T_makeFunc (l := [_]) rfl rfl) rfl ?_
  refine k_op0 (d := 5) (b := 130) (j' := 2) rfl rfl rfl rfl (.plain rfl) (T_assign rfl rfl) rfl ?_
  refine k_done rfl ?_
  refine thenK_n ?_
  refine W_seq ?_
  refine W_seqK (b' := 226) rfl rfl ?_
  refine k_op0 (d := 14) (b := 146) (j' := 1) rfl rfl rfl rfl (.plain rfl) (T_fa D (m := 0) rfl rfl rfl rfl rfl rfl) rfl ?_
  refine k_op0 (d := 15) (b := 162) (j' := 2) rfl rfl rfl rfl (.plain rfl) (T_load_b D rfl rfl rfl rfl rfl rfl) rfl ?_
  refine k_op1 (d := 16) (b := 178) (j' := 3) rfl rfl rfl rfl (.plain rfl) (T_nils [(72, 5)] (T_build D (l := [_, _]) rfl rfl rfl rfl (.cons rfl (flat_v rfl) (.nil)) rfl rfl) rfl (.inl ⟨rfl, rfl⟩) (.cons (.same _) <| .cons (.nil rfl) <| .nil) (lv' := .agg [_, .r 178]) (upd' := [(178, .row 72 5 (List.map eBlock ([] : List (GBlock))))]) (nn' := 1) rfl rfl) rfl ?_
  refine k_opn (d := 6) (b := 194) (j' := 4) rfl rfl rfl rfl (.plain rfl) (T_nilbox [(72, 5)] (T_alloc D rfl rfl rfl) rfl (.cons (.same _) <| .cons (.nil rfl) <| .nil) (upd' := [(194, .box 29 [.v (.int .i64 0), .r 195]), (195, .row 72 5 (List.map eBlock ([] : List (GBlock))))]) (nn' := 2) rfl rfl) rfl ?_
  refine k_st1 (b := 210) (j' := 5) rfl rfl rfl rfl (.plain rfl) (T_stB D (cs' := [_, _]) rfl rfl rfl rfl flat_agg rfl rfl (Nat.le_of_ble_eq_true rfl) rfl) rfl ?_
  refine k_done rfl ?_
  refine thenK_n ?_
  refine W_seq ?_
  refine W_seq ?_
  refine W_seqK (b' := 274) rfl rfl ?_
  refine k_op0 (d := 17) (b := 226) (j' := 1) rfl rfl rfl rfl (.plain rfl) (T_load_b D rfl rfl rfl rfl rfl rfl) rfl ?_
  refine k_op0 (d := 18) (b := 242) (j' := 2) rfl rfl rfl rfl (.plain rfl) (T_len D rfl rfl rfl rfl rfl rfl) rfl ?_
  refine k_op0 (d := 19) (b := 258) (j' := 3) rfl rfl rfl rfl (.plain rfl) (T_move rfl rfl) rfl ?_
  refine k_done rfl ?_
  refine thenK_n ?_
  refine W_block ?_
  refine W_loop (ι := Nat) 9 (fun j => ⟨[(1, .p 2 0), (2, .p 3 0), (4, .p 5 0), (5, .fn 67 [.p 5 0]), (6, .p 7 0), (17, .r 6), (18, .v (.int .i64 ((pathsL f).length : Int))), (19, .v (.int .i64 (j : Int)))], [(1, .fz 5 (f.blocks.map eBlock)), (2, .box 29 [.v (.int .i64 f.regs), .r 1]), (3, .box 29 [.v (.int .i64 0), .r 4]), (4, .row 72 5 (([] : List GBlock).map eBlock)), (5, .box 30 [.r 6]), (6, .fz 1 ((pathsL f).map eIs)), (7, .box 29 [.v (.int .i64 f.regs), .r 8]), (8, .row 72 5 ((((pathsL f).take j).map (newBlock f (pathsL f))).map eBlock))]⟩) (fun j => j ≤ (pathsL f).length) (fun j => (pathsL f).length - j) (0) (by exact Nat.zero_le _) ?_ (fun j hJ => ?_)
  · exact ⟨[(2, 2), (3, 18), (4, 19), (5, 82), (6, 66), (7, 194), (8, 178)], .same rfl rfl (.same rfl rfl (.same rfl rfl (.same rfl rfl (.same rfl rfl (.same rfl rfl (.eq rfl (.eq rfl (.nil) (by first | rfl | simp)) (by first | rfl | simp))))))), .fzE rfl (.box (by first | rfl | simp) (.box (by first | rfl | simp) (.rowE rfl (.box (by first | rfl | simp) (.lendE rfl (.box (by first | rfl | simp) (.rowE rfl (.nil) (by first | rfl | simp))) (by first | rfl | simp))) (by first | rfl | simp)))) (by first | rfl | simp), rfl⟩
  have hj := fun h => hpi ((pathsL f).getD j default) (getD_mem h)
  have hlj := fun h => last_in (hj h).1 (hj h).2.2
  simp only [lastOf] at hlj
  refine W_seq ?_
  refine W_seqK (b' := 25) rfl rfl ?_
  refine k_op0 (d := 20) (b := 9) (j' := 1) rfl rfl rfl rfl (.plain rfl) (T_cmp rfl rfl rfl rfl) rfl ?_
  refine k_done rfl ?_
  refine thenK_n ?_
  refine W_seq ?_
  refine W_cond rfl (fun g1 => ?_) (fun g1 => ?_)
  · have h1 := g1; (try simp only [cmpB, decide_eq_true_eq, decide_eq_false_iff_not, beq_iff_eq, beq_eq_false_iff_ne, bne_iff_ne, ne_eq, bne_eq_false_iff_eq, Bool.not_eq_true', Bool.not_eq_false', Int.not_lt, Int.not_le] at h1)
    refine W_skip ?_
    refine thenK_n ?_
    refine W_seq ?_
    refine W_block ?_
    refine W_seq ?_
    refine W_seqK (b' := 73) rfl rfl ?_
    first | refine k_op0 (d := 21) (b := 25) (j' := 1) rfl rfl rfl rfl (.plain rfl) (T_indexAddr D rfl rfl rfl rfl rfl rfl rfl rfl (by first | assumption | omega | (simp; omega) | (have k := hj (by omega); omega) | (have k := hlj (by omega); omega))) rfl ?_ | refine k_op0 (d := 21) (b := 25) (j' := 1) rfl rfl rfl rfl (.plain rfl) (T_indexAddrZ D rfl rfl rfl rfl rfl rfl rfl rfl (by first | assumption | omega | (simp; omega) | (have k := hj (by omega); omega) | (have k := hlj (by omega); omega)) (by first | assumption | omega | (simp; omega) | (have k := hj (by omega); omega) | (have k := hlj (by omega); omega))) rfl ?_
    refine k_op1 (d := 22) (b := 41) (j' := 2) rfl rfl rfl rfl (.plain rfl) (T_ldE D (lv := .r 41) (nn := 1) (upd := [(41, .fz 1 _)]) rfl rfl rfl rfl rfl (by first | assumption | omega | (simp; omega) | (have k := hj (by omega); omega) | (have k := hlj (by omega); omega)) rfl rfl rfl rfl) rfl ?_
    refine k_op0 (d := 8) (b := 57) (j' := 3) rfl rfl rfl rfl (.plain rfl) (T_assign rfl rfl) rfl ?_
    refine k_done rfl ?_
    refine thenK_n ?_
    refine W_seq ?_
    refine W_anyK (b' := 265) rfl rfl rfl ?_
    refine k_op0 (d := 23) (b := 73) (j' := 1) rfl rfl rfl rfl (.plain rfl) (T_fa D (m := 1) rfl rfl rfl rfl rfl rfl) rfl ?_
    refine k_op0 (d := 24) (b := 89) (j' := 2) rfl rfl rfl rfl (.plain rfl) (T_load_b D rfl rfl rfl rfl rfl rfl) rfl ?_
    refine k_op0 (d := 25) (b := 105) (j' := 3) rfl rfl rfl rfl (.plain rfl) (T_move rfl rfl) rfl ?_
    refine k_op0 (d := 26) (b := 121) (j' := 4) rfl rfl rfl rfl (.plain rfl) (T_move rfl rfl) rfl ?_
    refine k_op0 (d := 27) (b := 137) (j' := 5) rfl rfl rfl rfl (.plain rfl) (T_len D rfl rfl rfl rfl rfl rfl) rfl ?_
    refine k_op0 (d := 28) (b := 153) (j' := 6) rfl rfl rfl rfl (.plain rfl) (T_sub64 rfl rfl rfl (by first | assumption | omega | (simp; omega) | (have k := hj (by omega); omega) | (have k := hlj (by omega); omega))) rfl ?_
    first | refine k_op0 (d := 29) (b := 169) (j' := 7) rfl rfl rfl rfl (.plain rfl) (T_indexAddr D rfl rfl rfl rfl rfl rfl rfl rfl (by first | assumption | omega | (simp; omega) | (have k := hj (by omega); omega) | (have k := hlj (by omega); omega))) rfl ?_ | refine k_op0 (d := 29) (b := 169) (j' := 7) rfl rfl rfl rfl (.plain rfl) (T_indexAddrZ D rfl rfl rfl rfl rfl rfl rfl rfl (by first | assumption | omega | (simp; omega) | (have k := hj (by omega); omega) | (have k := hlj (by omega); omega)) (by first | assumption | omega | (simp; omega) | (have k := hj (by omega); omega) | (have k := hlj (by omega); omega))) rfl ?_
    refine k_op0 (d := 30) (b := 185) (j' := 8) rfl rfl rfl rfl (.plain rfl) (T_ldE D (lv := .v _) (nn := 0) (upd := []) rfl rfl rfl rfl rfl (by first | assumption | omega | (simp; omega) | (have k := hj (by omega); omega) | (have k := hlj (by omega); omega)) rfl rfl rfl rfl) rfl ?_
    first | refine k_op0 (d := 31) (b := 201) (j' := 9) rfl rfl rfl rfl (.plain rfl) (T_indexAddr D rfl rfl rfl rfl rfl rfl rfl rfl (by first | assumption | omega | (simp; omega) | (have k := hj (by omega); omega) | (have k := hlj (by omega); omega))) rfl ?_ | refine k_op0 (d := 31) (b := 201) (j' := 9) rfl rfl rfl rfl (.plain rfl) (T_indexAddrZ D rfl rfl rfl rfl rfl rfl rfl rfl (by first | assumption | omega | (simp; omega) | (have k := hj (by omega); omega) | (have k := hlj (by omega); omega)) (by first | assumption | omega | (simp; omega) | (have k := hj (by omega); omega) | (have k := hlj (by omega); omega))) rfl ?_
    refine k_op1 (d := 32) (b := 217) (j' := 10) rfl rfl rfl rfl (.plain rfl) (T_ldEA D (l := [.r 217, .v _, .v _, .v _, .v _]) (nn := 1) (upd := [(217, .fz 8 _)]) rfl rfl rfl rfl rfl (by first | assumption | omega | (simp; omega) | (have k := hj (by omega); omega) | (have k := hlj (by omega); omega)) rfl rfl rfl rfl rfl) rfl ?_
    refine k_opn (d := 9) (b := 233) (j' := 11) rfl rfl rfl rfl (.plain rfl) (T_nilbox [(70, 8)] (T_alloc D rfl rfl rfl) rfl (.cons (.nil rfl) <| .cons (.same _) <| .cons (.same _) <| .cons (.same _) <| .cons (.same _) <| .nil) (upd' := [(233, .box 72 [.r 234, .v (.int .i64 0), .v (.int .i64 0), .v (.int .i64 0), .v (.int .i64 0)]), (234, .row 70 8 (List.map eTac ([] : List (GTac))))]) (nn' := 2) rfl rfl) rfl ?_
    refine k_st1 (b := 249) (j' := 12) rfl rfl rfl rfl (.plain rfl) (T_stB D (cs' := [_, _, _, _, _]) rfl rfl rfl rfl flat_agg rfl rfl (Nat.le_of_ble_eq_true rfl) rfl) rfl ?_
    refine k_done rfl ?_
    refine ⟨rfl, ?_⟩
    refine thenK_n ?_
    refine W_seq ?_
    refine W_anyK (b' := 425) rfl rfl rfl ?_
    refine k_op0 (d := 33) (b := 265) (j' := 1) rfl rfl rfl rfl (.plain rfl) (T_load_bA D (l := [_, _]) rfl rfl rfl rfl rfl rfl rfl) rfl ?_
    refine k_op0 (d := 34) (b := 281) (j' := 2) rfl rfl rfl rfl (.plain rfl) (T_move rfl rfl) rfl ?_
    refine k_op1 (d := 35) (b := 297) (j' := 3) rfl rfl rfl rfl (.plain rfl) (T_call (lvs := [_, _]) (L := [(1, 1), (2, 41)]) (lv := .r 297) (upd := [(297, .fz 8 _)]) (nn := 1) false (instrs_spec _ _ ⟨by have := hj (by omega); omega, fun i h => (hj (by omega)).2.2 _ (getD_mem h)⟩ (instrs_small hb hc (hj (by omega)).2.1)) body70 rfl rfl rfl rfl (.fz rfl (.fz rfl (.nil))) rfl (.inl rfl) rfl rfl rfl) rfl ?_
    refine k_op0 (d := 36) (b := 313) (j' := 4) rfl rfl rfl rfl (.plain rfl) (T_fa D (m := 1) rfl rfl rfl rfl rfl rfl) rfl ?_
    refine k_op0 (d := 37) (b := 329) (j' := 5) rfl rfl rfl rfl (.plain rfl) (T_load_b D rfl rfl rfl rfl rfl rfl) rfl ?_
    refine k_op0 (d := 38) (b := 345) (j' := 6) rfl rfl rfl rfl (.plain rfl) (T_fa D (m := 2) rfl rfl rfl rfl rfl rfl) rfl ?_
    refine k_op0 (d := 39) (b := 361) (j' := 7) rfl rfl rfl rfl (.plain rfl) (T_load_b D rfl rfl rfl rfl rfl rfl) rfl ?_
    refine k_op0 (d := 40) (b := 377) (j' := 8) rfl rfl rfl rfl (.plain rfl) (T_build D (l := [_, _, _, _, _]) rfl rfl rfl rfl (.cons rfl (flat_sl rfl) (.cons rfl (flat_v rfl) (.cons rfl (flat_v rfl) (.nil)))) rfl rfl) rfl ?_
    refine k_opn (d := 10) (b := 393) (j' := 9) rfl rfl rfl rfl (.plain rfl) (T_nilbox [(70, 8)] (T_alloc D rfl rfl rfl) rfl (.cons (.nil rfl) <| .cons (.same _) <| .cons (.same _) <| .cons (.same _) <| .cons (.same _) <| .nil) (upd' := [(393, .box 72 [.r 394, .v (.int .i64 0), .v (.int .i64 0), .v (.int .i64 0), .v (.int .i64 0)]), (394, .row 70 8 (List.map eTac ([] : List (GTac))))]) (nn' := 2) rfl rfl) rfl ?_
    refine k_st1 (b := 409) (j' := 10) rfl rfl rfl rfl (.plain rfl) (T_stB D (cs' := [_, _, _, _, _]) rfl rfl rfl rfl flat_agg rfl rfl (Nat.le_of_ble_eq_true rfl) rfl) rfl ?_
    refine k_done rfl ?_
    refine ⟨rfl, ?_⟩
    refine thenK_n ?_
    refine W_seq ?_
    refine W_seq ?_
    refine W_seqK (b' := 473) rfl rfl ?_
    refine k_op0 (d := 41) (b := 425) (j' := 1) rfl rfl rfl rfl (.plain rfl) (T_fa D (m := 1) rfl rfl rfl rfl rfl rfl) rfl ?_
    refine k_op0 (d := 42) (b := 441) (j' := 2) rfl rfl rfl rfl (.plain rfl) (T_load_b D rfl rfl rfl rfl rfl rfl) rfl ?_
    refine k_op0 (d := 43) (b := 457) (j' := 3) rfl rfl rfl rfl (.plain rfl) (T_cmp rfl rfl rfl rfl) rfl ?_
    refine k_done rfl ?_
    refine thenK_n ?_
    refine W_cond rfl (fun g2 => ?_) (fun g2 => ?_)
    · have h2 := g2; (try simp only [cmpB, decide_eq_true_eq, decide_eq_false_iff_not, beq_iff_eq, beq_eq_false_iff_ne, bne_iff_ne, ne_eq, bne_eq_false_iff_eq, Bool.not_eq_true', Bool.not_eq_false', Int.not_lt, Int.not_le] at h2)
      refine W_seqK (b' := 569) rfl rfl ?_
      refine k_op0 (d := 44) (b := 473) (j' := 1) rfl rfl rfl rfl (.plain rfl) (T_move rfl rfl) rfl ?_
      refine k_op0 (d := 45) (b := 489) (j' := 2) rfl rfl rfl rfl (.plain rfl) (T_fa D (m := 3) rfl rfl rfl rfl rfl rfl) rfl ?_
      refine k_op0 (d := 46) (b := 505) (j' := 3) rfl rfl rfl rfl (.plain rfl) (T_load_b D rfl rfl rfl rfl rfl rfl) rfl ?_
      refine k_op1 (d := 47) (b := 521) (j' := 4) rfl rfl rfl rfl (.plain rfl) (T_call (lvs := [_]) (L := [(1, 5), (2, 6)]) (lv := .v _) (upd := [(5, .box 30 [.r 6])]) (nn := 0) false (of1_spec (pathsL f) _ (by omega) (fun p h => (hpi p h).1)) body67 rfl rfl rfl rfl (.box rfl (.fz rfl (.nil))) rfl (.inl rfl) rfl rfl rfl) rfl ?_
      refine k_op0 (d := 48) (b := 537) (j' := 5) rfl rfl rfl rfl (.plain rfl) (T_fa D (m := 3) rfl rfl rfl rfl rfl rfl) rfl ?_
      refine k_st1 (b := 553) (j' := 6) rfl rfl rfl rfl (.plain rfl) (T_stB D (cs' := [_, _, _, _, _]) rfl rfl rfl rfl (flat_v rfl) rfl rfl (Nat.le_of_ble_eq_true rfl) rfl) rfl ?_
      refine k_done rfl ?_
      refine thenK_n ?_
      refine W_seq ?_
      refine W_seq ?_
      refine W_seqK (b' := 617) rfl rfl ?_
      refine k_op0 (d := 49) (b := 569) (j' := 1) rfl rfl rfl rfl (.plain rfl) (T_fa D (m := 1) rfl rfl rfl rfl rfl rfl) rfl ?_
      refine k_op0 (d := 50) (b := 585) (j' := 2) rfl rfl rfl rfl (.plain rfl) (T_load_b D rfl rfl rfl rfl rfl rfl) rfl ?_
      refine k_op0 (d := 51) (b := 601) (j' := 3) rfl rfl rfl rfl (.plain rfl) (T_cmp rfl rfl rfl rfl) rfl ?_
      refine k_done rfl ?_
      refine thenK_n ?_
      refine W_cond rfl (fun g3 => ?_) (fun g3 => ?_)
      · have h3 := g3; (try simp only [cmpB, decide_eq_true_eq, decide_eq_false_iff_not, beq_iff_eq, beq_eq_false_iff_ne, bne_iff_ne, ne_eq, bne_eq_false_iff_eq, Bool.not_eq_true', Bool.not_eq_false', Int.not_lt, Int.not_le] at h3)
        refine W_seqK (b' := 713) rfl rfl ?_
        refine k_op0 (d := 52) (b := 617) (j' := 1) rfl rfl rfl rfl (.plain rfl) (T_move rfl rfl) rfl ?_
        refine k_op0 (d := 53) (b := 633) (j' := 2) rfl rfl rfl rfl (.plain rfl) (T_fa D (m := 4) rfl rfl rfl rfl rfl rfl) rfl ?_
        refine k_op0 (d := 54) (b := 649) (j' := 3) rfl rfl rfl rfl (.plain rfl) (T_load_b D rfl rfl rfl rfl rfl rfl) rfl ?_
        refine k_op1 (d := 55) (b := 665) (j' := 4) rfl rfl rfl rfl (.plain rfl) (T_call (lvs := [_]) (L := [(1, 5), (2, 6)]) (lv := .v _) (upd := [(5, .box 30 [.r 6])]) (nn := 0) false (of1_spec (pathsL f) _ (by omega) (fun p h => (hpi p h).1)) body67 rfl rfl rfl rfl (.box rfl (.fz rfl (.nil))) rfl (.inl rfl) rfl rfl rfl) rfl ?_
        refine k_op0 (d := 56) (b := 681) (j' := 5) rfl rfl rfl rfl (.plain rfl) (T_fa D (m := 4) rfl rfl rfl rfl rfl rfl) rfl ?_
        refine k_st1 (b := 697) (j' := 6) rfl rfl rfl rfl (.plain rfl) (T_stB D (cs' := [_, _, _, _, _]) rfl rfl rfl rfl (flat_v rfl) rfl rfl (Nat.le_of_ble_eq_true rfl) rfl) rfl ?_
        refine k_done rfl ?_
        refine thenK_n ?_
        refine W_seqK (b' := 825) rfl rfl ?_
        refine k_op0 (d := 57) (b := 713) (j' := 1) rfl rfl rfl rfl (.plain rfl) (T_fa D (m := 1) rfl rfl rfl rfl rfl rfl) rfl ?_
        refine k_op0 (d := 58) (b := 729) (j' := 2) rfl rfl rfl rfl (.plain rfl) (T_load_b D rfl rfl rfl rfl rfl rfl) rfl ?_
        refine k_op0 (d := 59) (b := 745) (j' := 3) rfl rfl rfl rfl (.plain rfl) (T_load_bA D (l := [_, _, _, _, _]) rfl rfl rfl rfl rfl rfl rfl) rfl ?_
        refine k_op1 (d := 60) (b := 761) (j' := 4) rfl rfl rfl rfl (.plain rfl) (T_bs D (ys := [⟨_, _, _, _, _⟩]) (enc := eBlock) (l := [_, _, _, _, _]) rfl rfl rfl rfl rfl rfl (.cons rfl flat_agg (.nil)) rfl rfl rfl rfl (.fz rfl (.v rfl (.v rfl (.v rfl (.v rfl (.nil)))))) rfl rfl) rfl ?_
        refine k_opn (d := 61) (b := 777) (j' := 5) rfl rfl rfl rfl (.plain rfl) (T_append D rfl rfl rfl rfl rfl rfl rfl rfl rfl rfl rfl rfl (by (try simp only [ty72]); first | assumption | omega | (simp; omega) | (have k := hj (by omega); omega) | (have k := hlj (by omega); omega)) (by (try simp only [ty72]); first | assumption | omega | (simp; omega) | (have k := hj (by omega); omega) | (have k := hlj (by omega); omega))) rfl ?_
        refine k_op0 (d := 62) (b := 793) (j' := 6) rfl rfl rfl rfl (.plain rfl) (T_fa D (m := 1) rfl rfl rfl rfl rfl rfl) rfl ?_
        refine k_st1 (b := 809) (j' := 7) rfl rfl rfl rfl (.plain rfl) (T_stB D (cs' := [_, _]) rfl rfl rfl rfl (flat_sl rfl) rfl rfl (Nat.le_of_ble_eq_true rfl) rfl) rfl ?_
        refine k_done rfl ?_
        refine blockK_n ?_
        refine thenK_n ?_
        refine W_seqK (b' := 857) rfl rfl ?_
        refine k_op0 (d := 63) (b := 825) (j' := 1) rfl rfl rfl rfl (.plain rfl) (T_add64 rfl rfl rfl (by first | assumption | omega | (simp; omega) | (have k := hj (by omega); omega) | (have k := hlj (by omega); omega))) rfl ?_
        refine k_op0 (d := 19) (b := 841) (j' := 2) rfl rfl rfl rfl (.plain rfl) (T_move rfl rfl) rfl ?_
        refine k_done rfl ?_
        refine thenK_n ?_
        refine ⟨j + 1, by (try dsimp only); omega, by (try dsimp only); omega, ?_⟩
        exact ⟨[(2, 2), (3, 3), (4, 4), (5, 5), (6, 6), (7, 7), (8, 777)], .same rfl rfl (.same rfl rfl (.same rfl rfl (.same rfl rfl (.same rfl rfl (.same rfl rfl (.eq rfl (.eq rfl (.nil) (by first | rfl | (exfalso; omega) | (refine tidy_step (by omega) (newBlock_eq rfl rfl rfl ?_ ?_) <;> first | exact (if_pos (by assumption)).symm | exact (if_neg (by assumption)).symm))) (by first | rfl | (exfalso; omega) | (refine tidy_step (by omega) (newBlock_eq rfl rfl rfl ?_ ?_) <;> first | exact (if_pos (by assumption)).symm | exact (if_neg (by assumption)).symm)))))))), .fzE rfl (.box (by first | rfl | (exfalso; omega) | (refine tidy_step (by omega) (newBlock_eq rfl rfl rfl ?_ ?_) <;> first | exact (if_pos (by assumption)).symm | exact (if_neg (by assumption)).symm)) (.box (by first | rfl | (exfalso; omega) | (refine tidy_step (by omega) (newBlock_eq rfl rfl rfl ?_ ?_) <;> first | exact (if_pos (by assumption)).symm | exact (if_neg (by assumption)).symm)) (.rowE rfl (.box (by first | rfl | (exfalso; omega) | (refine tidy_step (by omega) (newBlock_eq rfl rfl rfl ?_ ?_) <;> first | exact (if_pos (by assumption)).symm | exact (if_neg (by assumption)).symm)) (.fzE rfl (.box (by first | rfl | (exfalso; omega) | (refine tidy_step (by omega) (newBlock_eq rfl rfl rfl ?_ ?_) <;> first | exact (if_pos (by assumption)).symm | exact (if_neg (by assumption)).symm)) (.rowE rfl (.nil) (by first | rfl | (exfalso; omega) | (refine tidy_step (by omega) (newBlock_eq rfl rfl rfl ?_ ?_) <;> first | exact (if_pos (by assumption)).symm | exact (if_neg (by assumption)).symm)))) (by first | rfl | (exfalso; omega) | (refine tidy_step (by omega) (newBlock_eq rfl rfl rfl ?_ ?_) <;> first | exact (if_pos (by assumption)).symm | exact (if_neg (by assumption)).symm)))) (by first | rfl | (exfalso; omega) | (refine tidy_step (by omega) (newBlock_eq rfl rfl rfl ?_ ?_) <;> first | exact (if_pos (by assumption)).symm | exact (if_neg (by assumption)).symm))))) (by first | rfl | (exfalso; omega) | (refine tidy_step (by omega) (newBlock_eq rfl rfl rfl ?_ ?_) <;> first | exact (if_pos (by assumption)).symm | exact (if_neg (by assumption)).symm)), rfl⟩
      · have h3 := g3; (try simp only [cmpB, decide_eq_true_eq, decide_eq_false_iff_not, beq_iff_eq, beq_eq_false_iff_ne, bne_iff_ne, ne_eq, bne_eq_false_iff_eq, Bool.not_eq_true', Bool.not_eq_false', Int.not_lt, Int.not_le] at h3)
        refine W_skip ?_
        refine thenK_n ?_
        refine W_seqK (b' := 729) rfl rfl ?_
        refine k_op0 (d := 57) (b := 617) (j' := 1) rfl rfl rfl rfl (.plain rfl) (T_fa D (m := 1) rfl rfl rfl rfl rfl rfl) rfl ?_
        refine k_op0 (d := 58) (b := 633) (j' := 2) rfl rfl rfl rfl (.plain rfl) (T_load_b D rfl rfl rfl rfl rfl rfl) rfl ?_
        refine k_op0 (d := 59) (b := 649) (j' := 3) rfl rfl rfl rfl (.plain rfl) (T_load_bA D (l := [_, _, _, _, _]) rfl rfl rfl rfl rfl rfl rfl) rfl ?_
        refine k_op1 (d := 60) (b := 665) (j' := 4) rfl rfl rfl rfl (.plain rfl) (T_bs D (ys := [⟨_, _, _, _, _⟩]) (enc := eBlock) (l := [_, _, _, _, _]) rfl rfl rfl rfl rfl rfl (.cons rfl flat_agg (.nil)) rfl rfl rfl rfl (.fz rfl (.v rfl (.v rfl (.v rfl (.v rfl (.nil)))))) rfl rfl) rfl ?_
        refine k_opn (d := 61) (b := 681) (j' := 5) rfl rfl rfl rfl (.plain rfl) (T_append D rfl rfl rfl rfl rfl rfl rfl rfl rfl rfl rfl rfl (by (try simp only [ty72]); first | assumption | omega | (simp; omega) | (have k := hj (by omega); omega) | (have k := hlj (by omega); omega)) (by (try simp only [ty72]); first | assumption | omega | (simp; omega) | (have k := hj (by omega); omega) | (have k := hlj (by omega); omega))) rfl ?_
        refine k_op0 (d := 62) (b := 697) (j' := 6) rfl rfl rfl rfl (.plain rfl) (T_fa D (m := 1) rfl rfl rfl rfl rfl rfl) rfl ?_
        refine k_st1 (b := 713) (j' := 7) rfl rfl rfl rfl (.plain rfl) (T_stB D (cs' := [_, _]) rfl rfl rfl rfl (flat_sl rfl) rfl rfl (Nat.le_of_ble_eq_true rfl) rfl) rfl ?_
        refine k_done rfl ?_
        refine blockK_n ?_
        refine thenK_n ?_
        refine W_seqK (b' := 761) rfl rfl ?_
        refine k_op0 (d := 63) (b := 729) (j' := 1) rfl rfl rfl rfl (.plain rfl) (T_add64 rfl rfl rfl (by first | assumption | omega | (simp; omega) | (have k := hj (by omega); omega) | (have k := hlj (by omega); omega))) rfl ?_
        refine k_op0 (d := 19) (b := 745) (j' := 2) rfl rfl rfl rfl (.plain rfl) (T_move rfl rfl) rfl ?_
        refine k_done rfl ?_
        refine thenK_n ?_
        refine ⟨j + 1, by (try dsimp only); omega, by (try dsimp only); omega, ?_⟩
        exact ⟨[(2, 2), (3, 3), (4, 4), (5, 5), (6, 6), (7, 7), (8, 681)], .same rfl rfl (.same rfl rfl (.same rfl rfl (.same rfl rfl (.same rfl rfl (.same rfl rfl (.eq rfl (.eq rfl (.nil) (by first | rfl | (exfalso; omega) | (refine tidy_step (by omega) (newBlock_eq rfl rfl rfl ?_ ?_) <;> first | exact (if_pos (by assumption)).symm | exact (if_neg (by assumption)).symm))) (by first | rfl | (exfalso; omega) | (refine tidy_step (by omega) (newBlock_eq rfl rfl rfl ?_ ?_) <;> first | exact (if_pos (by assumption)).symm | exact (if_neg (by assumption)).symm)))))))), .fzE rfl (.box (by first | rfl | (exfalso; omega) | (refine tidy_step (by omega) (newBlock_eq rfl rfl rfl ?_ ?_) <;> first | exact (if_pos (by assumption)).symm | exact (if_neg (by assumption)).symm)) (.box (by first | rfl | (exfalso; omega) | (refine tidy_step (by omega) (newBlock_eq rfl rfl rfl ?_ ?_) <;> first | exact (if_pos (by assumption)).symm | exact (if_neg (by assumption)).symm)) (.rowE rfl (.box (by first | rfl | (exfalso; omega) | (refine tidy_step (by omega) (newBlock_eq rfl rfl rfl ?_ ?_) <;> first | exact (if_pos (by assumption)).symm | exact (if_neg (by assumption)).symm)) (.fzE rfl (.box (by first | rfl | (exfalso; omega) | (refine tidy_step (by omega) (newBlock_eq rfl rfl rfl ?_ ?_) <;> first | exact (if_pos (by assumption)).symm | exact (if_neg (by assumption)).symm)) (.rowE rfl (.nil) (by first | rfl | (exfalso; omega) | (refine tidy_step (by omega) (newBlock_eq rfl rfl rfl ?_ ?_) <;> first | exact (if_pos (by assumption)).symm | exact (if_neg (by assumption)).symm)))) (by first | rfl | (exfalso; omega) | (refine tidy_step (by omega) (newBlock_eq rfl rfl rfl ?_ ?_) <;> first | exact (if_pos (by assumption)).symm | exact (if_neg (by assumption)).symm)))) (by first | rfl | (exfalso; omega) | (refine tidy_step (by omega) (newBlock_eq rfl rfl rfl ?_ ?_) <;> first | exact (if_pos (by assumption)).symm | exact (if_neg (by assumption)).symm))))) (by first | rfl | (exfalso; omega) | (refine tidy_step (by omega) (newBlock_eq rfl rfl rfl ?_ ?_) <;> first | exact (if_pos (by assumption)).symm | exact (if_neg (by assumption)).symm)), rfl⟩
    · have h2 := g2; (try simp only [cmpB, decide_eq_true_eq, decide_eq_false_iff_not, beq_iff_eq, beq_eq_false_iff_ne, bne_iff_ne, ne_eq, bne_eq_false_iff_eq, Bool.not_eq_true', Bool.not_eq_false', Int.not_lt, Int.not_le] at h2)
      refine W_skip ?_
      refine thenK_n ?_
      refine W_seq ?_
      refine W_seq ?_
      refine W_seqK (b' := 521) rfl rfl ?_
      refine k_op0 (d := 49) (b := 473) (j' := 1) rfl rfl rfl rfl (.plain rfl) (T_fa D (m := 1) rfl rfl rfl rfl rfl rfl) rfl ?_
      refine k_op0 (d := 50) (b := 489) (j' := 2) rfl rfl rfl rfl (.plain rfl) (T_load_b D rfl rfl rfl rfl rfl rfl) rfl ?_
      refine k_op0 (d := 51) (b := 505) (j' := 3) rfl rfl rfl rfl (.plain rfl) (T_cmp rfl rfl rfl rfl) rfl ?_
      refine k_done rfl ?_
      refine thenK_n ?_
      refine W_cond rfl (fun g4 => ?_) (fun g4 => ?_)
      · have h4 := g4; (try simp only [cmpB, decide_eq_true_eq, decide_eq_false_iff_not, beq_iff_eq, beq_eq_false_iff_ne, bne_iff_ne, ne_eq, bne_eq_false_iff_eq, Bool.not_eq_true', Bool.not_eq_false', Int.not_lt, Int.not_le] at h4)
        refine W_seqK (b' := 617) rfl rfl ?_
        refine k_op0 (d := 52) (b := 521) (j' := 1) rfl rfl rfl rfl (.plain rfl) (T_move rfl rfl) rfl ?_
        refine k_op0 (d := 53) (b := 537) (j' := 2) rfl rfl rfl rfl (.plain rfl) (T_fa D (m := 4) rfl rfl rfl rfl rfl rfl) rfl ?_
        refine k_op0 (d := 54) (b := 553) (j' := 3) rfl rfl rfl rfl (.plain rfl) (T_load_b D rfl rfl rfl rfl rfl rfl) rfl ?_
        refine k_op1 (d := 55) (b := 569) (j' := 4) rfl rfl rfl rfl (.plain rfl) (T_call (lvs := [_]) (L := [(1, 5), (2, 6)]) (lv := .v _) (upd := [(5, .box 30 [.r 6])]) (nn := 0) false (of1_spec (pathsL f) _ (by omega) (fun p h => (hpi p h).1)) body67 rfl rfl rfl rfl (.box rfl (.fz rfl (.nil))) rfl (.inl rfl) rfl rfl rfl) rfl ?_
        refine k_op0 (d := 56) (b := 585) (j' := 5) rfl rfl rfl rfl (.plain rfl) (T_fa D (m := 4) rfl rfl rfl rfl rfl rfl) rfl ?_
        refine k_st1 (b := 601) (j' := 6) rfl rfl rfl rfl (.plain rfl) (T_stB D (cs' := [_, _, _, _, _]) rfl rfl rfl rfl (flat_v rfl) rfl rfl (Nat.le_of_ble_eq_true rfl) rfl) rfl ?_
        refine k_done rfl ?_
        refine thenK_n ?_
        refine W_seqK (b' := 729) rfl rfl ?_
        refine k_op0 (d := 57) (b := 617) (j' := 1) rfl rfl rfl rfl (.plain rfl) (T_fa D (m := 1) rfl rfl rfl rfl rfl rfl) rfl ?_
        refine k_op0 (d := 58) (b := 633) (j' := 2) rfl rfl rfl rfl (.plain rfl) (T_load_b D rfl rfl rfl rfl rfl rfl) rfl ?_
        refine k_op0 (d := 59) (b := 649) (j' := 3) rfl rfl rfl rfl (.plain rfl) (T_load_bA D (l := [_, _, _, _, _]) rfl rfl rfl rfl rfl rfl rfl) rfl ?_
        refine k_op1 (d := 60) (b := 665) (j' := 4) rfl rfl rfl rfl (.plain rfl) (T_bs D (ys := [⟨_, _, _, _, _⟩]) (enc := eBlock) (l := [_, _, _, _, _]) rfl rfl rfl rfl rfl rfl (.cons rfl flat_agg (.nil)) rfl rfl rfl rfl (.fz rfl (.v rfl (.v rfl (.v rfl (.v rfl (.nil)))))) rfl rfl) rfl ?_
        refine k_opn (d := 61) (b := 681) (j' := 5) rfl rfl rfl rfl (.plain rfl) (T_append D rfl rfl rfl rfl rfl rfl rfl rfl rfl rfl rfl rfl (by (try simp only [ty72]); first | assumption | omega | (simp; omega) | (have k := hj (by omega); omega) | (have k := hlj (by omega); omega)) (by (try simp only [ty72]); first | assumption | omega | (simp; omega) | (have k := hj (by omega); omega) | (have k := hlj (by omega); omega))) rfl ?_
        refine k_op0 (d := 62) (b := 697) (j' := 6) rfl rfl rfl rfl (.plain rfl) (T_fa D (m := 1) rfl rfl rfl rfl rfl rfl) rfl ?_
        refine k_st1 (b := 713) (j' := 7) rfl rfl rfl rfl (.plain rfl) (T_stB D (cs' := [_, _]) rfl rfl rfl rfl (flat_sl rfl) rfl rfl (Nat.le_of_ble_eq_true rfl) rfl) rfl ?_
        refine k_done rfl ?_
        refine blockK_n ?_
        refine thenK_n ?_
        refine W_seqK (b' := 761) rfl rfl ?_
        refine k_op0 (d := 63) (b := 729) (j' := 1) rfl rfl rfl rfl (.plain rfl) (T_add64 rfl rfl rfl (by first | assumption | omega | (simp; omega) | (have k := hj (by omega); omega) | (have k := hlj (by omega); omega))) rfl ?_
        refine k_op0 (d := 19) (b := 745) (j' := 2) rfl rfl rfl rfl (.plain rfl) (T_move rfl rfl) rfl ?_
        refine k_done rfl ?_
        refine thenK_n ?_
        refine ⟨j + 1, by (try dsimp only); omega, by (try dsimp only); omega, ?_⟩
        exact ⟨[(2, 2), (3, 3), (4, 4), (5, 5), (6, 6), (7, 7), (8, 681)], .same rfl rfl (.same rfl rfl (.same rfl rfl (.same rfl rfl (.same rfl rfl (.same rfl rfl (.eq rfl (.eq rfl (.nil) (by first | rfl | (exfalso; omega) | (refine tidy_step (by omega) (newBlock_eq rfl rfl rfl ?_ ?_) <;> first | exact (if_pos (by assumption)).symm | exact (if_neg (by assumption)).symm))) (by first | rfl | (exfalso; omega) | (refine tidy_step (by omega) (newBlock_eq rfl rfl rfl ?_ ?_) <;> first | exact (if_pos (by assumption)).symm | exact (if_neg (by assumption)).symm)))))))), .fzE rfl (.box (by first | rfl | (exfalso; omega) | (refine tidy_step (by omega) (newBlock_eq rfl rfl rfl ?_ ?_) <;> first | exact (if_pos (by assumption)).symm | exact (if_neg (by assumption)).symm)) (.box (by first | rfl | (exfalso; omega) | (refine tidy_step (by omega) (newBlock_eq rfl rfl rfl ?_ ?_) <;> first | exact (if_pos (by assumption)).symm | exact (if_neg (by assumption)).symm)) (.rowE rfl (.box (by first | rfl | (exfalso; omega) | (refine tidy_step (by omega) (newBlock_eq rfl rfl rfl ?_ ?_) <;> first | exact (if_pos (by assumption)).symm | exact (if_neg (by assumption)).symm)) (.fzE rfl (.box (by first | rfl | (exfalso; omega) | (refine tidy_step (by omega) (newBlock_eq rfl rfl rfl ?_ ?_) <;> first | exact (if_pos (by assumption)).symm | exact (if_neg (by assumption)).symm)) (.rowE rfl (.nil) (by first | rfl | (exfalso; omega) | (refine tidy_step (by omega) (newBlock_eq rfl rfl rfl ?_ ?_) <;> first | exact (if_pos (by assumption)).symm | exact (if_neg (by assumption)).symm)))) (by first | rfl | (exfalso; omega) | (refine tidy_step (by omega) (newBlock_eq rfl rfl rfl ?_ ?_) <;> first | exact (if_pos (by assumption)).symm | exact (if_neg (by assumption)).symm)))) (by first | rfl | (exfalso; omega) | (refine tidy_step (by omega) (newBlock_eq rfl rfl rfl ?_ ?_) <;> first | exact (if_pos (by assumption)).symm | exact (if_neg (by assumption)).symm))))) (by first | rfl | (exfalso; omega) | (refine tidy_step (by omega) (newBlock_eq rfl rfl rfl ?_ ?_) <;> first | exact (if_pos (by assumption)).symm | exact (if_neg (by assumption)).symm)), rfl⟩
      · have h4 := g4; (try simp only [cmpB, decide_eq_true_eq, decide_eq_false_iff_not, beq_iff_eq, beq_eq_false_iff_ne, bne_iff_ne, ne_eq, bne_eq_false_iff_eq, Bool.not_eq_true', Bool.not_eq_false', Int.not_lt, Int.not_le] at h4)
        refine W_skip ?_
        refine thenK_n ?_
        refine W_seqK (b' := 633) rfl rfl ?_
        refine k_op0 (d := 57) (b := 521) (j' := 1) rfl rfl rfl rfl (.plain rfl) (T_fa D (m := 1) rfl rfl rfl rfl rfl rfl) rfl ?_
        refine k_op0 (d := 58) (b := 537) (j' := 2) rfl rfl rfl rfl (.plain rfl) (T_load_b D rfl rfl rfl rfl rfl rfl) rfl ?_
        refine k_op0 (d := 59) (b := 553) (j' := 3) rfl rfl rfl rfl (.plain rfl) (T_load_bA D (l := [_, _, _, _, _]) rfl rfl rfl rfl rfl rfl rfl) rfl ?_
        refine k_op1 (d := 60) (b := 569) (j' := 4) rfl rfl rfl rfl (.plain rfl) (T_bs D (ys := [⟨_, _, _, _, _⟩]) (enc := eBlock) (l := [_, _, _, _, _]) rfl rfl rfl rfl rfl rfl (.cons rfl flat_agg (.nil)) rfl rfl rfl rfl (.fz rfl (.v rfl (.v rfl (.v rfl (.v rfl (.nil)))))) rfl rfl) rfl ?_
        refine k_opn (d := 61) (b := 585) (j' := 5) rfl rfl rfl rfl (.plain rfl) (T_append D rfl rfl rfl rfl rfl rfl rfl rfl rfl rfl rfl rfl (by (try simp only [ty72]); first | assumption | omega | (simp; omega) | (have k := hj (by omega); omega) | (have k := hlj (by omega); omega)) (by (try simp only [ty72]); first | assumption | omega | (simp; omega) | (have k := hj (by omega); omega) | (have k := hlj (by omega); omega))) rfl ?_
        refine k_op0 (d := 62) (b := 601) (j' := 6) rfl rfl rfl rfl (.plain rfl) (T_fa D (m := 1) rfl rfl rfl rfl rfl rfl) rfl ?_
        refine k_st1 (b := 617) (j' := 7) rfl rfl rfl rfl (.plain rfl) (T_stB D (cs' := [_, _]) rfl rfl rfl rfl (flat_sl rfl) rfl rfl (Nat.le_of_ble_eq_true rfl) rfl) rfl ?_
        refine k_done rfl ?_
        refine blockK_n ?_
        refine thenK_n ?_
        refine W_seqK (b' := 665) rfl rfl ?_
        refine k_op0 (d := 63) (b := 633) (j' := 1) rfl rfl rfl rfl (.plain rfl) (T_add64 rfl rfl rfl (by first | assumption | omega | (simp; omega) | (have k := hj (by omega); omega) | (have k := hlj (by omega); omega))) rfl ?_
        refine k_op0 (d := 19) (b := 649) (j' := 2) rfl rfl rfl rfl (.plain rfl) (T_move rfl rfl) rfl ?_
        refine k_done rfl ?_
        refine thenK_n ?_
        refine ⟨j + 1, by (try dsimp only); omega, by (try dsimp only); omega, ?_⟩
        exact ⟨[(2, 2), (3, 3), (4, 4), (5, 5), (6, 6), (7, 7), (8, 585)], .same rfl rfl (.same rfl rfl (.same rfl rfl (.same rfl rfl (.same rfl rfl (.same rfl rfl (.eq rfl (.eq rfl (.nil) (by first | rfl | (exfalso; omega) | (refine tidy_step (by omega) (newBlock_eq rfl rfl rfl ?_ ?_) <;> first | exact (if_pos (by assumption)).symm | exact (if_neg (by assumption)).symm))) (by first | rfl | (exfalso; omega) | (refine tidy_step (by omega) (newBlock_eq rfl rfl rfl ?_ ?_) <;> first | exact (if_pos (by assumption)).symm | exact (if_neg (by assumption)).symm)))))))), .fzE rfl (.box (by first | rfl | (exfalso; omega) | (refine tidy_step (by omega) (newBlock_eq rfl rfl rfl ?_ ?_) <;> first | exact (if_pos (by assumption)).symm | exact (if_neg (by assumption)).symm)) (.box (by first | rfl | (exfalso; omega) | (refine tidy_step (by omega) (newBlock_eq rfl rfl rfl ?_ ?_) <;> first | exact (if_pos (by assumption)).symm | exact (if_neg (by assumption)).symm)) (.rowE rfl (.box (by first | rfl | (exfalso; omega) | (refine tidy_step (by omega) (newBlock_eq rfl rfl rfl ?_ ?_) <;> first | exact (if_pos (by assumption)).symm | exact (if_neg (by assumption)).symm)) (.fzE rfl (.box (by first | rfl | (exfalso; omega) | (refine tidy_step (by omega) (newBlock_eq rfl rfl rfl ?_ ?_) <;> first | exact (if_pos (by assumption)).symm | exact (if_neg (by assumption)).symm)) (.rowE rfl (.nil) (by first | rfl | (exfalso; omega) | (refine tidy_step (by omega) (newBlock_eq rfl rfl rfl ?_ ?_) <;> first | exact (if_pos (by assumption)).symm | exact (if_neg (by assumption)).symm)))) (by first | rfl | (exfalso; omega) | (refine tidy_step (by omega) (newBlock_eq rfl rfl rfl ?_ ?_) <;> first | exact (if_pos (by assumption)).symm | exact (if_neg (by assumption)).symm)))) (by first | rfl | (exfalso; omega) | (refine tidy_step (by omega) (newBlock_eq rfl rfl rfl ?_ ?_) <;> first | exact (if_pos (by assumption)).symm | exact (if_neg (by assumption)).symm))))) (by first | rfl | (exfalso; omega) | (refine tidy_step (by omega) (newBlock_eq rfl rfl rfl ?_ ?_) <;> first | exact (if_pos (by assumption)).symm | exact (if_neg (by assumption)).symm)), rfl⟩
  · have h1 := g1; (try simp only [cmpB, decide_eq_true_eq, decide_eq_false_iff_not, beq_iff_eq, beq_eq_false_iff_ne, bne_iff_ne, ne_eq, bne_eq_false_iff_eq, Bool.not_eq_true', Bool.not_eq_false', Int.not_lt, Int.not_le] at h1)
    refine W_exit ?_
    refine thenK_e ?_
    refine thenK_e ?_
    refine blockK_hit ?_
    refine thenK_n ?_
    refine W_seq ?_
    refine W_anyK (b' := 89) rfl rfl rfl ?_
    refine k_op0 (d := 64) (b := 25) (j' := 1) rfl rfl rfl rfl (.plain rfl) (T_load_bA D (l := [_, _]) rfl rfl rfl rfl rfl rfl rfl) rfl ?_
    refine k_op0 (d := 65) (b := 41) (j' := 2) rfl rfl rfl rfl (.plain rfl) (T_load_b D rfl rfl rfl rfl rfl rfl) rfl ?_
    refine k_st1 (b := 57) (j' := 3) rfl rfl rfl rfl (.plain rfl) (T_stB D (cs' := [_, _]) rfl rfl rfl rfl flat_agg rfl rfl (Nat.le_of_ble_eq_true rfl) rfl) rfl ?_
    refine k_op0 (d := 3) (b := 73) (j' := 4) rfl rfl rfl rfl (.plain rfl) (T_assign rfl rfl) rfl ?_
    refine k_done rfl ?_
    refine ⟨rfl, ?_⟩
    refine thenK_n ?_
    refine W_ret ?_
    -- end 0
    exact .mk [(2, 8), (3, 6)] (.inr rfl) (.cellA rfl rfl rfl rfl rfl (.tmp rfl (.nil))) (by first | rfl | (have e : j = (pathsL f).length := (by omega); rw [e, List.take_of_length_le (Nat.le_refl _)]; rfl)) (.rowE rfl (.fzE rfl (.nil) (by first | rfl | (have e : j = (pathsL f).length := (by omega); rw [e, List.take_of_length_le (Nat.le_refl _)]; rfl))) (by first | rfl | (have e : j = (pathsL f).length := (by omega); rw [e, List.take_of_length_le (Nat.le_refl _)]; rfl))) rfl
end Lg
end Go.Proofs.Ytpfhmodjjljpjaa
