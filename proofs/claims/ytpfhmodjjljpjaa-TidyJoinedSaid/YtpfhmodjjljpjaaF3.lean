import Derived.Test.YtpfhmodjjljpjaaF2
namespace Go.Proofs.Ytpfhmodjjljpjaa
open Go.RowKit
namespace Lg
set_option maxRecDepth 100000
set_option linter.unusedVariables false
set_option linter.unusedSimpArgs false



theorem body75 : (Try.prog.funcs[75]?).map (fun fn => (fn.name == "runtime.NumGoroutine" || fn.body.isNone)) = some false := by kernel_rfl
theorem made_spec (f : GFn) (b : GBlock) (p : List Int) (ps : List (List Int)) (hbi : b.ins.length ≤ 1000000) (h0 : 1 ≤ p.length) (hp : p.length ≤ 1000000000 ∧ ∀ i, i < p.length → 0 ≤ p.getD i default ∧ p.getD i default < (f.blocks.length : Int)) (hb : ∀ j, (instrs f (p.take j)).length ≤ 1000000000) (hps : ∀ q ∈ ps, 0 < q.length) : Spec Try.prog 75 [.agg [.v (.int .i64 f.regs), .r 1], .agg [.r 2, .v (.int .i64 b.fin), .v (.int .i64 b.v), .v (.int .i64 b.to), .v (.int .i64 b.els)], .r 3, .r 4] 5 [(1, .fz 5 (f.blocks.map eBlock)), (2, .fz 8 (b.ins.map eTac)), (3, .fz 1 (p.map eI)), (4, .fz 1 (ps.map eIs))] (.v (.bool (made f b p ps))) 5 [] := by
  refine spec_of D (fn := Try.f75) rfl rfl (Nat.le_of_ble_eq_true rfl) ?_
  refine W_seq ?_
  refine W_seqK (b' := 53) rfl rfl ?_
  refine k_op1 (d := 4) (b := 5) (j' := 1) rfl rfl rfl rfl (.plain rfl) (T_box rfl rfl flat_agg) rfl ?_
  refine k_op1 (d := 5) (b := 21) (j' := 2) rfl rfl rfl rfl (.plain rfl) (T_box rfl rfl flat_agg) rfl ?_
  refine k_op0 (d := 8) (b := 37) (j' := 3) rfl rfl rfl rfl (.plain rfl) (T_assign rfl rfl) rfl ?_
  refine k_done rfl ?_
  refine thenK_n ?_
  refine W_seq ?_
  refine W_seq ?_
  refine W_seqK (b' := 117) rfl rfl ?_
  refine k_op0 (d := 13) (b := 53) (j' := 1) rfl rfl rfl rfl (.plain rfl) (T_move rfl rfl) rfl ?_
  refine k_op1 (d := 14) (b := 69) (j' := 2) rfl rfl rfl rfl (.plain rfl) (T_slF D (vl := some _) (vh := none) (vm := none) (l := 1) rfl rfl rfl rfl rfl rfl rfl rfl rfl rfl (by first | assumption | omega | (have k1 := hq4 (by omega); omega) | (have k1 := hp.2 ((p.length : Int) - 1).toNat (by omega); omega)) (by first | assumption | omega | (have k1 := hq4 (by omega); omega) | (have k1 := hp.2 ((p.length : Int) - 1).toNat (by omega); omega)) (slb_l (by first | assumption | omega | (have k1 := hq4 (by omega); omega) | (have k1 := hp.2 ((p.length : Int) - 1).toNat (by omega); omega)))) rfl ?_
  refine k_op0 (d := 15) (b := 85) (j' := 3) rfl rfl rfl rfl (.plain rfl) (T_len D rfl rfl rfl rfl rfl rfl) rfl ?_
  refine k_op0 (d := 16) (b := 101) (j' := 4) rfl rfl rfl rfl (.plain rfl) (T_move rfl rfl) rfl ?_
  refine k_done rfl ?_
  refine thenK_n ?_
  refine W_block ?_
  refine W_loop (ι := Nat) 8 (fun j => ⟨[(2, .r 3), (3, .r 4), (4, .p 5 0), (5, .p 6 0), (14, .r 7), (15, .v (.int .i64 ((sub p 1 p.length).length : Int))), (16, .v (.int .i64 (j : Int)))], [(1, .fz 5 (f.blocks.map eBlock)), (2, .fz 8 (b.ins.map eTac)), (3, .fz 1 (p.map eI)), (4, .fz 1 (ps.map eIs)), (5, .box 29 [.v (.int .i64 f.regs), .r 1]), (6, .box 72 [.r 2, .v (.int .i64 b.fin), .v (.int .i64 b.v), .v (.int .i64 b.to), .v (.int .i64 b.els)]), (7, .fz 1 ((sub p 1 p.length).map eI))]⟩) (fun j => j ≤ p.length - 1 ∧ ∀ i, i < j → link f p i = true) (fun j => p.length - 1 - j) (0) (by exact ⟨Nat.zero_le _, fun i h => absurd h (Nat.not_lt_zero _)⟩) ?_ (fun j hJ => ?_)
  · exact ⟨[(5, 5), (6, 21), (7, 69)], .same rfl rfl (.same rfl rfl (.same rfl rfl (.same rfl rfl (.same rfl rfl (.eq rfl (.eq rfl (.nil) (by first | rfl | simp)) (by first | rfl | simp)))))), .fzE rfl (.fzE rfl (.fzE rfl (.fzE rfl (.box (by first | rfl | simp) (.box (by first | rfl | simp) (.fzE rfl (.nil) (by first | rfl | simp)))) (by first | rfl | simp)) (by first | rfl | simp)) (by first | rfl | simp)) (by first | rfl | simp), rfl⟩
  have hs1 := sub1_length h0
  have hq4 := hp.2 j
  refine W_seq ?_
  refine W_seqK (b' := 24) rfl rfl ?_
  refine k_op0 (d := 17) (b := 8) (j' := 1) rfl rfl rfl rfl (.plain rfl) (T_cmp rfl rfl rfl rfl) rfl ?_
  refine k_done rfl ?_
  refine thenK_n ?_
  refine W_seq ?_
  refine W_cond rfl (fun g1 => ?_) (fun g1 => ?_)
  · have h1 := g1; (try simp only [cmpB, decide_eq_true_eq, decide_eq_false_iff_not, beq_iff_eq, beq_eq_false_iff_ne, bne_iff_ne, ne_eq, bne_eq_false_iff_eq, Bool.not_eq_true', Bool.not_eq_false', Int.not_lt, Int.not_le] at h1)
    refine W_skip ?_
    refine thenK_n ?_
    refine W_seq ?_
    refine W_block ?_
    refine W_seq ?_
    refine W_seqK (b' := 104) rfl rfl ?_
    refine k_op0 (d := 18) (b := 24) (j' := 1) rfl rfl rfl rfl (.plain rfl) (T_move rfl rfl) rfl ?_
    first | refine k_op0 (d := 19) (b := 40) (j' := 2) rfl rfl rfl rfl (.plain rfl) (T_indexAddr D rfl rfl rfl rfl rfl rfl rfl rfl (by first | assumption | omega | (have k1 := hq4 (by omega); omega) | (have k1 := hp.2 ((p.length : Int) - 1).toNat (by omega); omega))) rfl ?_ | refine k_op0 (d := 19) (b := 40) (j' := 2) rfl rfl rfl rfl (.plain rfl) (T_indexAddrZ D rfl rfl rfl rfl rfl rfl rfl rfl (by first | assumption | omega | (have k1 := hq4 (by omega); omega) | (have k1 := hp.2 ((p.length : Int) - 1).toNat (by omega); omega)) (by first | assumption | omega | (have k1 := hq4 (by omega); omega) | (have k1 := hp.2 ((p.length : Int) - 1).toNat (by omega); omega))) rfl ?_
    refine k_op0 (d := 20) (b := 56) (j' := 3) rfl rfl rfl rfl (.plain rfl) (T_ldE D (lv := .v _) (nn := 0) (upd := []) rfl rfl rfl rfl rfl (by first | assumption | omega | (have k1 := hq4 (by omega); omega) | (have k1 := hp.2 ((p.length : Int) - 1).toNat (by omega); omega)) rfl rfl rfl rfl) rfl ?_
    refine k_op0 (d := 9) (b := 72) (j' := 4) rfl rfl rfl rfl (.plain rfl) (T_assign rfl rfl) rfl ?_
    refine k_op0 (d := 10) (b := 88) (j' := 5) rfl rfl rfl rfl (.plain rfl) (T_assign rfl rfl) rfl ?_
    refine k_done rfl ?_
    refine thenK_n ?_
    refine W_seq ?_
    refine W_anyK (b' := 264) rfl rfl rfl ?_
    refine k_op0 (d := 21) (b := 104) (j' := 1) rfl rfl rfl rfl (.plain rfl) (T_fa D (m := 1) rfl rfl rfl rfl rfl rfl) rfl ?_
    refine k_op0 (d := 22) (b := 120) (j' := 2) rfl rfl rfl rfl (.plain rfl) (T_load_b D rfl rfl rfl rfl rfl rfl) rfl ?_
    refine k_op0 (d := 23) (b := 136) (j' := 3) rfl rfl rfl rfl (.plain rfl) (T_move rfl rfl) rfl ?_
    refine k_op0 (d := 24) (b := 152) (j' := 4) rfl rfl rfl rfl (.plain rfl) (T_move rfl rfl) rfl ?_
    first | refine k_op0 (d := 25) (b := 168) (j' := 5) rfl rfl rfl rfl (.plain rfl) (T_indexAddr D rfl rfl rfl rfl rfl rfl rfl rfl (by first | assumption | omega | (have k1 := hq4 (by omega); omega) | (have k1 := hp.2 ((p.length : Int) - 1).toNat (by omega); omega))) rfl ?_ | refine k_op0 (d := 25) (b := 168) (j' := 5) rfl rfl rfl rfl (.plain rfl) (T_indexAddrZ D rfl rfl rfl rfl rfl rfl rfl rfl (by first | assumption | omega | (have k1 := hq4 (by omega); omega) | (have k1 := hp.2 ((p.length : Int) - 1).toNat (by omega); omega)) (by first | assumption | omega | (have k1 := hq4 (by omega); omega) | (have k1 := hp.2 ((p.length : Int) - 1).toNat (by omega); omega))) rfl ?_
    refine k_op0 (d := 26) (b := 184) (j' := 6) rfl rfl rfl rfl (.plain rfl) (T_ldE D (lv := .v _) (nn := 0) (upd := []) rfl rfl rfl rfl rfl (by first | assumption | omega | (have k1 := hq4 (by omega); omega) | (have k1 := hp.2 ((p.length : Int) - 1).toNat (by omega); omega)) rfl rfl rfl rfl) rfl ?_
    first | refine k_op0 (d := 27) (b := 200) (j' := 7) rfl rfl rfl rfl (.plain rfl) (T_indexAddr D rfl rfl rfl rfl rfl rfl rfl rfl (by first | assumption | omega | (have k1 := hq4 (by omega); omega) | (have k1 := hp.2 ((p.length : Int) - 1).toNat (by omega); omega))) rfl ?_ | refine k_op0 (d := 27) (b := 200) (j' := 7) rfl rfl rfl rfl (.plain rfl) (T_indexAddrZ D rfl rfl rfl rfl rfl rfl rfl rfl (by first | assumption | omega | (have k1 := hq4 (by omega); omega) | (have k1 := hp.2 ((p.length : Int) - 1).toNat (by omega); omega)) (by first | assumption | omega | (have k1 := hq4 (by omega); omega) | (have k1 := hp.2 ((p.length : Int) - 1).toNat (by omega); omega))) rfl ?_
    refine k_op1 (d := 28) (b := 216) (j' := 8) rfl rfl rfl rfl (.plain rfl) (T_ldEA D (l := [.r 216, .v _, .v _, .v _, .v _]) (nn := 1) (upd := [(216, .fz 8 _)]) rfl rfl rfl rfl rfl (by first | assumption | omega | (have k1 := hq4 (by omega); omega) | (have k1 := hp.2 ((p.length : Int) - 1).toNat (by omega); omega)) rfl rfl rfl rfl rfl) rfl ?_
    refine k_opn (d := 11) (b := 232) (j' := 9) rfl rfl rfl rfl (.plain rfl) (T_nilbox [(70, 8)] (T_alloc D rfl rfl rfl) rfl (.cons (.nil rfl) <| .cons (.same _) <| .cons (.same _) <| .cons (.same _) <| .cons (.same _) <| .nil) (upd' := [(232, .box 72 [.r 233, .v (.int .i64 0), .v (.int .i64 0), .v (.int .i64 0), .v (.int .i64 0)]), (233, .row 70 8 (List.map eTac ([] : List (GTac))))]) (nn' := 2) rfl rfl) rfl ?_
    refine k_st1 (b := 248) (j' := 10) rfl rfl rfl rfl (.plain rfl) (T_stB D (cs' := [_, _, _, _, _]) rfl rfl rfl rfl flat_agg rfl rfl (Nat.le_of_ble_eq_true rfl) rfl) rfl ?_
    refine k_done rfl ?_
    refine ⟨rfl, ?_⟩
    refine thenK_n ?_
    refine W_seq ?_
    refine W_seqK (b' := 408) rfl rfl ?_
    refine k_op0 (d := 29) (b := 264) (j' := 1) rfl rfl rfl rfl (.plain rfl) (T_fa D (m := 1) rfl rfl rfl rfl rfl rfl) rfl ?_
    refine k_op0 (d := 30) (b := 280) (j' := 2) rfl rfl rfl rfl (.plain rfl) (T_load_b D rfl rfl rfl rfl rfl rfl) rfl ?_
    refine k_op0 (d := 31) (b := 296) (j' := 3) rfl rfl rfl rfl (.plain rfl) (T_cmp rfl rfl rfl rfl) rfl ?_
    refine k_op0 (d := 32) (b := 312) (j' := 4) rfl rfl rfl rfl (.plain rfl) (T_move rfl rfl) rfl ?_
    refine k_split (d := 32) rfl (fun g2 => ?_) (fun g2 => ?_)
    · have h2 := g2; (try simp only [cmpB, decide_eq_true_eq, decide_eq_false_iff_not, beq_iff_eq, beq_eq_false_iff_ne, bne_iff_ne, ne_eq, bne_eq_false_iff_eq, Bool.not_eq_true', Bool.not_eq_false', Int.not_lt, Int.not_le] at h2)
      refine k_no (d := 33) (j' := 5) rfl rfl rfl (g_ft rfl rfl rfl g2) ?_
      refine k_no (d := 34) (j' := 6) rfl rfl rfl (g_ft rfl rfl rfl g2) ?_
      refine k_no (d := 35) (j' := 7) rfl rfl rfl (g_ft rfl rfl rfl g2) ?_
      refine k_no (d := 36) (j' := 8) rfl rfl rfl (g_ft rfl rfl rfl g2) ?_
      refine k_op0 (d := 37) (b := 392) (j' := 9) rfl rfl rfl rfl (.plain rfl) (T_pick_t rfl rfl rfl g2) rfl ?_
      refine k_done rfl ?_
      refine thenK_n ?_
      refine W_cond rfl (fun g3 => ?_) (fun g3 => ?_)
      · skip
        refine W_seq ?_
        refine W_seqK (b' := 424) rfl rfl ?_
        refine k_op0 (d := 8) (b := 408) (j' := 1) rfl rfl rfl rfl (.plain rfl) (T_assign rfl rfl) rfl ?_
        refine k_done rfl ?_
        refine thenK_n ?_
        refine W_ret ?_
        refine blockK_r ?_
        refine thenK_r ?_
        refine thenK_r ?_
        refine blockK_r ?_
        refine thenK_r ?_
        -- end 0
        exact .mk [] (.inr rfl) (.tmp rfl (.nil)) (by simp only [resLV, LV.ren, LV.v.injEq, Value.bool.injEq]; exact (made_f (i := j) (by omega) (by unfold link blk; simp [-List.getD_eq_getElem?_getD, -Int.default_eq_zero, h2])).symm) (.nil) rfl
      · exact absurd (g3.symm.trans rfl) (by decide)
    · have h2 := g2; (try simp only [cmpB, decide_eq_true_eq, decide_eq_false_iff_not, beq_iff_eq, beq_eq_false_iff_ne, bne_iff_ne, ne_eq, bne_eq_false_iff_eq, Bool.not_eq_true', Bool.not_eq_false', Int.not_lt, Int.not_le] at h2)
      refine k_op0 (d := 33) (b := 328) (j' := 5) rfl rfl rfl rfl (g_ff rfl rfl rfl g2) (T_fa D (m := 3) rfl rfl rfl rfl rfl rfl) rfl ?_
      refine k_op0 (d := 34) (b := 344) (j' := 6) rfl rfl rfl rfl (g_ff rfl rfl rfl g2) (T_load_b D rfl rfl rfl rfl rfl rfl) rfl ?_
      refine k_op0 (d := 35) (b := 360) (j' := 7) rfl rfl rfl rfl (g_ff rfl rfl rfl g2) (T_move rfl rfl) rfl ?_
      refine k_op0 (d := 36) (b := 376) (j' := 8) rfl rfl rfl rfl (g_ff rfl rfl rfl g2) (T_cmp rfl rfl rfl rfl) rfl ?_
      refine k_op0 (d := 37) (b := 392) (j' := 9) rfl rfl rfl rfl (.plain rfl) (T_pick_f rfl rfl rfl g2) rfl ?_
      refine k_done rfl ?_
      refine thenK_n ?_
      refine W_cond rfl (fun g4 => ?_) (fun g4 => ?_)
      · have h4 := g4; (try simp only [cmpB, decide_eq_true_eq, decide_eq_false_iff_not, beq_iff_eq, beq_eq_false_iff_ne, bne_iff_ne, ne_eq, bne_eq_false_iff_eq, Bool.not_eq_true', Bool.not_eq_false', Int.not_lt, Int.not_le] at h4)
        refine W_seq ?_
        refine W_seqK (b' := 424) rfl rfl ?_
        refine k_op0 (d := 8) (b := 408) (j' := 1) rfl rfl rfl rfl (.plain rfl) (T_assign rfl rfl) rfl ?_
        refine k_done rfl ?_
        refine thenK_n ?_
        refine W_ret ?_
        refine blockK_r ?_
        refine thenK_r ?_
        refine thenK_r ?_
        refine blockK_r ?_
        refine thenK_r ?_
        -- end 1
        exact .mk [] (.inr rfl) (.tmp rfl (.nil)) (by simp only [resLV, LV.ren, LV.v.injEq, Value.bool.injEq]; exact (made_f (i := j) (by omega) (by rw [sub_getD (by omega), Nat.add_comm] at h4; unfold link blk; simp [-List.getD_eq_getElem?_getD, -Int.default_eq_zero, h4])).symm) (.nil) rfl
      · have h4 := g4; (try simp only [cmpB, decide_eq_true_eq, decide_eq_false_iff_not, beq_iff_eq, beq_eq_false_iff_ne, bne_iff_ne, ne_eq, bne_eq_false_iff_eq, Bool.not_eq_true', Bool.not_eq_false', Int.not_lt, Int.not_le] at h4)
        refine W_skip ?_
        refine blockK_n ?_
        refine thenK_n ?_
        refine W_seqK (b' := 440) rfl rfl ?_
        refine k_op0 (d := 38) (b := 408) (j' := 1) rfl rfl rfl rfl (.plain rfl) (T_add64 rfl rfl rfl (by first | assumption | omega | (have k1 := hq4 (by omega); omega) | (have k1 := hp.2 ((p.length : Int) - 1).toNat (by omega); omega))) rfl ?_
        refine k_op0 (d := 16) (b := 424) (j' := 2) rfl rfl rfl rfl (.plain rfl) (T_move rfl rfl) rfl ?_
        refine k_done rfl ?_
        refine thenK_n ?_
        refine ⟨j + 1, by (try dsimp only); exact ⟨by omega, fun i hi => by rcases Nat.lt_or_ge i j with h | h; exact hJ.2 i h; rw [show i = j by omega]; unfold link blk; rw [sub_getD (by omega), Nat.add_comm] at h4; simp [-List.getD_eq_getElem?_getD, -Int.default_eq_zero, h2, h4]⟩, by (try dsimp only); omega, ?_⟩
        exact ⟨[(5, 5), (6, 6), (7, 7)], .same rfl rfl (.same rfl rfl (.same rfl rfl (.same rfl rfl (.same rfl rfl (.eq rfl (.eq rfl (.nil) (by first | rfl | simp)) (by first | rfl | simp)))))), .fzE rfl (.fzE rfl (.fzE rfl (.fzE rfl (.box (by first | rfl | simp) (.box (by first | rfl | simp) (.fzE rfl (.nil) (by first | rfl | simp)))) (by first | rfl | simp)) (by first | rfl | simp)) (by first | rfl | simp)) (by first | rfl | simp), rfl⟩
  · have h1 := g1; (try simp only [cmpB, decide_eq_true_eq, decide_eq_false_iff_not, beq_iff_eq, beq_eq_false_iff_ne, bne_iff_ne, ne_eq, bne_eq_false_iff_eq, Bool.not_eq_true', Bool.not_eq_false', Int.not_lt, Int.not_le] at h1)
    refine W_exit ?_
    refine thenK_e ?_
    refine thenK_e ?_
    refine blockK_hit ?_
    refine thenK_n ?_
    refine W_seq ?_
    refine W_anyK (b' := 216) rfl rfl rfl ?_
    refine k_op0 (d := 39) (b := 24) (j' := 1) rfl rfl rfl rfl (.plain rfl) (T_fa D (m := 1) rfl rfl rfl rfl rfl rfl) rfl ?_
    refine k_op0 (d := 40) (b := 40) (j' := 2) rfl rfl rfl rfl (.plain rfl) (T_load_b D rfl rfl rfl rfl rfl rfl) rfl ?_
    refine k_op0 (d := 41) (b := 56) (j' := 3) rfl rfl rfl rfl (.plain rfl) (T_move rfl rfl) rfl ?_
    refine k_op0 (d := 42) (b := 72) (j' := 4) rfl rfl rfl rfl (.plain rfl) (T_move rfl rfl) rfl ?_
    refine k_op0 (d := 43) (b := 88) (j' := 5) rfl rfl rfl rfl (.plain rfl) (T_len D rfl rfl rfl rfl rfl rfl) rfl ?_
    refine k_op0 (d := 44) (b := 104) (j' := 6) rfl rfl rfl rfl (.plain rfl) (T_sub64 rfl rfl rfl (by first | assumption | omega | (have k1 := hq4 (by omega); omega) | (have k1 := hp.2 ((p.length : Int) - 1).toNat (by omega); omega))) rfl ?_
    first | refine k_op0 (d := 45) (b := 120) (j' := 7) rfl rfl rfl rfl (.plain rfl) (T_indexAddr D rfl rfl rfl rfl rfl rfl rfl rfl (by first | assumption | omega | (have k1 := hq4 (by omega); omega) | (have k1 := hp.2 ((p.length : Int) - 1).toNat (by omega); omega))) rfl ?_ | refine k_op0 (d := 45) (b := 120) (j' := 7) rfl rfl rfl rfl (.plain rfl) (T_indexAddrZ D rfl rfl rfl rfl rfl rfl rfl rfl (by first | assumption | omega | (have k1 := hq4 (by omega); omega) | (have k1 := hp.2 ((p.length : Int) - 1).toNat (by omega); omega)) (by first | assumption | omega | (have k1 := hq4 (by omega); omega) | (have k1 := hp.2 ((p.length : Int) - 1).toNat (by omega); omega))) rfl ?_
    refine k_op0 (d := 46) (b := 136) (j' := 8) rfl rfl rfl rfl (.plain rfl) (T_ldE D (lv := .v _) (nn := 0) (upd := []) rfl rfl rfl rfl rfl (by first | assumption | omega | (have k1 := hq4 (by omega); omega) | (have k1 := hp.2 ((p.length : Int) - 1).toNat (by omega); omega)) rfl rfl rfl rfl) rfl ?_
    first | refine k_op0 (d := 47) (b := 152) (j' := 9) rfl rfl rfl rfl (.plain rfl) (T_indexAddr D rfl rfl rfl rfl rfl rfl rfl rfl (by first | assumption | omega | (have k1 := hq4 (by omega); omega) | (have k1 := hp.2 ((p.length : Int) - 1).toNat (by omega); omega))) rfl ?_ | refine k_op0 (d := 47) (b := 152) (j' := 9) rfl rfl rfl rfl (.plain rfl) (T_indexAddrZ D rfl rfl rfl rfl rfl rfl rfl rfl (by first | assumption | omega | (have k1 := hq4 (by omega); omega) | (have k1 := hp.2 ((p.length : Int) - 1).toNat (by omega); omega)) (by first | assumption | omega | (have k1 := hq4 (by omega); omega) | (have k1 := hp.2 ((p.length : Int) - 1).toNat (by omega); omega))) rfl ?_
    refine k_op1 (d := 48) (b := 168) (j' := 10) rfl rfl rfl rfl (.plain rfl) (T_ldEA D (l := [.r 168, .v _, .v _, .v _, .v _]) (nn := 1) (upd := [(168, .fz 8 _)]) rfl rfl rfl rfl rfl (by first | assumption | omega | (have k1 := hq4 (by omega); omega) | (have k1 := hp.2 ((p.length : Int) - 1).toNat (by omega); omega)) rfl rfl rfl rfl rfl) rfl ?_
    refine k_opn (d := 12) (b := 184) (j' := 11) rfl rfl rfl rfl (.plain rfl) (T_nilbox [(70, 8)] (T_alloc D rfl rfl rfl) rfl (.cons (.nil rfl) <| .cons (.same _) <| .cons (.same _) <| .cons (.same _) <| .cons (.same _) <| .nil) (upd' := [(184, .box 72 [.r 185, .v (.int .i64 0), .v (.int .i64 0), .v (.int .i64 0), .v (.int .i64 0)]), (185, .row 70 8 (List.map eTac ([] : List (GTac))))]) (nn' := 2) rfl rfl) rfl ?_
    refine k_st1 (b := 200) (j' := 12) rfl rfl rfl rfl (.plain rfl) (T_stB D (cs' := [_, _, _, _, _]) rfl rfl rfl rfl flat_agg rfl rfl (Nat.le_of_ble_eq_true rfl) rfl) rfl ?_
    refine k_done rfl ?_
    refine ⟨rfl, ?_⟩
    refine thenK_n ?_
    refine W_seq ?_
    refine W_seq ?_
    refine W_anyK (b' := 552) rfl rfl rfl ?_
    refine k_op0 (d := 49) (b := 216) (j' := 1) rfl rfl rfl rfl (.plain rfl) (T_fa D (m := 0) rfl rfl rfl rfl rfl rfl) rfl ?_
    refine k_op0 (d := 50) (b := 232) (j' := 2) rfl rfl rfl rfl (.plain rfl) (T_load_b D rfl rfl rfl rfl rfl rfl) rfl ?_
    refine k_op0 (d := 51) (b := 248) (j' := 3) rfl rfl rfl rfl (.plain rfl) (T_load_bA D (l := [_, _]) rfl rfl rfl rfl rfl rfl rfl) rfl ?_
    refine k_op0 (d := 52) (b := 264) (j' := 4) rfl rfl rfl rfl (.plain rfl) (T_move rfl rfl) rfl ?_
    refine k_op1 (d := 53) (b := 280) (j' := 5) rfl rfl rfl rfl (.plain rfl) (T_call (lvs := [_, _]) (L := [(1, 1), (2, 3)]) (lv := .r 280) (upd := [(280, .fz 8 _)]) (nn := 1) false (instrs_spec _ _ (by assumption) (by assumption)) body70 rfl rfl rfl rfl (.fz rfl (.fz rfl (.nil))) rfl (.inl rfl) rfl rfl rfl) rfl ?_
    refine k_op0 (d := 54) (b := 296) (j' := 6) rfl rfl rfl rfl (.plain rfl) (T_callV (lvs := [_, _]) (L := [(1, 2), (2, 280)]) (equal_spec _ _ hbi) body117 rfl rfl rfl rfl (.fz rfl (.fz rfl (.nil))) rfl) rfl ?_
    refine k_op0 (d := 55) (b := 312) (j' := 7) rfl rfl rfl rfl (.plain rfl) (T_not rfl rfl) rfl ?_
    refine k_op0 (d := 56) (b := 328) (j' := 8) rfl rfl rfl rfl (.plain rfl) (T_move rfl rfl) rfl ?_
    refine k_split (d := 56) rfl (fun g5 => ?_) (fun g5 => ?_)
    · have h5 := g5; (try simp only [cmpB, decide_eq_true_eq, decide_eq_false_iff_not, beq_iff_eq, beq_eq_false_iff_ne, bne_iff_ne, ne_eq, bne_eq_false_iff_eq, Bool.not_eq_true', Bool.not_eq_false', Int.not_lt, Int.not_le] at h5)
      refine k_no (d := 57) (j' := 9) rfl rfl rfl (g_ft rfl rfl rfl g5) ?_
      refine k_no (d := 58) (j' := 10) rfl rfl rfl (g_ft rfl rfl rfl g5) ?_
      refine k_no (d := 59) (j' := 11) rfl rfl rfl (g_ft rfl rfl rfl g5) ?_
      refine k_no (d := 60) (j' := 12) rfl rfl rfl (g_ft rfl rfl rfl g5) ?_
      refine k_no (d := 61) (j' := 13) rfl rfl rfl (g_ft rfl rfl rfl g5) ?_
      refine k_op0 (d := 62) (b := 424) (j' := 14) rfl rfl rfl rfl (.plain rfl) (T_pick_t rfl rfl rfl g5) rfl ?_
      refine k_op0 (d := 63) (b := 440) (j' := 15) rfl rfl rfl rfl (.plain rfl) (T_move rfl rfl) rfl ?_
      refine k_no (d := 64) (j' := 16) rfl rfl rfl (g_ft rfl rfl rfl rfl) ?_
      refine k_no (d := 65) (j' := 17) rfl rfl rfl (g_ft rfl rfl rfl rfl) ?_
      refine k_no (d := 66) (j' := 18) rfl rfl rfl (g_ft rfl rfl rfl rfl) ?_
      refine k_no (d := 67) (j' := 19) rfl rfl rfl (g_ft rfl rfl rfl rfl) ?_
      refine k_no (d := 68) (j' := 20) rfl rfl rfl (g_ft rfl rfl rfl rfl) ?_
      refine k_op0 (d := 69) (b := 536) (j' := 21) rfl rfl rfl rfl (.plain rfl) (T_pick_t rfl rfl rfl rfl) rfl ?_
      refine k_done rfl ?_
      refine ⟨rfl, ?_⟩
      refine thenK_n ?_
      refine W_cond rfl (fun g6 => ?_) (fun g6 => ?_)
      · skip
        refine W_seq ?_
        refine W_seqK (b' := 568) rfl rfl ?_
        refine k_op0 (d := 8) (b := 552) (j' := 1) rfl rfl rfl rfl (.plain rfl) (T_assign rfl rfl) rfl ?_
        refine k_done rfl ?_
        refine thenK_n ?_
        refine W_ret ?_
        refine thenK_r ?_
        -- end 2
        exact .mk [] (.inr rfl) (.tmp rfl (.nil)) (by simp only [resLV, LV.ren, LV.v.injEq, Value.bool.injEq]; simp only [made, chain_t hJ.2 (by omega), blk, lastOf, cmpB]; clear hJ hq4 hps hb hp; simp_all [-List.getD_eq_getElem?_getD, -Int.default_eq_zero]) (.nil) rfl
      · exact absurd (g6.symm.trans rfl) (by decide)
    · have h5 := g5; (try simp only [cmpB, decide_eq_true_eq, decide_eq_false_iff_not, beq_iff_eq, beq_eq_false_iff_ne, bne_iff_ne, ne_eq, bne_eq_false_iff_eq, Bool.not_eq_true', Bool.not_eq_false', Int.not_lt, Int.not_le] at h5)
      refine k_op0 (d := 57) (b := 344) (j' := 9) rfl rfl rfl rfl (g_ff rfl rfl rfl g5) (T_fa D (m := 1) rfl rfl rfl rfl rfl rfl) rfl ?_
      refine k_op0 (d := 58) (b := 360) (j' := 10) rfl rfl rfl rfl (g_ff rfl rfl rfl g5) (T_load_b D rfl rfl rfl rfl rfl rfl) rfl ?_
      refine k_op0 (d := 59) (b := 376) (j' := 11) rfl rfl rfl rfl (g_ff rfl rfl rfl g5) (T_fa D (m := 1) rfl rfl rfl rfl rfl rfl) rfl ?_
      refine k_op0 (d := 60) (b := 392) (j' := 12) rfl rfl rfl rfl (g_ff rfl rfl rfl g5) (T_load_b D rfl rfl rfl rfl rfl rfl) rfl ?_
      refine k_op0 (d := 61) (b := 408) (j' := 13) rfl rfl rfl rfl (g_ff rfl rfl rfl g5) (T_cmp rfl rfl rfl rfl) rfl ?_
      refine k_op0 (d := 62) (b := 424) (j' := 14) rfl rfl rfl rfl (.plain rfl) (T_pick_f rfl rfl rfl g5) rfl ?_
      refine k_op0 (d := 63) (b := 440) (j' := 15) rfl rfl rfl rfl (.plain rfl) (T_move rfl rfl) rfl ?_
      refine k_split (d := 63) rfl (fun g7 => ?_) (fun g7 => ?_)
      · have h7 := g7; (try simp only [cmpB, decide_eq_true_eq, decide_eq_false_iff_not, beq_iff_eq, beq_eq_false_iff_ne, bne_iff_ne, ne_eq, bne_eq_false_iff_eq, Bool.not_eq_true', Bool.not_eq_false', Int.not_lt, Int.not_le] at h7)
        refine k_no (d := 64) (j' := 16) rfl rfl rfl (g_ft rfl rfl rfl g7) ?_
        refine k_no (d := 65) (j' := 17) rfl rfl rfl (g_ft rfl rfl rfl g7) ?_
        refine k_no (d := 66) (j' := 18) rfl rfl rfl (g_ft rfl rfl rfl g7) ?_
        refine k_no (d := 67) (j' := 19) rfl rfl rfl (g_ft rfl rfl rfl g7) ?_
        refine k_no (d := 68) (j' := 20) rfl rfl rfl (g_ft rfl rfl rfl g7) ?_
        refine k_op0 (d := 69) (b := 536) (j' := 21) rfl rfl rfl rfl (.plain rfl) (T_pick_t rfl rfl rfl g7) rfl ?_
        refine k_done rfl ?_
        refine ⟨rfl, ?_⟩
        refine thenK_n ?_
        refine W_cond rfl (fun g8 => ?_) (fun g8 => ?_)
        · skip
          refine W_seq ?_
          refine W_seqK (b' := 568) rfl rfl ?_
          refine k_op0 (d := 8) (b := 552) (j' := 1) rfl rfl rfl rfl (.plain rfl) (T_assign rfl rfl) rfl ?_
          refine k_done rfl ?_
          refine thenK_n ?_
          refine W_ret ?_
          refine thenK_r ?_
          -- end 3
          exact .mk [] (.inr rfl) (.tmp rfl (.nil)) (by simp only [resLV, LV.ren, LV.v.injEq, Value.bool.injEq]; simp only [made, chain_t hJ.2 (by omega), blk, lastOf, cmpB]; clear hJ hq4 hps hb hp; simp_all [-List.getD_eq_getElem?_getD, -Int.default_eq_zero]) (.nil) rfl
        · exact absurd (g8.symm.trans rfl) (by decide)
      · have h7 := g7; (try simp only [cmpB, decide_eq_true_eq, decide_eq_false_iff_not, beq_iff_eq, beq_eq_false_iff_ne, bne_iff_ne, ne_eq, bne_eq_false_iff_eq, Bool.not_eq_true', Bool.not_eq_false', Int.not_lt, Int.not_le] at h7)
        refine k_op0 (d := 64) (b := 456) (j' := 16) rfl rfl rfl rfl (g_ff rfl rfl rfl g7) (T_fa D (m := 2) rfl rfl rfl rfl rfl rfl) rfl ?_
        refine k_op0 (d := 65) (b := 472) (j' := 17) rfl rfl rfl rfl (g_ff rfl rfl rfl g7) (T_load_b D rfl rfl rfl rfl rfl rfl) rfl ?_
        refine k_op0 (d := 66) (b := 488) (j' := 18) rfl rfl rfl rfl (g_ff rfl rfl rfl g7) (T_fa D (m := 2) rfl rfl rfl rfl rfl rfl) rfl ?_
        refine k_op0 (d := 67) (b := 504) (j' := 19) rfl rfl rfl rfl (g_ff rfl rfl rfl g7) (T_load_b D rfl rfl rfl rfl rfl rfl) rfl ?_
        refine k_op0 (d := 68) (b := 520) (j' := 20) rfl rfl rfl rfl (g_ff rfl rfl rfl g7) (T_cmp rfl rfl rfl rfl) rfl ?_
        refine k_op0 (d := 69) (b := 536) (j' := 21) rfl rfl rfl rfl (.plain rfl) (T_pick_f rfl rfl rfl g7) rfl ?_
        refine k_done rfl ?_
        refine ⟨rfl, ?_⟩
        refine thenK_n ?_
        refine W_cond rfl (fun g9 => ?_) (fun g9 => ?_)
        · have h9 := g9; (try simp only [cmpB, decide_eq_true_eq, decide_eq_false_iff_not, beq_iff_eq, beq_eq_false_iff_ne, bne_iff_ne, ne_eq, bne_eq_false_iff_eq, Bool.not_eq_true', Bool.not_eq_false', Int.not_lt, Int.not_le] at h9)
          refine W_seq ?_
          refine W_seqK (b' := 568) rfl rfl ?_
          refine k_op0 (d := 8) (b := 552) (j' := 1) rfl rfl rfl rfl (.plain rfl) (T_assign rfl rfl) rfl ?_
          refine k_done rfl ?_
          refine thenK_n ?_
          refine W_ret ?_
          refine thenK_r ?_
          -- end 4
          exact .mk [] (.inr rfl) (.tmp rfl (.nil)) (by simp only [resLV, LV.ren, LV.v.injEq, Value.bool.injEq]; simp only [made, chain_t hJ.2 (by omega), blk, lastOf, cmpB]; clear hJ hq4 hps hb hp; simp_all [-List.getD_eq_getElem?_getD, -Int.default_eq_zero]) (.nil) rfl
        · have h9 := g9; (try simp only [cmpB, decide_eq_true_eq, decide_eq_false_iff_not, beq_iff_eq, beq_eq_false_iff_ne, bne_iff_ne, ne_eq, bne_eq_false_iff_eq, Bool.not_eq_true', Bool.not_eq_false', Int.not_lt, Int.not_le] at h9)
          refine W_skip ?_
          refine thenK_n ?_
          refine W_seq ?_
          refine W_seq ?_
          refine W_seqK (b' := 584) rfl rfl ?_
          refine k_op0 (d := 70) (b := 552) (j' := 1) rfl rfl rfl rfl (.plain rfl) (T_fa D (m := 1) rfl rfl rfl rfl rfl rfl) rfl ?_
          refine k_op0 (d := 71) (b := 568) (j' := 2) rfl rfl rfl rfl (.plain rfl) (T_load_b D rfl rfl rfl rfl rfl rfl) rfl ?_
          refine k_done rfl ?_
          refine thenK_n ?_
          refine W_block ?_
          refine W_seq ?_
          refine W_seqK (b' := 616) rfl rfl ?_
          refine k_op0 (d := 73) (b := 584) (j' := 1) rfl rfl rfl rfl (.plain rfl) (T_cmp rfl rfl rfl rfl) rfl ?_
          refine k_op0 (d := 72) (b := 600) (j' := 2) rfl rfl rfl rfl (.plain rfl) (T_assign rfl rfl) rfl ?_
          refine k_done rfl ?_
          refine thenK_n ?_
          refine W_cond rfl (fun g10 => ?_) (fun g10 => ?_)
          · have h10 := g10; (try simp only [cmpB, decide_eq_true_eq, decide_eq_false_iff_not, beq_iff_eq, beq_eq_false_iff_ne, bne_iff_ne, ne_eq, bne_eq_false_iff_eq, Bool.not_eq_true', Bool.not_eq_false', Int.not_lt, Int.not_le] at h10)
            refine W_seq ?_
            refine W_seqK (b' := 840) rfl rfl ?_
            refine k_op0 (d := 74) (b := 616) (j' := 1) rfl rfl rfl rfl (.plain rfl) (T_move rfl rfl) rfl ?_
            refine k_op0 (d := 75) (b := 632) (j' := 2) rfl rfl rfl rfl (.plain rfl) (T_fa D (m := 3) rfl rfl rfl rfl rfl rfl) rfl ?_
            refine k_op0 (d := 76) (b := 648) (j' := 3) rfl rfl rfl rfl (.plain rfl) (T_load_b D rfl rfl rfl rfl rfl rfl) rfl ?_
            refine k_op0 (d := 77) (b := 664) (j' := 4) rfl rfl rfl rfl (.plain rfl) (T_fa D (m := 3) rfl rfl rfl rfl rfl rfl) rfl ?_
            refine k_op0 (d := 78) (b := 680) (j' := 5) rfl rfl rfl rfl (.plain rfl) (T_load_b D rfl rfl rfl rfl rfl rfl) rfl ?_
            refine k_op0 (d := 79) (b := 696) (j' := 6) rfl rfl rfl rfl (.plain rfl) (T_callV (lvs := [_, _, _]) (L := [(1, 4)]) (leads_spec _ _ _ (fun k1 k2 => hps _ (getD_mem (by omega)))) body118 rfl rfl rfl rfl (.fz rfl (.nil)) rfl) rfl ?_
            refine k_op0 (d := 80) (b := 712) (j' := 7) rfl rfl rfl rfl (.plain rfl) (T_move rfl rfl) rfl ?_
            refine k_split (d := 80) rfl (fun g11 => ?_) (fun g11 => ?_)
            · have h11 := g11; (try simp only [cmpB, decide_eq_true_eq, decide_eq_false_iff_not, beq_iff_eq, beq_eq_false_iff_ne, bne_iff_ne, ne_eq, bne_eq_false_iff_eq, Bool.not_eq_true', Bool.not_eq_false', Int.not_lt, Int.not_le] at h11)
              refine k_op0 (d := 81) (b := 728) (j' := 8) rfl rfl rfl rfl (g_tt rfl rfl rfl g11) (T_fa D (m := 4) rfl rfl rfl rfl rfl rfl) rfl ?_
              refine k_op0 (d := 82) (b := 744) (j' := 9) rfl rfl rfl rfl (g_tt rfl rfl rfl g11) (T_load_b D rfl rfl rfl rfl rfl rfl) rfl ?_
              refine k_op0 (d := 83) (b := 760) (j' := 10) rfl rfl rfl rfl (g_tt rfl rfl rfl g11) (T_fa D (m := 4) rfl rfl rfl rfl rfl rfl) rfl ?_
              refine k_op0 (d := 84) (b := 776) (j' := 11) rfl rfl rfl rfl (g_tt rfl rfl rfl g11) (T_load_b D rfl rfl rfl rfl rfl rfl) rfl ?_
              refine k_op0 (d := 85) (b := 792) (j' := 12) rfl rfl rfl rfl (g_tt rfl rfl rfl g11) (T_cmp rfl rfl rfl rfl) rfl ?_
              refine k_op0 (d := 86) (b := 808) (j' := 13) rfl rfl rfl rfl (.plain rfl) (T_pick_t rfl rfl rfl g11) rfl ?_
              refine k_op0 (d := 8) (b := 824) (j' := 14) rfl rfl rfl rfl (.plain rfl) (T_assign rfl rfl) rfl ?_
              refine k_done rfl ?_
              refine thenK_n ?_
              refine W_ret ?_
              refine blockK_r ?_
              refine thenK_r ?_
              -- end 5
              exact .mk [] (.inr rfl) (.tmp rfl (.nil)) (by simp only [resLV, LV.ren, LV.v.injEq, Value.bool.injEq]; simp only [made, chain_t hJ.2 (by omega), blk, lastOf, cmpB]; clear hJ hq4 hps hb hp; simp_all [-List.getD_eq_getElem?_getD, -Int.default_eq_zero]) (.nil) rfl
            · have h11 := g11; (try simp only [cmpB, decide_eq_true_eq, decide_eq_false_iff_not, beq_iff_eq, beq_eq_false_iff_ne, bne_iff_ne, ne_eq, bne_eq_false_iff_eq, Bool.not_eq_true', Bool.not_eq_false', Int.not_lt, Int.not_le] at h11)
              refine k_no (d := 81) (j' := 8) rfl rfl rfl (g_tf rfl rfl rfl g11) ?_
              refine k_no (d := 82) (j' := 9) rfl rfl rfl (g_tf rfl rfl rfl g11) ?_
              refine k_no (d := 83) (j' := 10) rfl rfl rfl (g_tf rfl rfl rfl g11) ?_
              refine k_no (d := 84) (j' := 11) rfl rfl rfl (g_tf rfl rfl rfl g11) ?_
              refine k_no (d := 85) (j' := 12) rfl rfl rfl (g_tf rfl rfl rfl g11) ?_
              refine k_op0 (d := 86) (b := 808) (j' := 13) rfl rfl rfl rfl (.plain rfl) (T_pick_f rfl rfl rfl g11) rfl ?_
              refine k_op0 (d := 8) (b := 824) (j' := 14) rfl rfl rfl rfl (.plain rfl) (T_assign rfl rfl) rfl ?_
              refine k_done rfl ?_
              refine thenK_n ?_
              refine W_ret ?_
              refine blockK_r ?_
              refine thenK_r ?_
              -- end 6
              exact .mk [] (.inr rfl) (.tmp rfl (.nil)) (by simp only [resLV, LV.ren, LV.v.injEq, Value.bool.injEq]; simp only [made, chain_t hJ.2 (by omega), blk, lastOf, cmpB]; clear hJ hq4 hps hb hp; simp_all [-List.getD_eq_getElem?_getD, -Int.default_eq_zero]) (.nil) rfl
          · have h10 := g10; (try simp only [cmpB, decide_eq_true_eq, decide_eq_false_iff_not, beq_iff_eq, beq_eq_false_iff_ne, bne_iff_ne, ne_eq, bne_eq_false_iff_eq, Bool.not_eq_true', Bool.not_eq_false', Int.not_lt, Int.not_le] at h10)
            refine W_seq ?_
            refine W_seqK (b' := 648) rfl rfl ?_
            refine k_op0 (d := 88) (b := 616) (j' := 1) rfl rfl rfl rfl (.plain rfl) (T_cmp rfl rfl rfl rfl) rfl ?_
            refine k_op0 (d := 87) (b := 632) (j' := 2) rfl rfl rfl rfl (.plain rfl) (T_assign rfl rfl) rfl ?_
            refine k_done rfl ?_
            refine thenK_n ?_
            refine W_cond rfl (fun g12 => ?_) (fun g12 => ?_)
            · have h12 := g12; (try simp only [cmpB, decide_eq_true_eq, decide_eq_false_iff_not, beq_iff_eq, beq_eq_false_iff_ne, bne_iff_ne, ne_eq, bne_eq_false_iff_eq, Bool.not_eq_true', Bool.not_eq_false', Int.not_lt, Int.not_le] at h12)
              refine W_seq ?_
              refine W_seqK (b' := 888) rfl rfl ?_
              refine k_op0 (d := 89) (b := 648) (j' := 1) rfl rfl rfl rfl (.plain rfl) (T_move rfl rfl) rfl ?_
              refine k_op0 (d := 90) (b := 664) (j' := 2) rfl rfl rfl rfl (.plain rfl) (T_fa D (m := 3) rfl rfl rfl rfl rfl rfl) rfl ?_
              refine k_op0 (d := 91) (b := 680) (j' := 3) rfl rfl rfl rfl (.plain rfl) (T_load_b D rfl rfl rfl rfl rfl rfl) rfl ?_
              refine k_op0 (d := 92) (b := 696) (j' := 4) rfl rfl rfl rfl (.plain rfl) (T_fa D (m := 3) rfl rfl rfl rfl rfl rfl) rfl ?_
              refine k_op0 (d := 93) (b := 712) (j' := 5) rfl rfl rfl rfl (.plain rfl) (T_load_b D rfl rfl rfl rfl rfl rfl) rfl ?_
              refine k_op0 (d := 94) (b := 728) (j' := 6) rfl rfl rfl rfl (.plain rfl) (T_callV (lvs := [_, _, _]) (L := [(1, 4)]) (leads_spec _ _ _ (fun k1 k2 => hps _ (getD_mem (by omega)))) body118 rfl rfl rfl rfl (.fz rfl (.nil)) rfl) rfl ?_
              refine k_op0 (d := 95) (b := 744) (j' := 7) rfl rfl rfl rfl (.plain rfl) (T_move rfl rfl) rfl ?_
              refine k_split (d := 95) rfl (fun g13 => ?_) (fun g13 => ?_)
              · have h13 := g13; (try simp only [cmpB, decide_eq_true_eq, decide_eq_false_iff_not, beq_iff_eq, beq_eq_false_iff_ne, bne_iff_ne, ne_eq, bne_eq_false_iff_eq, Bool.not_eq_true', Bool.not_eq_false', Int.not_lt, Int.not_le] at h13)
                refine k_op0 (d := 96) (b := 760) (j' := 8) rfl rfl rfl rfl (g_tt rfl rfl rfl g13) (T_move rfl rfl) rfl ?_
                refine k_op0 (d := 97) (b := 776) (j' := 9) rfl rfl rfl rfl (g_tt rfl rfl rfl g13) (T_fa D (m := 4) rfl rfl rfl rfl rfl rfl) rfl ?_
                refine k_op0 (d := 98) (b := 792) (j' := 10) rfl rfl rfl rfl (g_tt rfl rfl rfl g13) (T_load_b D rfl rfl rfl rfl rfl rfl) rfl ?_
                refine k_op0 (d := 99) (b := 808) (j' := 11) rfl rfl rfl rfl (g_tt rfl rfl rfl g13) (T_fa D (m := 4) rfl rfl rfl rfl rfl rfl) rfl ?_
                refine k_op0 (d := 100) (b := 824) (j' := 12) rfl rfl rfl rfl (g_tt rfl rfl rfl g13) (T_load_b D rfl rfl rfl rfl rfl rfl) rfl ?_
                refine k_op0 (d := 101) (b := 840) (j' := 13) rfl rfl rfl rfl (g_tt rfl rfl rfl g13) (T_callV (lvs := [_, _, _]) (L := [(1, 4)]) (leads_spec _ _ _ (fun k1 k2 => hps _ (getD_mem (by omega)))) body118 rfl rfl rfl rfl (.fz rfl (.nil)) rfl) rfl ?_
                refine k_op0 (d := 102) (b := 856) (j' := 14) rfl rfl rfl rfl (.plain rfl) (T_pick_t rfl rfl rfl g13) rfl ?_
                refine k_op0 (d := 8) (b := 872) (j' := 15) rfl rfl rfl rfl (.plain rfl) (T_assign rfl rfl) rfl ?_
                refine k_done rfl ?_
                refine thenK_n ?_
                refine W_ret ?_
                refine blockK_r ?_
                refine thenK_r ?_
                -- end 7
                exact .mk [] (.inr rfl) (.tmp rfl (.nil)) (by simp only [resLV, LV.ren, LV.v.injEq, Value.bool.injEq]; simp only [made, chain_t hJ.2 (by omega), blk, lastOf, cmpB]; clear hJ hq4 hps hb hp; simp_all [-List.getD_eq_getElem?_getD, -Int.default_eq_zero]) (.nil) rfl
              · have h13 := g13; (try simp only [cmpB, decide_eq_true_eq, decide_eq_false_iff_not, beq_iff_eq, beq_eq_false_iff_ne, bne_iff_ne, ne_eq, bne_eq_false_iff_eq, Bool.not_eq_true', Bool.not_eq_false', Int.not_lt, Int.not_le] at h13)
                refine k_no (d := 96) (j' := 8) rfl rfl rfl (g_tf rfl rfl rfl g13) ?_
                refine k_no (d := 97) (j' := 9) rfl rfl rfl (g_tf rfl rfl rfl g13) ?_
                refine k_no (d := 98) (j' := 10) rfl rfl rfl (g_tf rfl rfl rfl g13) ?_
                refine k_no (d := 99) (j' := 11) rfl rfl rfl (g_tf rfl rfl rfl g13) ?_
                refine k_no (d := 100) (j' := 12) rfl rfl rfl (g_tf rfl rfl rfl g13) ?_
                refine k_no (d := 101) (j' := 13) rfl rfl rfl (g_tf rfl rfl rfl g13) ?_
                refine k_op0 (d := 102) (b := 856) (j' := 14) rfl rfl rfl rfl (.plain rfl) (T_pick_f rfl rfl rfl g13) rfl ?_
                refine k_op0 (d := 8) (b := 872) (j' := 15) rfl rfl rfl rfl (.plain rfl) (T_assign rfl rfl) rfl ?_
                refine k_done rfl ?_
                refine thenK_n ?_
                refine W_ret ?_
                refine blockK_r ?_
                refine thenK_r ?_
                -- end 8
                exact .mk [] (.inr rfl) (.tmp rfl (.nil)) (by simp only [resLV, LV.ren, LV.v.injEq, Value.bool.injEq]; simp only [made, chain_t hJ.2 (by omega), blk, lastOf, cmpB]; clear hJ hq4 hps hb hp; simp_all [-List.getD_eq_getElem?_getD, -Int.default_eq_zero]) (.nil) rfl
            · have h12 := g12; (try simp only [cmpB, decide_eq_true_eq, decide_eq_false_iff_not, beq_iff_eq, beq_eq_false_iff_ne, bne_iff_ne, ne_eq, bne_eq_false_iff_eq, Bool.not_eq_true', Bool.not_eq_false', Int.not_lt, Int.not_le] at h12)
              refine W_skip ?_
              refine blockK_n ?_
              refine thenK_n ?_
              refine W_seq ?_
              refine W_seqK (b' := 856) rfl rfl ?_
              refine k_op0 (d := 103) (b := 648) (j' := 1) rfl rfl rfl rfl (.plain rfl) (T_fa D (m := 3) rfl rfl rfl rfl rfl rfl) rfl ?_
              refine k_op0 (d := 104) (b := 664) (j' := 2) rfl rfl rfl rfl (.plain rfl) (T_load_b D rfl rfl rfl rfl rfl rfl) rfl ?_
              refine k_op0 (d := 105) (b := 680) (j' := 3) rfl rfl rfl rfl (.plain rfl) (T_fa D (m := 3) rfl rfl rfl rfl rfl rfl) rfl ?_
              refine k_op0 (d := 106) (b := 696) (j' := 4) rfl rfl rfl rfl (.plain rfl) (T_load_b D rfl rfl rfl rfl rfl rfl) rfl ?_
              refine k_op0 (d := 107) (b := 712) (j' := 5) rfl rfl rfl rfl (.plain rfl) (T_cmp rfl rfl rfl rfl) rfl ?_
              refine k_op0 (d := 108) (b := 728) (j' := 6) rfl rfl rfl rfl (.plain rfl) (T_move rfl rfl) rfl ?_
              refine k_split (d := 108) rfl (fun g14 => ?_) (fun g14 => ?_)
              · have h14 := g14; (try simp only [cmpB, decide_eq_true_eq, decide_eq_false_iff_not, beq_iff_eq, beq_eq_false_iff_ne, bne_iff_ne, ne_eq, bne_eq_false_iff_eq, Bool.not_eq_true', Bool.not_eq_false', Int.not_lt, Int.not_le] at h14)
                refine k_op0 (d := 109) (b := 744) (j' := 7) rfl rfl rfl rfl (g_tt rfl rfl rfl g14) (T_fa D (m := 4) rfl rfl rfl rfl rfl rfl) rfl ?_
                refine k_op0 (d := 110) (b := 760) (j' := 8) rfl rfl rfl rfl (g_tt rfl rfl rfl g14) (T_load_b D rfl rfl rfl rfl rfl rfl) rfl ?_
                refine k_op0 (d := 111) (b := 776) (j' := 9) rfl rfl rfl rfl (g_tt rfl rfl rfl g14) (T_fa D (m := 4) rfl rfl rfl rfl rfl rfl) rfl ?_
                refine k_op0 (d := 112) (b := 792) (j' := 10) rfl rfl rfl rfl (g_tt rfl rfl rfl g14) (T_load_b D rfl rfl rfl rfl rfl rfl) rfl ?_
                refine k_op0 (d := 113) (b := 808) (j' := 11) rfl rfl rfl rfl (g_tt rfl rfl rfl g14) (T_cmp rfl rfl rfl rfl) rfl ?_
                refine k_op0 (d := 114) (b := 824) (j' := 12) rfl rfl rfl rfl (.plain rfl) (T_pick_t rfl rfl rfl g14) rfl ?_
                refine k_op0 (d := 8) (b := 840) (j' := 13) rfl rfl rfl rfl (.plain rfl) (T_assign rfl rfl) rfl ?_
                refine k_done rfl ?_
                refine thenK_n ?_
                refine W_ret ?_
                -- end 9
                exact .mk [] (.inr rfl) (.tmp rfl (.nil)) (by simp only [resLV, LV.ren, LV.v.injEq, Value.bool.injEq]; simp only [made, chain_t hJ.2 (by omega), blk, lastOf, cmpB]; clear hJ hq4 hps hb hp; simp_all [-List.getD_eq_getElem?_getD, -Int.default_eq_zero]) (.nil) rfl
              · have h14 := g14; (try simp only [cmpB, decide_eq_true_eq, decide_eq_false_iff_not, beq_iff_eq, beq_eq_false_iff_ne, bne_iff_ne, ne_eq, bne_eq_false_iff_eq, Bool.not_eq_true', Bool.not_eq_false', Int.not_lt, Int.not_le] at h14)
                refine k_no (d := 109) (j' := 7) rfl rfl rfl (g_tf rfl rfl rfl g14) ?_
                refine k_no (d := 110) (j' := 8) rfl rfl rfl (g_tf rfl rfl rfl g14) ?_
                refine k_no (d := 111) (j' := 9) rfl rfl rfl (g_tf rfl rfl rfl g14) ?_
                refine k_no (d := 112) (j' := 10) rfl rfl rfl (g_tf rfl rfl rfl g14) ?_
                refine k_no (d := 113) (j' := 11) rfl rfl rfl (g_tf rfl rfl rfl g14) ?_
                refine k_op0 (d := 114) (b := 824) (j' := 12) rfl rfl rfl rfl (.plain rfl) (T_pick_f rfl rfl rfl g14) rfl ?_
                refine k_op0 (d := 8) (b := 840) (j' := 13) rfl rfl rfl rfl (.plain rfl) (T_assign rfl rfl) rfl ?_
                refine k_done rfl ?_
                refine thenK_n ?_
                refine W_ret ?_
                -- end 10
                exact .mk [] (.inr rfl) (.tmp rfl (.nil)) (by simp only [resLV, LV.ren, LV.v.injEq, Value.bool.injEq]; simp only [made, chain_t hJ.2 (by omega), blk, lastOf, cmpB]; clear hJ hq4 hps hb hp; simp_all [-List.getD_eq_getElem?_getD, -Int.default_eq_zero]) (.nil) rfl
end Lg
end Go.Proofs.Ytpfhmodjjljpjaa
