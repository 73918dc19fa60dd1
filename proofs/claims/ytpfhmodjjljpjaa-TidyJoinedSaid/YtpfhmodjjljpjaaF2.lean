import Derived.Test.YtpfhmodjjljpjaaF1
namespace Go.Proofs.Ytpfhmodjjljpjaa
open Go.RowKit
namespace Lg
set_option maxRecDepth 100000
set_option linter.unusedVariables false
set_option linter.unusedSimpArgs false



theorem body116 : (Try.prog.funcs[116]?).map (fun fn => (fn.name == "runtime.NumGoroutine" || fn.body.isNone)) = some false := by kernel_rfl
theorem idx_spec (p : List Int) (f : GFn) (hp : p.length ≤ 1000000000) : Spec Try.prog 116 [.r 1, .fn 74 [.p 2 0]] 4 [(1, .fz 1 (p.map eI)), (2, .box 29 [.v (.int .i64 f.regs), .r 3]), (3, .fz 5 (f.blocks.map eBlock))] (.v (.int .i64 (fstIdx (outside f) p))) 4 [(2, .box 29 [.v (.int .i64 f.regs), .r 3])] := by
  refine spec_of D (fn := Try.f116) rfl rfl (Nat.le_of_ble_eq_true rfl) ?_
  refine W_seq ?_
  refine W_seqK (b' := 20) rfl rfl ?_
  refine k_op0 (d := 4) (b := 4) (j' := 1) rfl rfl rfl rfl (.plain rfl) (T_assign rfl rfl) rfl ?_
  refine k_done rfl ?_
  refine thenK_n ?_
  refine W_seq ?_
  refine W_seq ?_
  refine W_seqK (b' := 68) rfl rfl ?_
  refine k_op0 (d := 6) (b := 20) (j' := 1) rfl rfl rfl rfl (.plain rfl) (T_move rfl rfl) rfl ?_
  refine k_op0 (d := 7) (b := 36) (j' := 2) rfl rfl rfl rfl (.plain rfl) (T_len D rfl rfl rfl rfl rfl rfl) rfl ?_
  refine k_op0 (d := 8) (b := 52) (j' := 3) rfl rfl rfl rfl (.plain rfl) (T_move rfl rfl) rfl ?_
  refine k_done rfl ?_
  refine thenK_n ?_
  refine W_block ?_
  refine W_loop (ι := Nat) 4 (fun j => ⟨[(0, .r 1), (1, .fn 74 [.p 2 0]), (7, .v (.int .i64 (p.length : Int))), (8, .v (.int .i64 (j : Int)))], [(1, .fz 1 (p.map eI)), (2, .box 29 [.v (.int .i64 f.regs), .r 3]), (3, .fz 5 (f.blocks.map eBlock))]⟩) (fun j => j ≤ p.length ∧ ∀ i, i < j → outside f (p.getD i default) = false) (fun j => p.length - j) (0) (by exact ⟨Nat.zero_le _, fun i h => absurd h (Nat.not_lt_zero _)⟩) ?_ (fun j hJ => ?_)
  · exact ⟨[], .same rfl rfl (.same rfl rfl (.eq rfl (.eq rfl (.nil) (by first | rfl | simp)) (by first | rfl | simp))), .fzE rfl (.box (by first | rfl | simp) (.fzE rfl (.nil) (by first | rfl | simp))) (by first | rfl | simp), rfl⟩
  refine W_seq ?_
  refine W_seqK (b' := 20) rfl rfl ?_
  refine k_op0 (d := 9) (b := 4) (j' := 1) rfl rfl rfl rfl (.plain rfl) (T_cmp rfl rfl rfl rfl) rfl ?_
  refine k_done rfl ?_
  refine thenK_n ?_
  refine W_seq ?_
  refine W_cond rfl (fun g1 => ?_) (fun g1 => ?_)
  · have h1 := g1; (try simp only [cmpB, decide_eq_true_eq, decide_eq_false_iff_not, beq_iff_eq, beq_eq_false_iff_ne, bne_iff_ne, ne_eq, bne_eq_false_iff_eq, Bool.not_eq_true', Bool.not_eq_false', Int.not_lt, Int.not_le] at h1)
    refine W_skip ?_
    refine thenK_n ?_
    refine W_seq ?_
    refine W_block ?_
    refine W_seq ?_
    refine W_seqK (b' := 52) rfl rfl ?_
    refine k_op0 (d := 10) (b := 20) (j' := 1) rfl rfl rfl rfl (.plain rfl) (T_move rfl rfl) rfl ?_
    refine k_op0 (d := 5) (b := 36) (j' := 2) rfl rfl rfl rfl (.plain rfl) (T_assign rfl rfl) rfl ?_
    refine k_done rfl ?_
    refine thenK_n ?_
    refine W_seq ?_
    refine W_seqK (b' := 148) rfl rfl ?_
    refine k_op0 (d := 11) (b := 52) (j' := 1) rfl rfl rfl rfl (.plain rfl) (T_move rfl rfl) rfl ?_
    refine k_op0 (d := 12) (b := 68) (j' := 2) rfl rfl rfl rfl (.plain rfl) (T_move rfl rfl) rfl ?_
    refine k_op0 (d := 13) (b := 84) (j' := 3) rfl rfl rfl rfl (.plain rfl) (T_move rfl rfl) rfl ?_
    first | refine k_op0 (d := 14) (b := 100) (j' := 4) rfl rfl rfl rfl (.plain rfl) (T_indexAddr D rfl rfl rfl rfl rfl rfl rfl rfl (by first | assumption | omega | (simp; omega))) rfl ?_ | refine k_op0 (d := 14) (b := 100) (j' := 4) rfl rfl rfl rfl (.plain rfl) (T_indexAddrZ D rfl rfl rfl rfl rfl rfl rfl rfl (by first | assumption | omega | (simp; omega)) (by first | assumption | omega | (simp; omega))) rfl ?_
    refine k_op0 (d := 15) (b := 116) (j' := 5) rfl rfl rfl rfl (.plain rfl) (T_ldE D (lv := .v _) (nn := 0) (upd := []) rfl rfl rfl rfl rfl (by first | assumption | omega | (simp; omega)) rfl rfl rfl rfl) rfl ?_
    refine k_op1 (d := 16) (b := 132) (j' := 6) rfl rfl rfl rfl (.plain rfl) (T_call (lvs := [_]) (L := [(1, 2), (2, 3)]) (lv := .v _) (upd := [(2, .box 29 [.v _, .r 3])]) (nn := 0) false (check1_spec _ _) body74 rfl rfl rfl rfl (.box rfl (.fz rfl (.nil))) rfl (.inl rfl) rfl rfl rfl) rfl ?_
    refine k_done rfl ?_
    refine thenK_n ?_
    refine W_cond rfl (fun g2 => ?_) (fun g2 => ?_)
    · have h2 := g2; (try simp only [cmpB, decide_eq_true_eq, decide_eq_false_iff_not, beq_iff_eq, beq_eq_false_iff_ne, bne_iff_ne, ne_eq, bne_eq_false_iff_eq, Bool.not_eq_true', Bool.not_eq_false', Int.not_lt, Int.not_le] at h2)
      refine W_seq ?_
      refine W_seqK (b' := 180) rfl rfl ?_
      refine k_op0 (d := 17) (b := 148) (j' := 1) rfl rfl rfl rfl (.plain rfl) (T_move rfl rfl) rfl ?_
      refine k_op0 (d := 4) (b := 164) (j' := 2) rfl rfl rfl rfl (.plain rfl) (T_assign rfl rfl) rfl ?_
      refine k_done rfl ?_
      refine thenK_n ?_
      refine W_ret ?_
      refine blockK_r ?_
      refine thenK_r ?_
      refine thenK_r ?_
      refine blockK_r ?_
      refine thenK_r ?_
      -- end 0
      exact .mk [] (.inr rfl) (.tmp rfl (.nil)) (by first | rfl | (simp only [resLV, LV.ren, LV.v.injEq, Value.int.injEq, true_and]; exact (fstIdx_hit _ _ (by omega) g2 (fun i hi => hJ.2 i hi)).symm)) (.box (by first | rfl | (simp only [resLV, LV.ren, LV.v.injEq, Value.int.injEq, true_and]; exact (fstIdx_hit _ _ (by omega) g2 (fun i hi => hJ.2 i hi)).symm)) (.nil)) rfl
    · have h2 := g2; (try simp only [cmpB, decide_eq_true_eq, decide_eq_false_iff_not, beq_iff_eq, beq_eq_false_iff_ne, bne_iff_ne, ne_eq, bne_eq_false_iff_eq, Bool.not_eq_true', Bool.not_eq_false', Int.not_lt, Int.not_le] at h2)
      refine W_skip ?_
      refine blockK_n ?_
      refine thenK_n ?_
      refine W_seqK (b' := 180) rfl rfl ?_
      refine k_op0 (d := 18) (b := 148) (j' := 1) rfl rfl rfl rfl (.plain rfl) (T_add64 rfl rfl rfl (by first | assumption | omega | (simp; omega))) rfl ?_
      refine k_op0 (d := 8) (b := 164) (j' := 2) rfl rfl rfl rfl (.plain rfl) (T_move rfl rfl) rfl ?_
      refine k_done rfl ?_
      refine thenK_n ?_
      refine ⟨j + 1, by (try dsimp only); exact ⟨by omega, fun i hi => by rcases Nat.lt_or_ge i j with h | h; exact hJ.2 i h; rw [show i = j by omega]; exact g2⟩, by (try dsimp only); omega, ?_⟩
      exact ⟨[], .same rfl rfl (.same rfl rfl (.eq rfl (.eq rfl (.nil) (by first | rfl | simp)) (by first | rfl | simp))), .fzE rfl (.box (by first | rfl | simp) (.fzE rfl (.nil) (by first | rfl | simp))) (by first | rfl | simp), rfl⟩
  · have h1 := g1; (try simp only [cmpB, decide_eq_true_eq, decide_eq_false_iff_not, beq_iff_eq, beq_eq_false_iff_ne, bne_iff_ne, ne_eq, bne_eq_false_iff_eq, Bool.not_eq_true', Bool.not_eq_false', Int.not_lt, Int.not_le] at h1)
    refine W_exit ?_
    refine thenK_e ?_
    refine thenK_e ?_
    refine blockK_hit ?_
    refine thenK_n ?_
    refine W_seq ?_
    refine W_seqK (b' := 36) rfl rfl ?_
    refine k_op0 (d := 4) (b := 20) (j' := 1) rfl rfl rfl rfl (.plain rfl) (T_assign rfl rfl) rfl ?_
    refine k_done rfl ?_
    refine thenK_n ?_
    refine W_ret ?_
    -- end 1
    exact .mk [] (.inr rfl) (.tmp rfl (.nil)) (by first | rfl | (simp only [resLV, LV.ren, LV.v.injEq, Value.int.injEq, true_and]; exact (fstIdx_none _ _ (fun i hi => hJ.2 i (by omega))).symm)) (.box (by first | rfl | (simp only [resLV, LV.ren, LV.v.injEq, Value.int.injEq, true_and]; exact (fstIdx_none _ _ (fun i hi => hJ.2 i (by omega))).symm)) (.nil)) rfl

theorem body73 : (Try.prog.funcs[73]?).map (fun fn => (fn.name == "runtime.NumGoroutine" || fn.body.isNone)) = some false := by kernel_rfl
theorem contains_spec (p : List Int) (f : GFn) (hp : p.length ≤ 1000000000) : Spec Try.prog 73 [.r 1, .fn 74 [.p 2 0]] 4 [(1, .fz 1 (p.map eI)), (2, .box 29 [.v (.int .i64 f.regs), .r 3]), (3, .fz 5 (f.blocks.map eBlock))] (.v (.bool (p.any (outside f)))) 4 [(2, .box 29 [.v (.int .i64 f.regs), .r 3])] := by
  refine spec_of D (fn := Try.f73) rfl rfl (Nat.le_of_ble_eq_true rfl) ?_
  refine W_seq ?_
  refine W_seqK (b' := 20) rfl rfl ?_
  refine k_op0 (d := 4) (b := 4) (j' := 1) rfl rfl rfl rfl (.plain rfl) (T_assign rfl rfl) rfl ?_
  refine k_done rfl ?_
  refine thenK_n ?_
  refine W_seq ?_
  refine W_seqK (b' := 100) rfl rfl ?_
  refine k_op0 (d := 5) (b := 20) (j' := 1) rfl rfl rfl rfl (.plain rfl) (T_move rfl rfl) rfl ?_
  refine k_op0 (d := 6) (b := 36) (j' := 2) rfl rfl rfl rfl (.plain rfl) (T_move rfl rfl) rfl ?_
  refine k_op1 (d := 7) (b := 52) (j' := 3) rfl rfl rfl rfl (.plain rfl) (T_call (lvs := [_, _]) (L := [(1, 1), (2, 2), (3, 3)]) (lv := .v _) (upd := [(2, .box 29 [.v _, .r 3])]) (nn := 0) false (idx_spec _ _ (by omega)) body116 rfl rfl rfl rfl (.fz rfl (.box rfl (.fz rfl (.nil)))) rfl (.inl rfl) rfl rfl rfl) rfl ?_
  refine k_op0 (d := 8) (b := 68) (j' := 4) rfl rfl rfl rfl (.plain rfl) (T_cmp rfl rfl rfl rfl) rfl ?_
  refine k_op0 (d := 4) (b := 84) (j' := 5) rfl rfl rfl rfl (.plain rfl) (T_assign rfl rfl) rfl ?_
  refine k_done rfl ?_
  refine thenK_n ?_
  refine W_ret ?_
  -- end 0
  exact .mk [] (.inr rfl) (.tmp rfl (.nil)) (by first | rfl | (simp only [resLV, LV.ren, LV.v.injEq, Value.bool.injEq, cmpB]; exact fstIdx_any _ _)) (.box (by first | rfl | (simp only [resLV, LV.ren, LV.v.injEq, Value.bool.injEq, cmpB]; exact fstIdx_any _ _)) (.nil)) rfl

theorem body70 : (Try.prog.funcs[70]?).map (fun fn => (fn.name == "runtime.NumGoroutine" || fn.body.isNone)) = some false := by kernel_rfl
theorem instrs_spec (f : GFn) (p : List Int) (hp : p.length ≤ 1000000000 ∧ ∀ i, i < p.length → 0 ≤ p.getD i default ∧ p.getD i default < (f.blocks.length : Int)) (hb : ∀ j, (instrs f (p.take j)).length ≤ 1000000000) : Spec Try.prog 70 [.agg [.v (.int .i64 f.regs), .r 1], .r 2] 3 [(1, .fz 5 (f.blocks.map eBlock)), (2, .fz 1 (p.map eI))] (.r 3) 4 [(3, .fz 8 ((instrs f p).map eTac))] := by
  refine spec_of D (fn := Try.f70) rfl rfl (Nat.le_of_ble_eq_true rfl) ?_
  refine W_seq ?_
  refine W_seqK (b' := 35) rfl rfl ?_
  refine k_op1 (d := 2) (b := 3) (j' := 1) rfl rfl rfl rfl (.plain rfl) (T_box rfl rfl flat_agg) rfl ?_
  refine k_op1 (d := 4) (b := 19) (j' := 2) rfl rfl rfl rfl (.plain rfl) (T_nils [(70, 8)] (T_assign rfl rfl) rfl (.inr ⟨rfl, rfl⟩) (.cons (.nil rfl) .nil) (lv' := .r 19) (upd' := [(19, .row 70 8 (List.map eTac ([] : List (GTac))))]) (nn' := 1) rfl rfl) rfl ?_
  refine k_done rfl ?_
  refine thenK_n ?_
  refine W_seq ?_
  refine W_seqK (b' := 51) rfl rfl ?_
  refine k_op1 (d := 5) (b := 35) (j' := 1) rfl rfl rfl rfl (.plain rfl) (T_nils [(70, 8)] (T_assign rfl rfl) rfl (.inr ⟨rfl, rfl⟩) (.cons (.nil rfl) .nil) (lv' := .r 35) (upd' := [(35, .row 70 8 (List.map eTac ([] : List (GTac))))]) (nn' := 1) rfl rfl) rfl ?_
  refine k_done rfl ?_
  refine thenK_n ?_
  refine W_seq ?_
  refine W_seq ?_
  refine W_seqK (b' := 99) rfl rfl ?_
  refine k_op0 (d := 8) (b := 51) (j' := 1) rfl rfl rfl rfl (.plain rfl) (T_move rfl rfl) rfl ?_
  refine k_op0 (d := 9) (b := 67) (j' := 2) rfl rfl rfl rfl (.plain rfl) (T_len D rfl rfl rfl rfl rfl rfl) rfl ?_
  refine k_op0 (d := 10) (b := 83) (j' := 3) rfl rfl rfl rfl (.plain rfl) (T_move rfl rfl) rfl ?_
  refine k_done rfl ?_
  refine thenK_n ?_
  refine W_block ?_
  refine W_loop (ι := Nat) 5 (fun j => ⟨[(2, .p 3 0), (5, .r 4), (8, .r 2), (9, .v (.int .i64 (p.length : Int))), (10, .v (.int .i64 (j : Int)))], [(1, .fz 5 (f.blocks.map eBlock)), (2, .fz 1 (p.map eI)), (3, .box 29 [.v (.int .i64 f.regs), .r 1]), (4, .row 70 8 ((instrs f (p.take j)).map eTac))]⟩) (fun j => j ≤ p.length) (fun j => p.length - j) (0) (by exact Nat.zero_le _) ?_ (fun j hJ => ?_)
  · exact ⟨[(3, 3), (4, 35)], .same rfl rfl (.same rfl rfl (.same rfl rfl (.eq rfl (.eq rfl (.nil) (by first | rfl | simp)) (by first | rfl | simp)))), .fzE rfl (.fzE rfl (.box (by first | rfl | simp) (.rowE rfl (.nil) (by first | rfl | simp))) (by first | rfl | simp)) (by first | rfl | simp), rfl⟩
  have hq := hb (j + 1)
  have hq2 : j < p.length → instrs f (p.take (j + 1)) = instrs f (p.take j) ++ (f.blocks.getD (p.getD j default).toNat default).ins := fun h => instrs_take f p j h
  have hq3 := fun h => congrArg List.length (hq2 h)
  simp only [List.length_append] at hq3
  have hq4 := hp.2 j
  refine W_seq ?_
  refine W_seqK (b' := 21) rfl rfl ?_
  refine k_op0 (d := 11) (b := 5) (j' := 1) rfl rfl rfl rfl (.plain rfl) (T_cmp rfl rfl rfl rfl) rfl ?_
  refine k_done rfl ?_
  refine thenK_n ?_
  refine W_seq ?_
  refine W_cond rfl (fun g1 => ?_) (fun g1 => ?_)
  · have h1 := g1; (try simp only [cmpB, decide_eq_true_eq, decide_eq_false_iff_not, beq_iff_eq, beq_eq_false_iff_ne, bne_iff_ne, ne_eq, bne_eq_false_iff_eq, Bool.not_eq_true', Bool.not_eq_false', Int.not_lt, Int.not_le] at h1)
    refine W_skip ?_
    refine thenK_n ?_
    refine W_seq ?_
    refine W_block ?_
    refine W_seq ?_
    refine W_seqK (b' := 69) rfl rfl ?_
    first | refine k_op0 (d := 12) (b := 21) (j' := 1) rfl rfl rfl rfl (.plain rfl) (T_indexAddr D rfl rfl rfl rfl rfl rfl rfl rfl (by first | assumption | omega | (have k1 := hq4 (by omega); have k2 := hq3 (by omega); omega))) rfl ?_ | refine k_op0 (d := 12) (b := 21) (j' := 1) rfl rfl rfl rfl (.plain rfl) (T_indexAddrZ D rfl rfl rfl rfl rfl rfl rfl rfl (by first | assumption | omega | (have k1 := hq4 (by omega); have k2 := hq3 (by omega); omega)) (by first | assumption | omega | (have k1 := hq4 (by omega); have k2 := hq3 (by omega); omega))) rfl ?_
    refine k_op0 (d := 13) (b := 37) (j' := 2) rfl rfl rfl rfl (.plain rfl) (T_ldE D (lv := .v _) (nn := 0) (upd := []) rfl rfl rfl rfl rfl (by first | assumption | omega | (have k1 := hq4 (by omega); have k2 := hq3 (by omega); omega)) rfl rfl rfl rfl) rfl ?_
    refine k_op0 (d := 7) (b := 53) (j' := 3) rfl rfl rfl rfl (.plain rfl) (T_assign rfl rfl) rfl ?_
    refine k_done rfl ?_
    refine thenK_n ?_
    refine W_seqK (b' := 213) rfl rfl ?_
    refine k_op0 (d := 14) (b := 69) (j' := 1) rfl rfl rfl rfl (.plain rfl) (T_move rfl rfl) rfl ?_
    refine k_op0 (d := 15) (b := 85) (j' := 2) rfl rfl rfl rfl (.plain rfl) (T_fa D (m := 1) rfl rfl rfl rfl rfl rfl) rfl ?_
    refine k_op0 (d := 16) (b := 101) (j' := 3) rfl rfl rfl rfl (.plain rfl) (T_load_b D rfl rfl rfl rfl rfl rfl) rfl ?_
    refine k_op0 (d := 17) (b := 117) (j' := 4) rfl rfl rfl rfl (.plain rfl) (T_move rfl rfl) rfl ?_
    first | refine k_op0 (d := 18) (b := 133) (j' := 5) rfl rfl rfl rfl (.plain rfl) (T_indexAddr D rfl rfl rfl rfl rfl rfl rfl rfl (by first | assumption | omega | (have k1 := hq4 (by omega); have k2 := hq3 (by omega); omega))) rfl ?_ | refine k_op0 (d := 18) (b := 133) (j' := 5) rfl rfl rfl rfl (.plain rfl) (T_indexAddrZ D rfl rfl rfl rfl rfl rfl rfl rfl (by first | assumption | omega | (have k1 := hq4 (by omega); have k2 := hq3 (by omega); omega)) (by first | assumption | omega | (have k1 := hq4 (by omega); have k2 := hq3 (by omega); omega))) rfl ?_
    refine k_op0 (d := 19) (b := 149) (j' := 6) rfl rfl rfl rfl (.plain rfl) (T_fae D (m := 0) rfl rfl rfl rfl rfl rfl) rfl ?_
    refine k_op1 (d := 20) (b := 165) (j' := 7) rfl rfl rfl rfl (.plain rfl) (T_ldE D (lv := .r 165) (nn := 1) (upd := [(165, .fz 8 _)]) rfl rfl rfl rfl rfl (by first | assumption | omega | (have k1 := hq4 (by omega); have k2 := hq3 (by omega); omega)) rfl rfl rfl rfl) rfl ?_
    refine k_opn (d := 21) (b := 181) (j' := 8) rfl rfl rfl rfl (.plain rfl) (T_append D rfl rfl rfl rfl rfl rfl rfl rfl rfl rfl rfl rfl (by (try simp only [ty70]); first | assumption | omega | (have k1 := hq4 (by omega); have k2 := hq3 (by omega); omega)) (by (try simp only [ty70]); first | assumption | omega | (have k1 := hq4 (by omega); have k2 := hq3 (by omega); omega))) rfl ?_
    refine k_op0 (d := 5) (b := 197) (j' := 9) rfl rfl rfl rfl (.plain rfl) (T_assign rfl rfl) rfl ?_
    refine k_done rfl ?_
    refine blockK_n ?_
    refine thenK_n ?_
    refine W_seqK (b' := 245) rfl rfl ?_
    refine k_op0 (d := 22) (b := 213) (j' := 1) rfl rfl rfl rfl (.plain rfl) (T_add64 rfl rfl rfl (by first | assumption | omega | (have k1 := hq4 (by omega); have k2 := hq3 (by omega); omega))) rfl ?_
    refine k_op0 (d := 10) (b := 229) (j' := 2) rfl rfl rfl rfl (.plain rfl) (T_move rfl rfl) rfl ?_
    refine k_done rfl ?_
    refine thenK_n ?_
    refine ⟨j + 1, by (try dsimp only); omega, by (try dsimp only); omega, ?_⟩
    exact ⟨[(3, 3), (4, 181)], .same rfl rfl (.same rfl rfl (.same rfl rfl (.eq rfl (.eq rfl (.nil) (by first | rfl | (rw [hq2 (by omega)]) | simp)) (by first | rfl | (rw [hq2 (by omega)]) | simp)))), .fzE rfl (.fzE rfl (.box (by first | rfl | (rw [hq2 (by omega)]) | simp) (.rowE rfl (.nil) (by first | rfl | (rw [hq2 (by omega)]) | simp))) (by first | rfl | (rw [hq2 (by omega)]) | simp)) (by first | rfl | (rw [hq2 (by omega)]) | simp), rfl⟩
  · have h1 := g1; (try simp only [cmpB, decide_eq_true_eq, decide_eq_false_iff_not, beq_iff_eq, beq_eq_false_iff_ne, bne_iff_ne, ne_eq, bne_eq_false_iff_eq, Bool.not_eq_true', Bool.not_eq_false', Int.not_lt, Int.not_le] at h1)
    refine W_exit ?_
    refine thenK_e ?_
    refine thenK_e ?_
    refine blockK_hit ?_
    refine thenK_n ?_
    refine W_seq ?_
    refine W_seqK (b' := 133) rfl rfl ?_
    refine k_op0 (d := 23) (b := 21) (j' := 1) rfl rfl rfl rfl (.plain rfl) (T_move rfl rfl) rfl ?_
    refine k_op0 (d := 24) (b := 37) (j' := 2) rfl rfl rfl rfl (.plain rfl) (T_move rfl rfl) rfl ?_
    refine k_op0 (d := 25) (b := 53) (j' := 3) rfl rfl rfl rfl (.plain rfl) (T_len D rfl rfl rfl rfl rfl rfl) rfl ?_
    refine k_op0 (d := 26) (b := 69) (j' := 4) rfl rfl rfl rfl (.plain rfl) (T_move rfl rfl) rfl ?_
    refine k_op0 (d := 27) (b := 85) (j' := 5) rfl rfl rfl rfl (.plain rfl) (T_len D rfl rfl rfl rfl rfl rfl) rfl ?_
    refine k_opn (d := 28) (b := 101) (j' := 6) rfl rfl rfl rfl (.plain rfl) (T_slR D (vl := none) (vh := some _) (vm := some _) (l := 0) (h := _) rfl rfl rfl rfl rfl rfl rfl rfl rfl rfl (by first | assumption | omega | (have k1 := hq4 (by omega); have k2 := hq3 (by omega); omega)) (by first | assumption | omega | (have k1 := hq4 (by omega); have k2 := hq3 (by omega); omega)) (slb_hm (by first | assumption | omega | (have k1 := hq4 (by omega); have k2 := hq3 (by omega); omega)) (by first | assumption | omega | (have k1 := hq4 (by omega); have k2 := hq3 (by omega); omega)))) rfl ?_
    refine k_op0 (d := 4) (b := 117) (j' := 7) rfl rfl rfl rfl (.plain rfl) (T_assign rfl rfl) rfl ?_
    refine k_done rfl ?_
    refine thenK_n ?_
    refine W_ret ?_
    -- end 0
    exact .mk [(3, 101)] (.inr rfl) (.tmp rfl (.nil)) rfl (.fzE rfl (.nil) (by first | rfl | (have e : j = p.length := (by omega); subst e; simp [sub]))) rfl
end Lg
end Go.Proofs.Ytpfhmodjjljpjaa
