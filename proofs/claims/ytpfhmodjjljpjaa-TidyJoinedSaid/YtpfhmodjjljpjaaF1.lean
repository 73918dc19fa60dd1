import Derived.Test.YtpfhmodjjljpjaaSl
namespace Go.Proofs.Ytpfhmodjjljpjaa
open Go.RowKit
namespace Lg
set_option maxRecDepth 100000
set_option linter.unusedVariables false
set_option linter.unusedSimpArgs false



theorem body39 : (Try.prog.funcs[39]?).map (fun fn => (fn.name == "runtime.NumGoroutine" || fn.body.isNone)) = some false := by kernel_rfl
theorem list_spec (a b : List Int) (ha : a.length ≤ 1000000) : Spec Try.prog 39 [.r 1, .r 2] 3 [(1, .fz 1 (a.map eI)), (2, .fz 1 (b.map eI))] (.v (.bool (decide (a = b)))) 3 [] := by
  refine spec_of D (fn := Try.f39) rfl rfl (Nat.le_of_ble_eq_true rfl) ?_
  refine W_seq ?_
  refine W_seqK (b' := 19) rfl rfl ?_
  refine k_op0 (d := 4) (b := 3) (j' := 1) rfl rfl rfl rfl (.plain rfl) (T_assign rfl rfl) rfl ?_
  refine k_done rfl ?_
  refine thenK_n ?_
  refine W_seq ?_
  refine W_seq ?_
  refine W_seqK (b' := 99) rfl rfl ?_
  refine k_op0 (d := 6) (b := 19) (j' := 1) rfl rfl rfl rfl (.plain rfl) (T_move rfl rfl) rfl ?_
  refine k_op0 (d := 7) (b := 35) (j' := 2) rfl rfl rfl rfl (.plain rfl) (T_len D rfl rfl rfl rfl rfl rfl) rfl ?_
  refine k_op0 (d := 8) (b := 51) (j' := 3) rfl rfl rfl rfl (.plain rfl) (T_move rfl rfl) rfl ?_
  refine k_op0 (d := 9) (b := 67) (j' := 4) rfl rfl rfl rfl (.plain rfl) (T_len D rfl rfl rfl rfl rfl rfl) rfl ?_
  refine k_op0 (d := 10) (b := 83) (j' := 5) rfl rfl rfl rfl (.plain rfl) (T_cmp rfl rfl rfl rfl) rfl ?_
  refine k_done rfl ?_
  refine thenK_n ?_
  refine W_cond rfl (fun g1 => ?_) (fun g1 => ?_)
  · have h1 := g1; (try simp only [cmpB, decide_eq_true_eq, decide_eq_false_iff_not, beq_iff_eq, beq_eq_false_iff_ne, bne_iff_ne, ne_eq, bne_eq_false_iff_eq, Bool.not_eq_true', Bool.not_eq_false', Int.not_lt, Int.not_le] at h1)
    refine W_seq ?_
    refine W_seqK (b' := 115) rfl rfl ?_
    refine k_op0 (d := 4) (b := 99) (j' := 1) rfl rfl rfl rfl (.plain rfl) (T_assign rfl rfl) rfl ?_
    refine k_done rfl ?_
    refine thenK_n ?_
    refine W_ret ?_
    refine thenK_r ?_
    -- end 0
    exact .mk [] (.inr rfl) (.tmp rfl (.nil)) (by simp only [Value.bool.injEq, LV.v.injEq, resLV, LV.ren]; exact (decide_eq_false (ne_of_len h1)).symm) (.nil) rfl
  · have h1 := g1; (try simp only [cmpB, decide_eq_true_eq, decide_eq_false_iff_not, beq_iff_eq, beq_eq_false_iff_ne, bne_iff_ne, ne_eq, bne_eq_false_iff_eq, Bool.not_eq_true', Bool.not_eq_false', Int.not_lt, Int.not_le] at h1)
    refine W_skip ?_
    refine thenK_n ?_
    refine W_seq ?_
    refine W_seq ?_
    refine W_seqK (b' := 115) rfl rfl ?_
    refine k_op0 (d := 5) (b := 99) (j' := 1) rfl rfl rfl rfl (.plain rfl) (T_assign rfl rfl) rfl ?_
    refine k_done rfl ?_
    refine thenK_n ?_
    refine W_block ?_
    refine W_loop (ι := Nat) 3 (fun j => ⟨[(0, .r 1), (1, .r 2), (5, .v (.int .i64 (j : Int)))], [(1, .fz 1 (a.map eI)), (2, .fz 1 (b.map eI))]⟩) (fun j => j ≤ a.length ∧ ∀ i, i < j → a.getD i default = b.getD i default) (fun j => a.length - j) (0) (by exact ⟨Nat.zero_le _, fun i h => absurd h (Nat.not_lt_zero _)⟩) ?_ (fun j hJ => ?_)
    · exact ⟨[], .same rfl rfl (.same rfl rfl (.eq rfl (.nil) (by first | rfl | simp))), .fzE rfl (.fzE rfl (.nil) (by first | rfl | simp)) (by first | rfl | simp), rfl⟩
    refine W_seq ?_
    refine W_seq ?_
    refine W_seqK (b' := 67) rfl rfl ?_
    refine k_op0 (d := 11) (b := 3) (j' := 1) rfl rfl rfl rfl (.plain rfl) (T_move rfl rfl) rfl ?_
    refine k_op0 (d := 12) (b := 19) (j' := 2) rfl rfl rfl rfl (.plain rfl) (T_move rfl rfl) rfl ?_
    refine k_op0 (d := 13) (b := 35) (j' := 3) rfl rfl rfl rfl (.plain rfl) (T_len D rfl rfl rfl rfl rfl rfl) rfl ?_
    refine k_op0 (d := 14) (b := 51) (j' := 4) rfl rfl rfl rfl (.plain rfl) (T_cmp rfl rfl rfl rfl) rfl ?_
    refine k_done rfl ?_
    refine thenK_n ?_
    refine W_cond rfl (fun g2 => ?_) (fun g2 => ?_)
    · have h2 := g2; (try simp only [cmpB, decide_eq_true_eq, decide_eq_false_iff_not, beq_iff_eq, beq_eq_false_iff_ne, bne_iff_ne, ne_eq, bne_eq_false_iff_eq, Bool.not_eq_true', Bool.not_eq_false', Int.not_lt, Int.not_le] at h2)
      refine W_skip ?_
      refine thenK_n ?_
      refine W_seq ?_
      refine W_block ?_
      refine W_seq ?_
      refine W_anyK (b' := 211) rfl rfl rfl ?_
      refine k_op0 (d := 17) (b := 67) (j' := 1) rfl rfl rfl rfl (.plain rfl) (T_move rfl rfl) rfl ?_
      refine k_op0 (d := 18) (b := 83) (j' := 2) rfl rfl rfl rfl (.plain rfl) (T_move rfl rfl) rfl ?_
      first | refine k_op0 (d := 19) (b := 99) (j' := 3) rfl rfl rfl rfl (.plain rfl) (T_indexAddr D rfl rfl rfl rfl rfl rfl rfl rfl (by first | assumption | omega | (simp; omega))) rfl ?_ | refine k_op0 (d := 19) (b := 99) (j' := 3) rfl rfl rfl rfl (.plain rfl) (T_indexAddrZ D rfl rfl rfl rfl rfl rfl rfl rfl (by first | assumption | omega | (simp; omega)) (by first | assumption | omega | (simp; omega))) rfl ?_
      refine k_op0 (d := 20) (b := 115) (j' := 4) rfl rfl rfl rfl (.plain rfl) (T_ldE D (lv := .v _) (nn := 0) (upd := []) rfl rfl rfl rfl rfl (by first | assumption | omega | (simp; omega)) rfl rfl rfl rfl) rfl ?_
      refine k_op0 (d := 21) (b := 131) (j' := 5) rfl rfl rfl rfl (.plain rfl) (T_move rfl rfl) rfl ?_
      refine k_op0 (d := 22) (b := 147) (j' := 6) rfl rfl rfl rfl (.plain rfl) (T_move rfl rfl) rfl ?_
      first | refine k_op0 (d := 23) (b := 163) (j' := 7) rfl rfl rfl rfl (.plain rfl) (T_indexAddr D rfl rfl rfl rfl rfl rfl rfl rfl (by first | assumption | omega | (simp; omega))) rfl ?_ | refine k_op0 (d := 23) (b := 163) (j' := 7) rfl rfl rfl rfl (.plain rfl) (T_indexAddrZ D rfl rfl rfl rfl rfl rfl rfl rfl (by first | assumption | omega | (simp; omega)) (by first | assumption | omega | (simp; omega))) rfl ?_
      refine k_op0 (d := 24) (b := 179) (j' := 8) rfl rfl rfl rfl (.plain rfl) (T_ldE D (lv := .v _) (nn := 0) (upd := []) rfl rfl rfl rfl rfl (by first | assumption | omega | (simp; omega)) rfl rfl rfl rfl) rfl ?_
      refine k_op0 (d := 25) (b := 195) (j' := 9) rfl rfl rfl rfl (.plain rfl) (T_cmp rfl rfl rfl rfl) rfl ?_
      refine k_done rfl ?_
      refine ⟨rfl, ?_⟩
      refine thenK_n ?_
      refine W_cond rfl (fun g3 => ?_) (fun g3 => ?_)
      · have h3 := g3; (try simp only [cmpB, decide_eq_true_eq, decide_eq_false_iff_not, beq_iff_eq, beq_eq_false_iff_ne, bne_iff_ne, ne_eq, bne_eq_false_iff_eq, Bool.not_eq_true', Bool.not_eq_false', Int.not_lt, Int.not_le] at h3)
        refine W_seq ?_
        refine W_seqK (b' := 227) rfl rfl ?_
        refine k_op0 (d := 4) (b := 211) (j' := 1) rfl rfl rfl rfl (.plain rfl) (T_assign rfl rfl) rfl ?_
        refine k_done rfl ?_
        refine thenK_n ?_
        refine W_ret ?_
        refine blockK_r ?_
        refine thenK_r ?_
        refine thenK_r ?_
        refine blockK_r ?_
        refine thenK_r ?_
        -- end 1
        exact .mk [] (.inr rfl) (.tmp rfl (.nil)) (by simp only [Value.bool.injEq, LV.v.injEq, resLV, LV.ren]; exact (decide_eq_false (ne_of_getD h3)).symm) (.nil) rfl
      · have h3 := g3; (try simp only [cmpB, decide_eq_true_eq, decide_eq_false_iff_not, beq_iff_eq, beq_eq_false_iff_ne, bne_iff_ne, ne_eq, bne_eq_false_iff_eq, Bool.not_eq_true', Bool.not_eq_false', Int.not_lt, Int.not_le] at h3)
        refine W_skip ?_
        refine blockK_n ?_
        refine thenK_n ?_
        refine W_seqK (b' := 259) rfl rfl ?_
        refine k_op0 (d := 15) (b := 211) (j' := 1) rfl rfl rfl rfl (.plain rfl) (T_move rfl rfl) rfl ?_
        refine k_op0 (d := 16) (b := 227) (j' := 2) rfl rfl rfl rfl (.plain rfl) (T_add64 rfl rfl rfl (by first | assumption | omega | (simp; omega))) rfl ?_
        refine k_op0 (d := 5) (b := 243) (j' := 3) rfl rfl rfl rfl (.plain rfl) (T_assign rfl rfl) rfl ?_
        refine k_done rfl ?_
        refine thenK_n ?_
        refine ⟨j + 1, by (try dsimp only); exact ⟨by omega, fun i hi => by rcases Nat.lt_or_ge i j with h | h; exact hJ.2 i h; rw [show i = j by omega]; assumption⟩, by (try dsimp only); omega, ?_⟩
        exact ⟨[], .same rfl rfl (.same rfl rfl (.eq rfl (.nil) (by first | rfl | simp))), .fzE rfl (.fzE rfl (.nil) (by first | rfl | simp)) (by first | rfl | simp), rfl⟩
    · have h2 := g2; (try simp only [cmpB, decide_eq_true_eq, decide_eq_false_iff_not, beq_iff_eq, beq_eq_false_iff_ne, bne_iff_ne, ne_eq, bne_eq_false_iff_eq, Bool.not_eq_true', Bool.not_eq_false', Int.not_lt, Int.not_le] at h2)
      refine W_exit ?_
      refine thenK_e ?_
      refine thenK_e ?_
      refine blockK_hit ?_
      refine thenK_n ?_
      refine W_seq ?_
      refine W_seqK (b' := 83) rfl rfl ?_
      refine k_op0 (d := 4) (b := 67) (j' := 1) rfl rfl rfl rfl (.plain rfl) (T_assign rfl rfl) rfl ?_
      refine k_done rfl ?_
      refine thenK_n ?_
      refine W_ret ?_
      -- end 2
      exact .mk [] (.inr rfl) (.tmp rfl (.nil)) (by simp only [Value.bool.injEq, LV.v.injEq, resLV, LV.ren]; exact (decide_eq_true (ext_getD (by omega) (fun i hi => hJ.2 i (by omega)))).symm) (.nil) rfl

theorem body118 : (Try.prog.funcs[118]?).map (fun fn => (fn.name == "runtime.NumGoroutine" || fn.body.isNone)) = some false := by kernel_rfl
theorem leads_spec (ps : List (List Int)) (n old : Int) (hn : 0 ≤ n → n < ps.length → 0 < (ps.getD n.toNat default).length) : Spec Try.prog 118 [.r 1, .v (.int .i64 n), .v (.int .i64 old)] 2 [(1, .fz 1 (ps.map eIs))] (.v (.bool (leads ps n old))) 2 [] := by
  refine spec_of D (fn := Try.f118) rfl rfl (Nat.le_of_ble_eq_true rfl) ?_
  refine W_seq ?_
  refine W_seqK (b' := 18) rfl rfl ?_
  refine k_op0 (d := 6) (b := 2) (j' := 1) rfl rfl rfl rfl (.plain rfl) (T_assign rfl rfl) rfl ?_
  refine k_done rfl ?_
  refine thenK_n ?_
  refine W_seq ?_
  refine W_seqK (b' := 322) rfl rfl ?_
  refine k_op0 (d := 7) (b := 18) (j' := 1) rfl rfl rfl rfl (.plain rfl) (T_move rfl rfl) rfl ?_
  refine k_op0 (d := 8) (b := 34) (j' := 2) rfl rfl rfl rfl (.plain rfl) (T_cmp rfl rfl rfl rfl) rfl ?_
  refine k_op0 (d := 9) (b := 50) (j' := 3) rfl rfl rfl rfl (.plain rfl) (T_move rfl rfl) rfl ?_
  refine k_split (d := 9) rfl (fun g1 => ?_) (fun g1 => ?_)
  · have h1 := g1; (try simp only [cmpB, decide_eq_true_eq, decide_eq_false_iff_not, beq_iff_eq, beq_eq_false_iff_ne, bne_iff_ne, ne_eq, bne_eq_false_iff_eq, Bool.not_eq_true', Bool.not_eq_false', Int.not_lt, Int.not_le] at h1)
    refine k_op0 (d := 10) (b := 66) (j' := 4) rfl rfl rfl rfl (g_tt rfl rfl rfl g1) (T_move rfl rfl) rfl ?_
    refine k_op0 (d := 11) (b := 82) (j' := 5) rfl rfl rfl rfl (g_tt rfl rfl rfl g1) (T_move rfl rfl) rfl ?_
    refine k_op0 (d := 12) (b := 98) (j' := 6) rfl rfl rfl rfl (g_tt rfl rfl rfl g1) (T_len D rfl rfl rfl rfl rfl rfl) rfl ?_
    refine k_op0 (d := 13) (b := 114) (j' := 7) rfl rfl rfl rfl (g_tt rfl rfl rfl g1) (T_cmp rfl rfl rfl rfl) rfl ?_
    refine k_op0 (d := 14) (b := 130) (j' := 8) rfl rfl rfl rfl (.plain rfl) (T_pick_t rfl rfl rfl g1) rfl ?_
    refine k_op0 (d := 15) (b := 146) (j' := 9) rfl rfl rfl rfl (.plain rfl) (T_move rfl rfl) rfl ?_
    refine k_split (d := 15) rfl (fun g2 => ?_) (fun g2 => ?_)
    · have h2 := g2; (try simp only [cmpB, decide_eq_true_eq, decide_eq_false_iff_not, beq_iff_eq, beq_eq_false_iff_ne, bne_iff_ne, ne_eq, bne_eq_false_iff_eq, Bool.not_eq_true', Bool.not_eq_false', Int.not_lt, Int.not_le] at h2)
      refine k_op0 (d := 16) (b := 162) (j' := 10) rfl rfl rfl rfl (g_tt rfl rfl rfl g2) (T_move rfl rfl) rfl ?_
      refine k_op0 (d := 17) (b := 178) (j' := 11) rfl rfl rfl rfl (g_tt rfl rfl rfl g2) (T_move rfl rfl) rfl ?_
      first | refine k_op0 (d := 18) (b := 194) (j' := 12) rfl rfl rfl rfl (g_tt rfl rfl rfl g2) (T_indexAddr D rfl rfl rfl rfl rfl rfl rfl rfl (by first | assumption | omega | (exact hn (by omega) (by omega)))) rfl ?_ | refine k_op0 (d := 18) (b := 194) (j' := 12) rfl rfl rfl rfl (g_tt rfl rfl rfl g2) (T_indexAddrZ D rfl rfl rfl rfl rfl rfl rfl rfl (by first | assumption | omega | (exact hn (by omega) (by omega))) (by first | assumption | omega | (exact hn (by omega) (by omega)))) rfl ?_
      refine k_op1 (d := 19) (b := 210) (j' := 13) rfl rfl rfl rfl (g_tt rfl rfl rfl g2) (T_ldE D (lv := .r 210) (nn := 1) (upd := [(210, .fz 1 _)]) rfl rfl rfl rfl rfl (by first | assumption | omega | (exact hn (by omega) (by omega))) rfl rfl rfl rfl) rfl ?_
      first | refine k_op0 (d := 20) (b := 226) (j' := 14) rfl rfl rfl rfl (g_tt rfl rfl rfl g2) (T_indexAddr D rfl rfl rfl rfl rfl rfl rfl rfl (by first | assumption | omega | (exact hn (by omega) (by omega)))) rfl ?_ | refine k_op0 (d := 20) (b := 226) (j' := 14) rfl rfl rfl rfl (g_tt rfl rfl rfl g2) (T_indexAddrZ D rfl rfl rfl rfl rfl rfl rfl rfl (by first | assumption | omega | (exact hn (by omega) (by omega))) (by first | assumption | omega | (exact hn (by omega) (by omega)))) rfl ?_
      refine k_op0 (d := 21) (b := 242) (j' := 15) rfl rfl rfl rfl (g_tt rfl rfl rfl g2) (T_ldE D (lv := .v _) (nn := 0) (upd := []) rfl rfl rfl rfl rfl (by first | assumption | omega | (exact hn (by omega) (by omega))) rfl rfl rfl rfl) rfl ?_
      refine k_op0 (d := 22) (b := 258) (j' := 16) rfl rfl rfl rfl (g_tt rfl rfl rfl g2) (T_move rfl rfl) rfl ?_
      refine k_op0 (d := 23) (b := 274) (j' := 17) rfl rfl rfl rfl (g_tt rfl rfl rfl g2) (T_cmp rfl rfl rfl rfl) rfl ?_
      refine k_op0 (d := 24) (b := 290) (j' := 18) rfl rfl rfl rfl (.plain rfl) (T_pick_t rfl rfl rfl g2) rfl ?_
      refine k_op0 (d := 6) (b := 306) (j' := 19) rfl rfl rfl rfl (.plain rfl) (T_assign rfl rfl) rfl ?_
      refine k_done rfl ?_
      refine thenK_n ?_
      refine W_ret ?_
      -- end 0
      exact .mk [] (.inr rfl) (.tmp rfl (.nil)) (by simp only [resLV, LV.ren, LV.v.injEq, Value.bool.injEq]; rw [leads, decide_eq_true (by omega), decide_eq_true (by omega)]; rfl) (.nil) rfl
    · have h2 := g2; (try simp only [cmpB, decide_eq_true_eq, decide_eq_false_iff_not, beq_iff_eq, beq_eq_false_iff_ne, bne_iff_ne, ne_eq, bne_eq_false_iff_eq, Bool.not_eq_true', Bool.not_eq_false', Int.not_lt, Int.not_le] at h2)
      refine k_no (d := 16) (j' := 10) rfl rfl rfl (g_tf rfl rfl rfl g2) ?_
      refine k_no (d := 17) (j' := 11) rfl rfl rfl (g_tf rfl rfl rfl g2) ?_
      refine k_no (d := 18) (j' := 12) rfl rfl rfl (g_tf rfl rfl rfl g2) ?_
      refine k_no (d := 19) (j' := 13) rfl rfl rfl (g_tf rfl rfl rfl g2) ?_
      refine k_no (d := 20) (j' := 14) rfl rfl rfl (g_tf rfl rfl rfl g2) ?_
      refine k_no (d := 21) (j' := 15) rfl rfl rfl (g_tf rfl rfl rfl g2) ?_
      refine k_no (d := 22) (j' := 16) rfl rfl rfl (g_tf rfl rfl rfl g2) ?_
      refine k_no (d := 23) (j' := 17) rfl rfl rfl (g_tf rfl rfl rfl g2) ?_
      refine k_op0 (d := 24) (b := 290) (j' := 18) rfl rfl rfl rfl (.plain rfl) (T_pick_f rfl rfl rfl g2) rfl ?_
      refine k_op0 (d := 6) (b := 306) (j' := 19) rfl rfl rfl rfl (.plain rfl) (T_assign rfl rfl) rfl ?_
      refine k_done rfl ?_
      refine thenK_n ?_
      refine W_ret ?_
      -- end 1
      exact .mk [] (.inr rfl) (.tmp rfl (.nil)) (by simp only [resLV, LV.ren, LV.v.injEq, Value.bool.injEq]; rw [leads, decide_eq_false (p := n < (ps.length : Int)) (by omega)]; simp) (.nil) rfl
  · have h1 := g1; (try simp only [cmpB, decide_eq_true_eq, decide_eq_false_iff_not, beq_iff_eq, beq_eq_false_iff_ne, bne_iff_ne, ne_eq, bne_eq_false_iff_eq, Bool.not_eq_true', Bool.not_eq_false', Int.not_lt, Int.not_le] at h1)
    refine k_no (d := 10) (j' := 4) rfl rfl rfl (g_tf rfl rfl rfl g1) ?_
    refine k_no (d := 11) (j' := 5) rfl rfl rfl (g_tf rfl rfl rfl g1) ?_
    refine k_no (d := 12) (j' := 6) rfl rfl rfl (g_tf rfl rfl rfl g1) ?_
    refine k_no (d := 13) (j' := 7) rfl rfl rfl (g_tf rfl rfl rfl g1) ?_
    refine k_op0 (d := 14) (b := 130) (j' := 8) rfl rfl rfl rfl (.plain rfl) (T_pick_f rfl rfl rfl g1) rfl ?_
    refine k_op0 (d := 15) (b := 146) (j' := 9) rfl rfl rfl rfl (.plain rfl) (T_move rfl rfl) rfl ?_
    refine k_no (d := 16) (j' := 10) rfl rfl rfl (g_tf rfl rfl rfl rfl) ?_
    refine k_no (d := 17) (j' := 11) rfl rfl rfl (g_tf rfl rfl rfl rfl) ?_
    refine k_no (d := 18) (j' := 12) rfl rfl rfl (g_tf rfl rfl rfl rfl) ?_
    refine k_no (d := 19) (j' := 13) rfl rfl rfl (g_tf rfl rfl rfl rfl) ?_
    refine k_no (d := 20) (j' := 14) rfl rfl rfl (g_tf rfl rfl rfl rfl) ?_
    refine k_no (d := 21) (j' := 15) rfl rfl rfl (g_tf rfl rfl rfl rfl) ?_
    refine k_no (d := 22) (j' := 16) rfl rfl rfl (g_tf rfl rfl rfl rfl) ?_
    refine k_no (d := 23) (j' := 17) rfl rfl rfl (g_tf rfl rfl rfl rfl) ?_
    refine k_op0 (d := 24) (b := 290) (j' := 18) rfl rfl rfl rfl (.plain rfl) (T_pick_f rfl rfl rfl rfl) rfl ?_
    refine k_op0 (d := 6) (b := 306) (j' := 19) rfl rfl rfl rfl (.plain rfl) (T_assign rfl rfl) rfl ?_
    refine k_done rfl ?_
    refine thenK_n ?_
    refine W_ret ?_
    -- end 2
    exact .mk [] (.inr rfl) (.tmp rfl (.nil)) (by simp only [resLV, LV.ren, LV.v.injEq, Value.bool.injEq]; rw [leads, decide_eq_false (p := 0 ≤ n) (by omega)]; rfl) (.nil) rfl

theorem body119 : (Try.prog.funcs[119]?).map (fun fn => (fn.name == "runtime.NumGoroutine" || fn.body.isNone)) = some false := by kernel_rfl
theorem leads_spec2 (ps : List (List Int)) (n old : Int) (hn : 0 ≤ n → n < ps.length → 0 < (ps.getD n.toNat default).length) : Spec Try.prog 119 [.r 1, .v (.int .i64 n), .v (.int .i64 old)] 2 [(1, .fz 1 (ps.map eIs))] (.v (.bool (leads ps n old))) 2 [] := by
  refine spec_of D (fn := Try.f119) rfl rfl (Nat.le_of_ble_eq_true rfl) ?_
  refine W_seq ?_
  refine W_seqK (b' := 18) rfl rfl ?_
  refine k_op0 (d := 6) (b := 2) (j' := 1) rfl rfl rfl rfl (.plain rfl) (T_assign rfl rfl) rfl ?_
  refine k_done rfl ?_
  refine thenK_n ?_
  refine W_seq ?_
  refine W_seqK (b' := 322) rfl rfl ?_
  refine k_op0 (d := 7) (b := 18) (j' := 1) rfl rfl rfl rfl (.plain rfl) (T_move rfl rfl) rfl ?_
  refine k_op0 (d := 8) (b := 34) (j' := 2) rfl rfl rfl rfl (.plain rfl) (T_cmp rfl rfl rfl rfl) rfl ?_
  refine k_op0 (d := 9) (b := 50) (j' := 3) rfl rfl rfl rfl (.plain rfl) (T_move rfl rfl) rfl ?_
  refine k_split (d := 9) rfl (fun g1 => ?_) (fun g1 => ?_)
  · have h1 := g1; (try simp only [cmpB, decide_eq_true_eq, decide_eq_false_iff_not, beq_iff_eq, beq_eq_false_iff_ne, bne_iff_ne, ne_eq, bne_eq_false_iff_eq, Bool.not_eq_true', Bool.not_eq_false', Int.not_lt, Int.not_le] at h1)
    refine k_op0 (d := 10) (b := 66) (j' := 4) rfl rfl rfl rfl (g_tt rfl rfl rfl g1) (T_move rfl rfl) rfl ?_
    refine k_op0 (d := 11) (b := 82) (j' := 5) rfl rfl rfl rfl (g_tt rfl rfl rfl g1) (T_move rfl rfl) rfl ?_
    refine k_op0 (d := 12) (b := 98) (j' := 6) rfl rfl rfl rfl (g_tt rfl rfl rfl g1) (T_len D rfl rfl rfl rfl rfl rfl) rfl ?_
    refine k_op0 (d := 13) (b := 114) (j' := 7) rfl rfl rfl rfl (g_tt rfl rfl rfl g1) (T_cmp rfl rfl rfl rfl) rfl ?_
    refine k_op0 (d := 14) (b := 130) (j' := 8) rfl rfl rfl rfl (.plain rfl) (T_pick_t rfl rfl rfl g1) rfl ?_
    refine k_op0 (d := 15) (b := 146) (j' := 9) rfl rfl rfl rfl (.plain rfl) (T_move rfl rfl) rfl ?_
    refine k_split (d := 15) rfl (fun g2 => ?_) (fun g2 => ?_)
    · have h2 := g2; (try simp only [cmpB, decide_eq_true_eq, decide_eq_false_iff_not, beq_iff_eq, beq_eq_false_iff_ne, bne_iff_ne, ne_eq, bne_eq_false_iff_eq, Bool.not_eq_true', Bool.not_eq_false', Int.not_lt, Int.not_le] at h2)
      refine k_op0 (d := 16) (b := 162) (j' := 10) rfl rfl rfl rfl (g_tt rfl rfl rfl g2) (T_move rfl rfl) rfl ?_
      refine k_op0 (d := 17) (b := 178) (j' := 11) rfl rfl rfl rfl (g_tt rfl rfl rfl g2) (T_move rfl rfl) rfl ?_
      first | refine k_op0 (d := 18) (b := 194) (j' := 12) rfl rfl rfl rfl (g_tt rfl rfl rfl g2) (T_indexAddr D rfl rfl rfl rfl rfl rfl rfl rfl (by first | assumption | omega | (exact hn (by omega) (by omega)))) rfl ?_ | refine k_op0 (d := 18) (b := 194) (j' := 12) rfl rfl rfl rfl (g_tt rfl rfl rfl g2) (T_indexAddrZ D rfl rfl rfl rfl rfl rfl rfl rfl (by first | assumption | omega | (exact hn (by omega) (by omega))) (by first | assumption | omega | (exact hn (by omega) (by omega)))) rfl ?_
      refine k_op1 (d := 19) (b := 210) (j' := 13) rfl rfl rfl rfl (g_tt rfl rfl rfl g2) (T_ldE D (lv := .r 210) (nn := 1) (upd := [(210, .fz 1 _)]) rfl rfl rfl rfl rfl (by first | assumption | omega | (exact hn (by omega) (by omega))) rfl rfl rfl rfl) rfl ?_
      first | refine k_op0 (d := 20) (b := 226) (j' := 14) rfl rfl rfl rfl (g_tt rfl rfl rfl g2) (T_indexAddr D rfl rfl rfl rfl rfl rfl rfl rfl (by first | assumption | omega | (exact hn (by omega) (by omega)))) rfl ?_ | refine k_op0 (d := 20) (b := 226) (j' := 14) rfl rfl rfl rfl (g_tt rfl rfl rfl g2) (T_indexAddrZ D rfl rfl rfl rfl rfl rfl rfl rfl (by first | assumption | omega | (exact hn (by omega) (by omega))) (by first | assumption | omega | (exact hn (by omega) (by omega)))) rfl ?_
      refine k_op0 (d := 21) (b := 242) (j' := 15) rfl rfl rfl rfl (g_tt rfl rfl rfl g2) (T_ldE D (lv := .v _) (nn := 0) (upd := []) rfl rfl rfl rfl rfl (by first | assumption | omega | (exact hn (by omega) (by omega))) rfl rfl rfl rfl) rfl ?_
      refine k_op0 (d := 22) (b := 258) (j' := 16) rfl rfl rfl rfl (g_tt rfl rfl rfl g2) (T_move rfl rfl) rfl ?_
      refine k_op0 (d := 23) (b := 274) (j' := 17) rfl rfl rfl rfl (g_tt rfl rfl rfl g2) (T_cmp rfl rfl rfl rfl) rfl ?_
      refine k_op0 (d := 24) (b := 290) (j' := 18) rfl rfl rfl rfl (.plain rfl) (T_pick_t rfl rfl rfl g2) rfl ?_
      refine k_op0 (d := 6) (b := 306) (j' := 19) rfl rfl rfl rfl (.plain rfl) (T_assign rfl rfl) rfl ?_
      refine k_done rfl ?_
      refine thenK_n ?_
      refine W_ret ?_
      -- end 0
      exact .mk [] (.inr rfl) (.tmp rfl (.nil)) (by simp only [resLV, LV.ren, LV.v.injEq, Value.bool.injEq]; rw [leads, decide_eq_true (by omega), decide_eq_true (by omega)]; rfl) (.nil) rfl
    · have h2 := g2; (try simp only [cmpB, decide_eq_true_eq, decide_eq_false_iff_not, beq_iff_eq, beq_eq_false_iff_ne, bne_iff_ne, ne_eq, bne_eq_false_iff_eq, Bool.not_eq_true', Bool.not_eq_false', Int.not_lt, Int.not_le] at h2)
      refine k_no (d := 16) (j' := 10) rfl rfl rfl (g_tf rfl rfl rfl g2) ?_
      refine k_no (d := 17) (j' := 11) rfl rfl rfl (g_tf rfl rfl rfl g2) ?_
      refine k_no (d := 18) (j' := 12) rfl rfl rfl (g_tf rfl rfl rfl g2) ?_
      refine k_no (d := 19) (j' := 13) rfl rfl rfl (g_tf rfl rfl rfl g2) ?_
      refine k_no (d := 20) (j' := 14) rfl rfl rfl (g_tf rfl rfl rfl g2) ?_
      refine k_no (d := 21) (j' := 15) rfl rfl rfl (g_tf rfl rfl rfl g2) ?_
      refine k_no (d := 22) (j' := 16) rfl rfl rfl (g_tf rfl rfl rfl g2) ?_
      refine k_no (d := 23) (j' := 17) rfl rfl rfl (g_tf rfl rfl rfl g2) ?_
      refine k_op0 (d := 24) (b := 290) (j' := 18) rfl rfl rfl rfl (.plain rfl) (T_pick_f rfl rfl rfl g2) rfl ?_
      refine k_op0 (d := 6) (b := 306) (j' := 19) rfl rfl rfl rfl (.plain rfl) (T_assign rfl rfl) rfl ?_
      refine k_done rfl ?_
      refine thenK_n ?_
      refine W_ret ?_
      -- end 1
      exact .mk [] (.inr rfl) (.tmp rfl (.nil)) (by simp only [resLV, LV.ren, LV.v.injEq, Value.bool.injEq]; rw [leads, decide_eq_false (p := n < (ps.length : Int)) (by omega)]; simp) (.nil) rfl
  · have h1 := g1; (try simp only [cmpB, decide_eq_true_eq, decide_eq_false_iff_not, beq_iff_eq, beq_eq_false_iff_ne, bne_iff_ne, ne_eq, bne_eq_false_iff_eq, Bool.not_eq_true', Bool.not_eq_false', Int.not_lt, Int.not_le] at h1)
    refine k_no (d := 10) (j' := 4) rfl rfl rfl (g_tf rfl rfl rfl g1) ?_
    refine k_no (d := 11) (j' := 5) rfl rfl rfl (g_tf rfl rfl rfl g1) ?_
    refine k_no (d := 12) (j' := 6) rfl rfl rfl (g_tf rfl rfl rfl g1) ?_
    refine k_no (d := 13) (j' := 7) rfl rfl rfl (g_tf rfl rfl rfl g1) ?_
    refine k_op0 (d := 14) (b := 130) (j' := 8) rfl rfl rfl rfl (.plain rfl) (T_pick_f rfl rfl rfl g1) rfl ?_
    refine k_op0 (d := 15) (b := 146) (j' := 9) rfl rfl rfl rfl (.plain rfl) (T_move rfl rfl) rfl ?_
    refine k_no (d := 16) (j' := 10) rfl rfl rfl (g_tf rfl rfl rfl rfl) ?_
    refine k_no (d := 17) (j' := 11) rfl rfl rfl (g_tf rfl rfl rfl rfl) ?_
    refine k_no (d := 18) (j' := 12) rfl rfl rfl (g_tf rfl rfl rfl rfl) ?_
    refine k_no (d := 19) (j' := 13) rfl rfl rfl (g_tf rfl rfl rfl rfl) ?_
    refine k_no (d := 20) (j' := 14) rfl rfl rfl (g_tf rfl rfl rfl rfl) ?_
    refine k_no (d := 21) (j' := 15) rfl rfl rfl (g_tf rfl rfl rfl rfl) ?_
    refine k_no (d := 22) (j' := 16) rfl rfl rfl (g_tf rfl rfl rfl rfl) ?_
    refine k_no (d := 23) (j' := 17) rfl rfl rfl (g_tf rfl rfl rfl rfl) ?_
    refine k_op0 (d := 24) (b := 290) (j' := 18) rfl rfl rfl rfl (.plain rfl) (T_pick_f rfl rfl rfl rfl) rfl ?_
    refine k_op0 (d := 6) (b := 306) (j' := 19) rfl rfl rfl rfl (.plain rfl) (T_assign rfl rfl) rfl ?_
    refine k_done rfl ?_
    refine thenK_n ?_
    refine W_ret ?_
    -- end 2
    exact .mk [] (.inr rfl) (.tmp rfl (.nil)) (by simp only [resLV, LV.ren, LV.v.injEq, Value.bool.injEq]; rw [leads, decide_eq_false (p := 0 ≤ n) (by omega)]; rfl) (.nil) rfl

theorem body31 : (Try.prog.funcs[31]?).map (fun fn => (fn.name == "runtime.NumGoroutine" || fn.body.isNone)) = some false := by kernel_rfl
theorem few_spec (f : GFn) (x y : Int) (hb : f.blocks.length ≤ 4000000000000000000) (hs : (f.blocks.length : Int) ≤ x → ∀ j, sumLen ((insOf f).take j) ≤ 4000000000000000000) : Spec Try.prog 31 [.agg [.v (.int .i64 f.regs), .r 1], .v (.int .i64 x), .v (.int .i64 y)] 2 [(1, .fz 5 (f.blocks.map eBlock))] (.v (.bool (few f x y))) 2 [] := by
  refine spec_of D (fn := Try.f31) rfl rfl (Nat.le_of_ble_eq_true rfl) ?_
  refine W_seq ?_
  refine W_seqK (b' := 34) rfl rfl ?_
  refine k_op1 (d := 3) (b := 2) (j' := 1) rfl rfl rfl rfl (.plain rfl) (T_box rfl rfl flat_agg) rfl ?_
  refine k_op0 (d := 6) (b := 18) (j' := 2) rfl rfl rfl rfl (.plain rfl) (T_assign rfl rfl) rfl ?_
  refine k_done rfl ?_
  refine thenK_n ?_
  refine W_seq ?_
  refine W_seq ?_
  refine W_seqK (b' := 114) rfl rfl ?_
  refine k_op0 (d := 9) (b := 34) (j' := 1) rfl rfl rfl rfl (.plain rfl) (T_fa D (m := 1) rfl rfl rfl rfl rfl rfl) rfl ?_
  refine k_op0 (d := 10) (b := 50) (j' := 2) rfl rfl rfl rfl (.plain rfl) (T_load_b D rfl rfl rfl rfl rfl rfl) rfl ?_
  refine k_op0 (d := 11) (b := 66) (j' := 3) rfl rfl rfl rfl (.plain rfl) (T_len D rfl rfl rfl rfl rfl rfl) rfl ?_
  refine k_op0 (d := 12) (b := 82) (j' := 4) rfl rfl rfl rfl (.plain rfl) (T_move rfl rfl) rfl ?_
  refine k_op0 (d := 13) (b := 98) (j' := 5) rfl rfl rfl rfl (.plain rfl) (T_cmp rfl rfl rfl rfl) rfl ?_
  refine k_done rfl ?_
  refine thenK_n ?_
  refine W_cond rfl (fun g1 => ?_) (fun g1 => ?_)
  · have h1 := g1; (try simp only [cmpB, decide_eq_true_eq, decide_eq_false_iff_not, beq_iff_eq, beq_eq_false_iff_ne, bne_iff_ne, ne_eq, bne_eq_false_iff_eq, Bool.not_eq_true', Bool.not_eq_false', Int.not_lt, Int.not_le] at h1)
    refine W_seq ?_
    refine W_seqK (b' := 130) rfl rfl ?_
    refine k_op0 (d := 6) (b := 114) (j' := 1) rfl rfl rfl rfl (.plain rfl) (T_assign rfl rfl) rfl ?_
    refine k_done rfl ?_
    refine thenK_n ?_
    refine W_ret ?_
    refine thenK_r ?_
    -- end 0
    exact .mk [] (.inr rfl) (.tmp rfl (.nil)) (by simp only [resLV, LV.ren, LV.v.injEq, Value.bool.injEq]; rw [few, decide_eq_false (by omega)]; rfl) (.nil) rfl
  · have h1 := g1; (try simp only [cmpB, decide_eq_true_eq, decide_eq_false_iff_not, beq_iff_eq, beq_eq_false_iff_ne, bne_iff_ne, ne_eq, bne_eq_false_iff_eq, Bool.not_eq_true', Bool.not_eq_false', Int.not_lt, Int.not_le] at h1)
    refine W_skip ?_
    refine thenK_n ?_
    refine W_seq ?_
    refine W_seqK (b' := 130) rfl rfl ?_
    refine k_op0 (d := 7) (b := 114) (j' := 1) rfl rfl rfl rfl (.plain rfl) (T_assign rfl rfl) rfl ?_
    refine k_done rfl ?_
    refine thenK_n ?_
    refine W_seq ?_
    refine W_seq ?_
    refine W_seqK (b' := 146) rfl rfl ?_
    refine k_op0 (d := 8) (b := 130) (j' := 1) rfl rfl rfl rfl (.plain rfl) (T_assign rfl rfl) rfl ?_
    refine k_done rfl ?_
    refine thenK_n ?_
    refine W_block ?_
    refine W_loop (ι := Nat) 3 (fun j => ⟨[(2, .v (.int .i64 y)), (3, .p 2 0), (7, .v (.int .i64 (sumLen ((insOf f).take j) : Int))), (8, .v (.int .i64 (j : Int)))], [(1, .fz 5 (f.blocks.map eBlock)), (2, .box 29 [.v (.int .i64 f.regs), .r 1])]⟩) (fun j => j ≤ f.blocks.length) (fun j => f.blocks.length - j) (0) (by exact Nat.zero_le _) ?_ (fun j hJ => ?_)
    · exact ⟨[(2, 2)], .eq rfl (.same rfl rfl (.eq rfl (.eq rfl (.nil) (by first | rfl | simp)) (by first | rfl | simp))) (by first | rfl | simp), .fzE rfl (.box (by first | rfl | simp) (.nil)) (by first | rfl | simp), rfl⟩
    have hq := hs (by omega) j
    have hq3 : j < f.blocks.length → sumLen ((insOf f).take (j + 1)) = sumLen ((insOf f).take j) + (f.blocks.getD j default).ins.length := fun h => by rw [sumLen_take _ j (by simpa [insOf] using h)]; simp [insOf, List.getD_eq_getElem?_getD, h]
    have hq2 := hs (by omega) (j + 1)
    refine W_seq ?_
    refine W_seq ?_
    refine W_seqK (b' := 83) rfl rfl ?_
    refine k_op0 (d := 14) (b := 3) (j' := 1) rfl rfl rfl rfl (.plain rfl) (T_move rfl rfl) rfl ?_
    refine k_op0 (d := 15) (b := 19) (j' := 2) rfl rfl rfl rfl (.plain rfl) (T_fa D (m := 1) rfl rfl rfl rfl rfl rfl) rfl ?_
    refine k_op0 (d := 16) (b := 35) (j' := 3) rfl rfl rfl rfl (.plain rfl) (T_load_b D rfl rfl rfl rfl rfl rfl) rfl ?_
    refine k_op0 (d := 17) (b := 51) (j' := 4) rfl rfl rfl rfl (.plain rfl) (T_len D rfl rfl rfl rfl rfl rfl) rfl ?_
    refine k_op0 (d := 18) (b := 67) (j' := 5) rfl rfl rfl rfl (.plain rfl) (T_cmp rfl rfl rfl rfl) rfl ?_
    refine k_done rfl ?_
    refine thenK_n ?_
    refine W_cond rfl (fun g2 => ?_) (fun g2 => ?_)
    · have h2 := g2; (try simp only [cmpB, decide_eq_true_eq, decide_eq_false_iff_not, beq_iff_eq, beq_eq_false_iff_ne, bne_iff_ne, ne_eq, bne_eq_false_iff_eq, Bool.not_eq_true', Bool.not_eq_false', Int.not_lt, Int.not_le] at h2)
      refine W_skip ?_
      refine thenK_n ?_
      refine W_seq ?_
      refine W_block ?_
      refine W_seqK (b' := 243) rfl rfl ?_
      refine k_op0 (d := 21) (b := 83) (j' := 1) rfl rfl rfl rfl (.plain rfl) (T_move rfl rfl) rfl ?_
      refine k_op0 (d := 22) (b := 99) (j' := 2) rfl rfl rfl rfl (.plain rfl) (T_fa D (m := 1) rfl rfl rfl rfl rfl rfl) rfl ?_
      refine k_op0 (d := 23) (b := 115) (j' := 3) rfl rfl rfl rfl (.plain rfl) (T_load_b D rfl rfl rfl rfl rfl rfl) rfl ?_
      refine k_op0 (d := 24) (b := 131) (j' := 4) rfl rfl rfl rfl (.plain rfl) (T_move rfl rfl) rfl ?_
      first | refine k_op0 (d := 25) (b := 147) (j' := 5) rfl rfl rfl rfl (.plain rfl) (T_indexAddr D rfl rfl rfl rfl rfl rfl rfl rfl (by first | assumption | omega | (simp; omega))) rfl ?_ | refine k_op0 (d := 25) (b := 147) (j' := 5) rfl rfl rfl rfl (.plain rfl) (T_indexAddrZ D rfl rfl rfl rfl rfl rfl rfl rfl (by first | assumption | omega | (simp; omega)) (by first | assumption | omega | (simp; omega))) rfl ?_
      refine k_op0 (d := 26) (b := 163) (j' := 6) rfl rfl rfl rfl (.plain rfl) (T_fae D (m := 0) rfl rfl rfl rfl rfl rfl) rfl ?_
      refine k_op1 (d := 27) (b := 179) (j' := 7) rfl rfl rfl rfl (.plain rfl) (T_ldE D (lv := .r 179) (nn := 1) (upd := [(179, .fz 8 _)]) rfl rfl rfl rfl rfl (by first | assumption | omega | (simp; omega)) rfl rfl rfl rfl) rfl ?_
      refine k_op0 (d := 28) (b := 195) (j' := 8) rfl rfl rfl rfl (.plain rfl) (T_len D rfl rfl rfl rfl rfl rfl) rfl ?_
      refine k_op0 (d := 29) (b := 211) (j' := 9) rfl rfl rfl rfl (.plain rfl) (T_add64 rfl rfl rfl (by first | assumption | omega | (simp; omega))) rfl ?_
      refine k_op0 (d := 7) (b := 227) (j' := 10) rfl rfl rfl rfl (.plain rfl) (T_assign rfl rfl) rfl ?_
      refine k_done rfl ?_
      refine blockK_n ?_
      refine thenK_n ?_
      refine W_seqK (b' := 291) rfl rfl ?_
      refine k_op0 (d := 19) (b := 243) (j' := 1) rfl rfl rfl rfl (.plain rfl) (T_move rfl rfl) rfl ?_
      refine k_op0 (d := 20) (b := 259) (j' := 2) rfl rfl rfl rfl (.plain rfl) (T_add64 rfl rfl rfl (by first | assumption | omega | (simp; omega))) rfl ?_
      refine k_op0 (d := 8) (b := 275) (j' := 3) rfl rfl rfl rfl (.plain rfl) (T_assign rfl rfl) rfl ?_
      refine k_done rfl ?_
      refine thenK_n ?_
      refine ⟨j + 1, by (try dsimp only); omega, by (try dsimp only); omega, ?_⟩
      exact ⟨[(2, 2)], .eq rfl (.same rfl rfl (.eq rfl (.eq rfl (.nil) (by first | rfl | (rw [hq3 (by omega)]; rfl) | simp)) (by first | rfl | (rw [hq3 (by omega)]; rfl) | simp))) (by first | rfl | (rw [hq3 (by omega)]; rfl) | simp), .fzE rfl (.box (by first | rfl | (rw [hq3 (by omega)]; rfl) | simp) (.nil)) (by first | rfl | (rw [hq3 (by omega)]; rfl) | simp), rfl⟩
    · have h2 := g2; (try simp only [cmpB, decide_eq_true_eq, decide_eq_false_iff_not, beq_iff_eq, beq_eq_false_iff_ne, bne_iff_ne, ne_eq, bne_eq_false_iff_eq, Bool.not_eq_true', Bool.not_eq_false', Int.not_lt, Int.not_le] at h2)
      refine W_exit ?_
      refine thenK_e ?_
      refine thenK_e ?_
      refine blockK_hit ?_
      refine thenK_n ?_
      refine W_seq ?_
      refine W_seqK (b' := 147) rfl rfl ?_
      refine k_op0 (d := 30) (b := 83) (j' := 1) rfl rfl rfl rfl (.plain rfl) (T_move rfl rfl) rfl ?_
      refine k_op0 (d := 31) (b := 99) (j' := 2) rfl rfl rfl rfl (.plain rfl) (T_move rfl rfl) rfl ?_
      refine k_op0 (d := 32) (b := 115) (j' := 3) rfl rfl rfl rfl (.plain rfl) (T_cmp rfl rfl rfl rfl) rfl ?_
      refine k_op0 (d := 6) (b := 131) (j' := 4) rfl rfl rfl rfl (.plain rfl) (T_assign rfl rfl) rfl ?_
      refine k_done rfl ?_
      refine thenK_n ?_
      refine W_ret ?_
      -- end 1
      exact .mk [] (.inr rfl) (.tmp rfl (.nil)) (by simp only [resLV, LV.ren, LV.v.injEq, Value.bool.injEq]; have e : j = f.blocks.length := (by omega); subst e; rw [few, decide_eq_true (by omega), List.take_of_length_le (by simp [insOf])]; rfl) (.nil) rfl

theorem body32 : (Try.prog.funcs[32]?).map (fun fn => (fn.name == "runtime.NumGoroutine" || fn.body.isNone)) = some false := by kernel_rfl
theorem small_spec (ps : List (List Int)) (x y : Int) (hb : ps.length ≤ 4000000000000000000) (hy : y ≤ 4000000000000000000) (hs : ∀ p ∈ ps, p.length ≤ 4000000000000000000) : Spec Try.prog 32 [.r 1, .v (.int .i64 x), .v (.int .i64 y)] 2 [(1, .fz 1 (ps.map eIs))] (.v (.bool (decide ((ps.length : Int) ≤ x) && decide ((sumLen ps : Int) ≤ y)))) 2 [] := by
  refine spec_of D (fn := Try.f32) rfl rfl (Nat.le_of_ble_eq_true rfl) ?_
  refine W_seq ?_
  refine W_seqK (b' := 18) rfl rfl ?_
  refine k_op0 (d := 6) (b := 2) (j' := 1) rfl rfl rfl rfl (.plain rfl) (T_assign rfl rfl) rfl ?_
  refine k_done rfl ?_
  refine thenK_n ?_
  refine W_seq ?_
  refine W_seqK (b' := 34) rfl rfl ?_
  refine k_op0 (d := 7) (b := 18) (j' := 1) rfl rfl rfl rfl (.plain rfl) (T_assign rfl rfl) rfl ?_
  refine k_done rfl ?_
  refine thenK_n ?_
  refine W_seq ?_
  refine W_seq ?_
  refine W_seqK (b' := 50) rfl rfl ?_
  refine k_op0 (d := 8) (b := 34) (j' := 1) rfl rfl rfl rfl (.plain rfl) (T_assign rfl rfl) rfl ?_
  refine k_done rfl ?_
  refine thenK_n ?_
  refine W_block ?_
  refine W_loop (ι := Nat) 2 (fun j => ⟨[(0, .r 1), (1, .v (.int .i64 x)), (2, .v (.int .i64 y)), (7, .v (.int .i64 (sumLen (ps.take j) : Int))), (8, .v (.int .i64 (j : Int)))], [(1, .fz 1 (ps.map eIs))]⟩) (fun j => j ≤ ps.length ∧ (sumLen (ps.take j) : Int) ≤ 8000000000000000000) (fun j => ps.length - j) (0) (by exact ⟨Nat.zero_le _, by simp [sumLen]⟩) ?_ (fun j hJ => ?_)
  · exact ⟨[], .same rfl rfl (.eq rfl (.eq rfl (.eq rfl (.eq rfl (.nil) (by first | rfl | simp)) (by first | rfl | simp)) (by first | rfl | simp)) (by first | rfl | simp)), .fzE rfl (.nil) (by first | rfl | simp), rfl⟩
  have hq3 : j < ps.length → sumLen (ps.take (j + 1)) = sumLen (ps.take j) + (ps.getD j default).length := fun h => sumLen_take _ j h
  have hq4 := sumLen_take_le ps j
  have hq5 := fun h => hs (ps.getD j default) (getD_mem h)
  refine W_seq ?_
  refine W_seq ?_
  refine W_seqK (b' := 146) rfl rfl ?_
  refine k_op0 (d := 9) (b := 2) (j' := 1) rfl rfl rfl rfl (.plain rfl) (T_move rfl rfl) rfl ?_
  refine k_op0 (d := 10) (b := 18) (j' := 2) rfl rfl rfl rfl (.plain rfl) (T_move rfl rfl) rfl ?_
  refine k_op0 (d := 11) (b := 34) (j' := 3) rfl rfl rfl rfl (.plain rfl) (T_len D rfl rfl rfl rfl rfl rfl) rfl ?_
  refine k_op0 (d := 12) (b := 50) (j' := 4) rfl rfl rfl rfl (.plain rfl) (T_cmp rfl rfl rfl rfl) rfl ?_
  refine k_op0 (d := 13) (b := 66) (j' := 5) rfl rfl rfl rfl (.plain rfl) (T_move rfl rfl) rfl ?_
  refine k_split (d := 13) rfl (fun g1 => ?_) (fun g1 => ?_)
  · have h1 := g1; (try simp only [cmpB, decide_eq_true_eq, decide_eq_false_iff_not, beq_iff_eq, beq_eq_false_iff_ne, bne_iff_ne, ne_eq, bne_eq_false_iff_eq, Bool.not_eq_true', Bool.not_eq_false', Int.not_lt, Int.not_le] at h1)
    refine k_op0 (d := 14) (b := 82) (j' := 6) rfl rfl rfl rfl (g_tt rfl rfl rfl g1) (T_move rfl rfl) rfl ?_
    refine k_op0 (d := 15) (b := 98) (j' := 7) rfl rfl rfl rfl (g_tt rfl rfl rfl g1) (T_move rfl rfl) rfl ?_
    refine k_op0 (d := 16) (b := 114) (j' := 8) rfl rfl rfl rfl (g_tt rfl rfl rfl g1) (T_cmp rfl rfl rfl rfl) rfl ?_
    refine k_op0 (d := 17) (b := 130) (j' := 9) rfl rfl rfl rfl (.plain rfl) (T_pick_t rfl rfl rfl g1) rfl ?_
    refine k_done rfl ?_
    refine thenK_n ?_
    refine W_cond rfl (fun g2 => ?_) (fun g2 => ?_)
    · have h2 := g2; (try simp only [cmpB, decide_eq_true_eq, decide_eq_false_iff_not, beq_iff_eq, beq_eq_false_iff_ne, bne_iff_ne, ne_eq, bne_eq_false_iff_eq, Bool.not_eq_true', Bool.not_eq_false', Int.not_lt, Int.not_le] at h2)
      refine W_skip ?_
      refine thenK_n ?_
      refine W_seq ?_
      refine W_block ?_
      refine W_seqK (b' := 274) rfl rfl ?_
      refine k_op0 (d := 20) (b := 146) (j' := 1) rfl rfl rfl rfl (.plain rfl) (T_move rfl rfl) rfl ?_
      refine k_op0 (d := 21) (b := 162) (j' := 2) rfl rfl rfl rfl (.plain rfl) (T_move rfl rfl) rfl ?_
      refine k_op0 (d := 22) (b := 178) (j' := 3) rfl rfl rfl rfl (.plain rfl) (T_move rfl rfl) rfl ?_
      first | refine k_op0 (d := 23) (b := 194) (j' := 4) rfl rfl rfl rfl (.plain rfl) (T_indexAddr D rfl rfl rfl rfl rfl rfl rfl rfl (by first | assumption | omega | (have k2 := hq5 (by omega); omega) | (simp; omega))) rfl ?_ | refine k_op0 (d := 23) (b := 194) (j' := 4) rfl rfl rfl rfl (.plain rfl) (T_indexAddrZ D rfl rfl rfl rfl rfl rfl rfl rfl (by first | assumption | omega | (have k2 := hq5 (by omega); omega) | (simp; omega)) (by first | assumption | omega | (have k2 := hq5 (by omega); omega) | (simp; omega))) rfl ?_
      refine k_op1 (d := 24) (b := 210) (j' := 5) rfl rfl rfl rfl (.plain rfl) (T_ldE D (lv := .r 210) (nn := 1) (upd := [(210, .fz 1 _)]) rfl rfl rfl rfl rfl (by first | assumption | omega | (have k2 := hq5 (by omega); omega) | (simp; omega)) rfl rfl rfl rfl) rfl ?_
      refine k_op0 (d := 25) (b := 226) (j' := 6) rfl rfl rfl rfl (.plain rfl) (T_len D rfl rfl rfl rfl rfl rfl) rfl ?_
      refine k_op0 (d := 26) (b := 242) (j' := 7) rfl rfl rfl rfl (.plain rfl) (T_add64 rfl rfl rfl (by first | assumption | omega | (have k2 := hq5 (by omega); omega) | (simp; omega))) rfl ?_
      refine k_op0 (d := 7) (b := 258) (j' := 8) rfl rfl rfl rfl (.plain rfl) (T_assign rfl rfl) rfl ?_
      refine k_done rfl ?_
      refine blockK_n ?_
      refine thenK_n ?_
      refine W_seqK (b' := 322) rfl rfl ?_
      refine k_op0 (d := 18) (b := 274) (j' := 1) rfl rfl rfl rfl (.plain rfl) (T_move rfl rfl) rfl ?_
      refine k_op0 (d := 19) (b := 290) (j' := 2) rfl rfl rfl rfl (.plain rfl) (T_add64 rfl rfl rfl (by first | assumption | omega | (have k2 := hq5 (by omega); omega) | (simp; omega))) rfl ?_
      refine k_op0 (d := 8) (b := 306) (j' := 3) rfl rfl rfl rfl (.plain rfl) (T_assign rfl rfl) rfl ?_
      refine k_done rfl ?_
      refine thenK_n ?_
      refine ⟨j + 1, by (try dsimp only); (have k := hq3 (by omega); have k2 := hq5 (by omega); omega), by (try dsimp only); omega, ?_⟩
      exact ⟨[], .same rfl rfl (.eq rfl (.eq rfl (.eq rfl (.eq rfl (.nil) (by first | rfl | (rw [hq3 (by omega)]; rfl) | simp)) (by first | rfl | (rw [hq3 (by omega)]; rfl) | simp)) (by first | rfl | (rw [hq3 (by omega)]; rfl) | simp)) (by first | rfl | (rw [hq3 (by omega)]; rfl) | simp)), .fzE rfl (.nil) (by first | rfl | (rw [hq3 (by omega)]; rfl) | simp), rfl⟩
    · have h2 := g2; (try simp only [cmpB, decide_eq_true_eq, decide_eq_false_iff_not, beq_iff_eq, beq_eq_false_iff_ne, bne_iff_ne, ne_eq, bne_eq_false_iff_eq, Bool.not_eq_true', Bool.not_eq_false', Int.not_lt, Int.not_le] at h2)
      refine W_exit ?_
      refine thenK_e ?_
      refine thenK_e ?_
      refine blockK_hit ?_
      refine thenK_n ?_
      refine W_seq ?_
      refine W_seqK (b' := 306) rfl rfl ?_
      refine k_op0 (d := 27) (b := 146) (j' := 1) rfl rfl rfl rfl (.plain rfl) (T_move rfl rfl) rfl ?_
      refine k_op0 (d := 28) (b := 162) (j' := 2) rfl rfl rfl rfl (.plain rfl) (T_len D rfl rfl rfl rfl rfl rfl) rfl ?_
      refine k_op0 (d := 29) (b := 178) (j' := 3) rfl rfl rfl rfl (.plain rfl) (T_move rfl rfl) rfl ?_
      refine k_op0 (d := 30) (b := 194) (j' := 4) rfl rfl rfl rfl (.plain rfl) (T_cmp rfl rfl rfl rfl) rfl ?_
      refine k_op0 (d := 31) (b := 210) (j' := 5) rfl rfl rfl rfl (.plain rfl) (T_move rfl rfl) rfl ?_
      refine k_split (d := 31) rfl (fun g3 => ?_) (fun g3 => ?_)
      · have h3 := g3; (try simp only [cmpB, decide_eq_true_eq, decide_eq_false_iff_not, beq_iff_eq, beq_eq_false_iff_ne, bne_iff_ne, ne_eq, bne_eq_false_iff_eq, Bool.not_eq_true', Bool.not_eq_false', Int.not_lt, Int.not_le] at h3)
        refine k_op0 (d := 32) (b := 226) (j' := 6) rfl rfl rfl rfl (g_tt rfl rfl rfl g3) (T_move rfl rfl) rfl ?_
        refine k_op0 (d := 33) (b := 242) (j' := 7) rfl rfl rfl rfl (g_tt rfl rfl rfl g3) (T_move rfl rfl) rfl ?_
        refine k_op0 (d := 34) (b := 258) (j' := 8) rfl rfl rfl rfl (g_tt rfl rfl rfl g3) (T_cmp rfl rfl rfl rfl) rfl ?_
        refine k_op0 (d := 35) (b := 274) (j' := 9) rfl rfl rfl rfl (.plain rfl) (T_pick_t rfl rfl rfl g3) rfl ?_
        refine k_op0 (d := 6) (b := 290) (j' := 10) rfl rfl rfl rfl (.plain rfl) (T_assign rfl rfl) rfl ?_
        refine k_done rfl ?_
        refine thenK_n ?_
        refine W_ret ?_
        -- end 0
        exact .mk [] (.inr rfl) (.tmp rfl (.nil)) (by simp only [resLV, LV.ren, LV.v.injEq, Value.bool.injEq]; rw [decide_eq_false (p := (sumLen ps : Int) ≤ y) (by omega), Bool.and_false]; simp only [cmpB]; exact decide_eq_false (by omega)) (.nil) rfl
      · have h3 := g3; (try simp only [cmpB, decide_eq_true_eq, decide_eq_false_iff_not, beq_iff_eq, beq_eq_false_iff_ne, bne_iff_ne, ne_eq, bne_eq_false_iff_eq, Bool.not_eq_true', Bool.not_eq_false', Int.not_lt, Int.not_le] at h3)
        refine k_no (d := 32) (j' := 6) rfl rfl rfl (g_tf rfl rfl rfl g3) ?_
        refine k_no (d := 33) (j' := 7) rfl rfl rfl (g_tf rfl rfl rfl g3) ?_
        refine k_no (d := 34) (j' := 8) rfl rfl rfl (g_tf rfl rfl rfl g3) ?_
        refine k_op0 (d := 35) (b := 274) (j' := 9) rfl rfl rfl rfl (.plain rfl) (T_pick_f rfl rfl rfl g3) rfl ?_
        refine k_op0 (d := 6) (b := 290) (j' := 10) rfl rfl rfl rfl (.plain rfl) (T_assign rfl rfl) rfl ?_
        refine k_done rfl ?_
        refine thenK_n ?_
        refine W_ret ?_
        -- end 1
        exact .mk [] (.inr rfl) (.tmp rfl (.nil)) (by simp only [resLV, LV.ren, LV.v.injEq, Value.bool.injEq]; rw [decide_eq_false (p := (ps.length : Int) ≤ x) (by omega)]; rfl) (.nil) rfl
  · have h1 := g1; (try simp only [cmpB, decide_eq_true_eq, decide_eq_false_iff_not, beq_iff_eq, beq_eq_false_iff_ne, bne_iff_ne, ne_eq, bne_eq_false_iff_eq, Bool.not_eq_true', Bool.not_eq_false', Int.not_lt, Int.not_le] at h1)
    refine k_no (d := 14) (j' := 6) rfl rfl rfl (g_tf rfl rfl rfl g1) ?_
    refine k_no (d := 15) (j' := 7) rfl rfl rfl (g_tf rfl rfl rfl g1) ?_
    refine k_no (d := 16) (j' := 8) rfl rfl rfl (g_tf rfl rfl rfl g1) ?_
    refine k_op0 (d := 17) (b := 130) (j' := 9) rfl rfl rfl rfl (.plain rfl) (T_pick_f rfl rfl rfl g1) rfl ?_
    refine k_done rfl ?_
    refine thenK_n ?_
    refine W_cond rfl (fun g4 => ?_) (fun g4 => ?_)
    · exact absurd (g4.symm.trans rfl) (by decide)
    · skip
      refine W_exit ?_
      refine thenK_e ?_
      refine thenK_e ?_
      refine blockK_hit ?_
      refine thenK_n ?_
      refine W_seq ?_
      refine W_seqK (b' := 306) rfl rfl ?_
      refine k_op0 (d := 27) (b := 146) (j' := 1) rfl rfl rfl rfl (.plain rfl) (T_move rfl rfl) rfl ?_
      refine k_op0 (d := 28) (b := 162) (j' := 2) rfl rfl rfl rfl (.plain rfl) (T_len D rfl rfl rfl rfl rfl rfl) rfl ?_
      refine k_op0 (d := 29) (b := 178) (j' := 3) rfl rfl rfl rfl (.plain rfl) (T_move rfl rfl) rfl ?_
      refine k_op0 (d := 30) (b := 194) (j' := 4) rfl rfl rfl rfl (.plain rfl) (T_cmp rfl rfl rfl rfl) rfl ?_
      refine k_op0 (d := 31) (b := 210) (j' := 5) rfl rfl rfl rfl (.plain rfl) (T_move rfl rfl) rfl ?_
      refine k_split (d := 31) rfl (fun g5 => ?_) (fun g5 => ?_)
      · have h5 := g5; (try simp only [cmpB, decide_eq_true_eq, decide_eq_false_iff_not, beq_iff_eq, beq_eq_false_iff_ne, bne_iff_ne, ne_eq, bne_eq_false_iff_eq, Bool.not_eq_true', Bool.not_eq_false', Int.not_lt, Int.not_le] at h5)
        refine k_op0 (d := 32) (b := 226) (j' := 6) rfl rfl rfl rfl (g_tt rfl rfl rfl g5) (T_move rfl rfl) rfl ?_
        refine k_op0 (d := 33) (b := 242) (j' := 7) rfl rfl rfl rfl (g_tt rfl rfl rfl g5) (T_move rfl rfl) rfl ?_
        refine k_op0 (d := 34) (b := 258) (j' := 8) rfl rfl rfl rfl (g_tt rfl rfl rfl g5) (T_cmp rfl rfl rfl rfl) rfl ?_
        refine k_op0 (d := 35) (b := 274) (j' := 9) rfl rfl rfl rfl (.plain rfl) (T_pick_t rfl rfl rfl g5) rfl ?_
        refine k_op0 (d := 6) (b := 290) (j' := 10) rfl rfl rfl rfl (.plain rfl) (T_assign rfl rfl) rfl ?_
        refine k_done rfl ?_
        refine thenK_n ?_
        refine W_ret ?_
        -- end 2
        exact .mk [] (.inr rfl) (.tmp rfl (.nil)) (by simp only [resLV, LV.ren, LV.v.injEq, Value.bool.injEq]; have e : j = ps.length := (by omega); subst e; rw [decide_eq_true (by omega), List.take_of_length_le (Nat.le_refl _)]; rfl) (.nil) rfl
      · have h5 := g5; (try simp only [cmpB, decide_eq_true_eq, decide_eq_false_iff_not, beq_iff_eq, beq_eq_false_iff_ne, bne_iff_ne, ne_eq, bne_eq_false_iff_eq, Bool.not_eq_true', Bool.not_eq_false', Int.not_lt, Int.not_le] at h5)
        refine k_no (d := 32) (j' := 6) rfl rfl rfl (g_tf rfl rfl rfl g5) ?_
        refine k_no (d := 33) (j' := 7) rfl rfl rfl (g_tf rfl rfl rfl g5) ?_
        refine k_no (d := 34) (j' := 8) rfl rfl rfl (g_tf rfl rfl rfl g5) ?_
        refine k_op0 (d := 35) (b := 274) (j' := 9) rfl rfl rfl rfl (.plain rfl) (T_pick_f rfl rfl rfl g5) rfl ?_
        refine k_op0 (d := 6) (b := 290) (j' := 10) rfl rfl rfl rfl (.plain rfl) (T_assign rfl rfl) rfl ?_
        refine k_done rfl ?_
        refine thenK_n ?_
        refine W_ret ?_
        -- end 3
        exact .mk [] (.inr rfl) (.tmp rfl (.nil)) (by simp only [resLV, LV.ren, LV.v.injEq, Value.bool.injEq]; rw [decide_eq_false (p := (ps.length : Int) ≤ x) (by omega)]; rfl) (.nil) rfl

theorem body117 : (Try.prog.funcs[117]?).map (fun fn => (fn.name == "runtime.NumGoroutine" || fn.body.isNone)) = some false := by kernel_rfl
theorem equal_spec (a b : List GTac) (ha : a.length ≤ 1000000) : Spec Try.prog 117 [.r 1, .r 2] 3 [(1, .fz 8 (a.map eTac)), (2, .fz 8 (b.map eTac))] (.v (.bool (decide (a = b)))) 3 [] := by
  refine spec_of D (fn := Try.f117) rfl rfl (Nat.le_of_ble_eq_true rfl) ?_
  refine W_seq ?_
  refine W_seqK (b' := 19) rfl rfl ?_
  refine k_op0 (d := 4) (b := 3) (j' := 1) rfl rfl rfl rfl (.plain rfl) (T_assign rfl rfl) rfl ?_
  refine k_done rfl ?_
  refine thenK_n ?_
  refine W_seq ?_
  refine W_seq ?_
  refine W_seqK (b' := 99) rfl rfl ?_
  refine k_op0 (d := 6) (b := 19) (j' := 1) rfl rfl rfl rfl (.plain rfl) (T_move rfl rfl) rfl ?_
  refine k_op0 (d := 7) (b := 35) (j' := 2) rfl rfl rfl rfl (.plain rfl) (T_len D rfl rfl rfl rfl rfl rfl) rfl ?_
  refine k_op0 (d := 8) (b := 51) (j' := 3) rfl rfl rfl rfl (.plain rfl) (T_move rfl rfl) rfl ?_
  refine k_op0 (d := 9) (b := 67) (j' := 4) rfl rfl rfl rfl (.plain rfl) (T_len D rfl rfl rfl rfl rfl rfl) rfl ?_
  refine k_op0 (d := 10) (b := 83) (j' := 5) rfl rfl rfl rfl (.plain rfl) (T_cmp rfl rfl rfl rfl) rfl ?_
  refine k_done rfl ?_
  refine thenK_n ?_
  refine W_cond rfl (fun g1 => ?_) (fun g1 => ?_)
  · have h1 := g1; (try simp only [cmpB, decide_eq_true_eq, decide_eq_false_iff_not, beq_iff_eq, beq_eq_false_iff_ne, bne_iff_ne, ne_eq, bne_eq_false_iff_eq, Bool.not_eq_true', Bool.not_eq_false', Int.not_lt, Int.not_le] at h1)
    refine W_seq ?_
    refine W_seqK (b' := 115) rfl rfl ?_
    refine k_op0 (d := 4) (b := 99) (j' := 1) rfl rfl rfl rfl (.plain rfl) (T_assign rfl rfl) rfl ?_
    refine k_done rfl ?_
    refine thenK_n ?_
    refine W_ret ?_
    refine thenK_r ?_
    -- end 0
    exact .mk [] (.inr rfl) (.tmp rfl (.nil)) (by simp only [Value.bool.injEq, LV.v.injEq, resLV, LV.ren]; exact (decide_eq_false (ne_of_len h1)).symm) (.nil) rfl
  · have h1 := g1; (try simp only [cmpB, decide_eq_true_eq, decide_eq_false_iff_not, beq_iff_eq, beq_eq_false_iff_ne, bne_iff_ne, ne_eq, bne_eq_false_iff_eq, Bool.not_eq_true', Bool.not_eq_false', Int.not_lt, Int.not_le] at h1)
    refine W_skip ?_
    refine thenK_n ?_
    refine W_seq ?_
    refine W_seq ?_
    refine W_seqK (b' := 147) rfl rfl ?_
    refine k_op0 (d := 11) (b := 99) (j' := 1) rfl rfl rfl rfl (.plain rfl) (T_move rfl rfl) rfl ?_
    refine k_op0 (d := 12) (b := 115) (j' := 2) rfl rfl rfl rfl (.plain rfl) (T_len D rfl rfl rfl rfl rfl rfl) rfl ?_
    refine k_op0 (d := 13) (b := 131) (j' := 3) rfl rfl rfl rfl (.plain rfl) (T_move rfl rfl) rfl ?_
    refine k_done rfl ?_
    refine thenK_n ?_
    refine W_block ?_
    refine W_loop (ι := Nat) 3 (fun j => ⟨[(0, .r 1), (1, .r 2), (12, .v (.int .i64 (a.length : Int))), (13, .v (.int .i64 (j : Int)))], [(1, .fz 8 (a.map eTac)), (2, .fz 8 (b.map eTac))]⟩) (fun j => j ≤ a.length ∧ ∀ i, i < j → a.getD i default = b.getD i default) (fun j => a.length - j) (0) (by exact ⟨Nat.zero_le _, fun i h => absurd h (Nat.not_lt_zero _)⟩) ?_ (fun j hJ => ?_)
    · exact ⟨[], .same rfl rfl (.same rfl rfl (.eq rfl (.eq rfl (.nil) (by first | rfl | simp)) (by first | rfl | simp))), .fzE rfl (.fzE rfl (.nil) (by first | rfl | simp)) (by first | rfl | simp), rfl⟩
    refine W_seq ?_
    refine W_seqK (b' := 19) rfl rfl ?_
    refine k_op0 (d := 14) (b := 3) (j' := 1) rfl rfl rfl rfl (.plain rfl) (T_cmp rfl rfl rfl rfl) rfl ?_
    refine k_done rfl ?_
    refine thenK_n ?_
    refine W_seq ?_
    refine W_cond rfl (fun g2 => ?_) (fun g2 => ?_)
    · have h2 := g2; (try simp only [cmpB, decide_eq_true_eq, decide_eq_false_iff_not, beq_iff_eq, beq_eq_false_iff_ne, bne_iff_ne, ne_eq, bne_eq_false_iff_eq, Bool.not_eq_true', Bool.not_eq_false', Int.not_lt, Int.not_le] at h2)
      refine W_skip ?_
      refine thenK_n ?_
      refine W_seq ?_
      refine W_block ?_
      refine W_seq ?_
      refine W_seqK (b' := 51) rfl rfl ?_
      refine k_op0 (d := 15) (b := 19) (j' := 1) rfl rfl rfl rfl (.plain rfl) (T_move rfl rfl) rfl ?_
      refine k_op0 (d := 5) (b := 35) (j' := 2) rfl rfl rfl rfl (.plain rfl) (T_assign rfl rfl) rfl ?_
      refine k_done rfl ?_
      refine thenK_n ?_
      refine W_seq ?_
      refine W_anyK (b' := 195) rfl rfl rfl ?_
      refine k_op0 (d := 16) (b := 51) (j' := 1) rfl rfl rfl rfl (.plain rfl) (T_move rfl rfl) rfl ?_
      refine k_op0 (d := 17) (b := 67) (j' := 2) rfl rfl rfl rfl (.plain rfl) (T_move rfl rfl) rfl ?_
      first | refine k_op0 (d := 18) (b := 83) (j' := 3) rfl rfl rfl rfl (.plain rfl) (T_indexAddr D rfl rfl rfl rfl rfl rfl rfl rfl (by first | assumption | omega | (simp; omega))) rfl ?_ | refine k_op0 (d := 18) (b := 83) (j' := 3) rfl rfl rfl rfl (.plain rfl) (T_indexAddrZ D rfl rfl rfl rfl rfl rfl rfl rfl (by first | assumption | omega | (simp; omega)) (by first | assumption | omega | (simp; omega))) rfl ?_
      refine k_op0 (d := 19) (b := 99) (j' := 4) rfl rfl rfl rfl (.plain rfl) (T_ldEA D (l := [.v _, .v _, .v _, .v _, .v _, .v _, .v _, .v _]) (nn := 0) (upd := []) rfl rfl rfl rfl rfl (by first | assumption | omega | (simp; omega)) rfl rfl rfl rfl rfl) rfl ?_
      refine k_op0 (d := 20) (b := 115) (j' := 5) rfl rfl rfl rfl (.plain rfl) (T_move rfl rfl) rfl ?_
      refine k_op0 (d := 21) (b := 131) (j' := 6) rfl rfl rfl rfl (.plain rfl) (T_move rfl rfl) rfl ?_
      first | refine k_op0 (d := 22) (b := 147) (j' := 7) rfl rfl rfl rfl (.plain rfl) (T_indexAddr D rfl rfl rfl rfl rfl rfl rfl rfl (by first | assumption | omega | (simp; omega))) rfl ?_ | refine k_op0 (d := 22) (b := 147) (j' := 7) rfl rfl rfl rfl (.plain rfl) (T_indexAddrZ D rfl rfl rfl rfl rfl rfl rfl rfl (by first | assumption | omega | (simp; omega)) (by first | assumption | omega | (simp; omega))) rfl ?_
      refine k_op0 (d := 23) (b := 163) (j' := 8) rfl rfl rfl rfl (.plain rfl) (T_ldEA D (l := [.v _, .v _, .v _, .v _, .v _, .v _, .v _, .v _]) (nn := 0) (upd := []) rfl rfl rfl rfl rfl (by first | assumption | omega | (simp; omega)) rfl rfl rfl rfl rfl) rfl ?_
      refine k_op0 (d := 24) (b := 179) (j' := 9) rfl rfl rfl rfl (.plain rfl) (T_eqTacN (a.getD j default) (b.getD j default) rfl rfl rfl) rfl ?_
      refine k_done rfl ?_
      refine ⟨rfl, ?_⟩
      refine thenK_n ?_
      refine W_cond rfl (fun g3 => ?_) (fun g3 => ?_)
      · have h3 := g3; (try simp only [cmpB, decide_eq_true_eq, decide_eq_false_iff_not, beq_iff_eq, beq_eq_false_iff_ne, bne_iff_ne, ne_eq, bne_eq_false_iff_eq, Bool.not_eq_true', Bool.not_eq_false', Int.not_lt, Int.not_le] at h3)
        refine W_seq ?_
        refine W_seqK (b' := 211) rfl rfl ?_
        refine k_op0 (d := 4) (b := 195) (j' := 1) rfl rfl rfl rfl (.plain rfl) (T_assign rfl rfl) rfl ?_
        refine k_done rfl ?_
        refine thenK_n ?_
        refine W_ret ?_
        refine blockK_r ?_
        refine thenK_r ?_
        refine thenK_r ?_
        refine blockK_r ?_
        refine thenK_r ?_
        -- end 1
        exact .mk [] (.inr rfl) (.tmp rfl (.nil)) (by simp only [Value.bool.injEq, LV.v.injEq, resLV, LV.ren]; exact (decide_eq_false (ne_of_getD (by simpa using h3))).symm) (.nil) rfl
      · have h3 := g3; (try simp only [cmpB, decide_eq_true_eq, decide_eq_false_iff_not, beq_iff_eq, beq_eq_false_iff_ne, bne_iff_ne, ne_eq, bne_eq_false_iff_eq, Bool.not_eq_true', Bool.not_eq_false', Int.not_lt, Int.not_le] at h3)
        refine W_skip ?_
        refine blockK_n ?_
        refine thenK_n ?_
        refine W_seqK (b' := 227) rfl rfl ?_
        refine k_op0 (d := 25) (b := 195) (j' := 1) rfl rfl rfl rfl (.plain rfl) (T_add64 rfl rfl rfl (by first | assumption | omega | (simp; omega))) rfl ?_
        refine k_op0 (d := 13) (b := 211) (j' := 2) rfl rfl rfl rfl (.plain rfl) (T_move rfl rfl) rfl ?_
        refine k_done rfl ?_
        refine thenK_n ?_
        refine ⟨j + 1, by (try dsimp only); exact ⟨by omega, fun i hi => by rcases Nat.lt_or_ge i j with h | h; exact hJ.2 i h; rw [show i = j by omega]; simpa using h3⟩, by (try dsimp only); omega, ?_⟩
        exact ⟨[], .same rfl rfl (.same rfl rfl (.eq rfl (.eq rfl (.nil) (by first | rfl | simp)) (by first | rfl | simp))), .fzE rfl (.fzE rfl (.nil) (by first | rfl | simp)) (by first | rfl | simp), rfl⟩
    · have h2 := g2; (try simp only [cmpB, decide_eq_true_eq, decide_eq_false_iff_not, beq_iff_eq, beq_eq_false_iff_ne, bne_iff_ne, ne_eq, bne_eq_false_iff_eq, Bool.not_eq_true', Bool.not_eq_false', Int.not_lt, Int.not_le] at h2)
      refine W_exit ?_
      refine thenK_e ?_
      refine thenK_e ?_
      refine blockK_hit ?_
      refine thenK_n ?_
      refine W_seq ?_
      refine W_seqK (b' := 35) rfl rfl ?_
      refine k_op0 (d := 4) (b := 19) (j' := 1) rfl rfl rfl rfl (.plain rfl) (T_assign rfl rfl) rfl ?_
      refine k_done rfl ?_
      refine thenK_n ?_
      refine W_ret ?_
      -- end 2
      exact .mk [] (.inr rfl) (.tmp rfl (.nil)) (by simp only [Value.bool.injEq, LV.v.injEq, resLV, LV.ren]; exact (decide_eq_true (ext_getD (by omega) (fun i hi => hJ.2 i (by omega)))).symm) (.nil) rfl

theorem body74 : (Try.prog.funcs[74]?).map (fun fn => (fn.name == "runtime.NumGoroutine" || fn.body.isNone)) = some false := by kernel_rfl
theorem check1_spec (k : Int) (f : GFn) : Spec Try.prog 74 [.v (.int .i64 k), .p 1 0] 3 [(1, .box 29 [.v (.int .i64 f.regs), .r 2]), (2, .fz 5 (f.blocks.map eBlock))] (.v (.bool (decide (k < 0) || decide (k ≥ (f.blocks.length : Int))))) 3 [(1, .box 29 [.v (.int .i64 f.regs), .r 2])] := by
  refine spec_of D (fn := Try.f74) rfl rfl (Nat.le_of_ble_eq_true rfl) ?_
  refine W_seq ?_
  refine W_seqK (b' := 19) rfl rfl ?_
  refine k_op0 (d := 3) (b := 3) (j' := 1) rfl rfl rfl rfl (.plain rfl) (T_assign rfl rfl) rfl ?_
  refine k_done rfl ?_
  refine thenK_n ?_
  refine W_seq ?_
  refine W_seqK (b' := 179) rfl rfl ?_
  refine k_op0 (d := 4) (b := 19) (j' := 1) rfl rfl rfl rfl (.plain rfl) (T_move rfl rfl) rfl ?_
  refine k_op0 (d := 5) (b := 35) (j' := 2) rfl rfl rfl rfl (.plain rfl) (T_cmp rfl rfl rfl rfl) rfl ?_
  refine k_op0 (d := 6) (b := 51) (j' := 3) rfl rfl rfl rfl (.plain rfl) (T_move rfl rfl) rfl ?_
  refine k_split (d := 6) rfl (fun g1 => ?_) (fun g1 => ?_)
  · have h1 := g1; (try simp only [cmpB, decide_eq_true_eq, decide_eq_false_iff_not, beq_iff_eq, beq_eq_false_iff_ne, bne_iff_ne, ne_eq, bne_eq_false_iff_eq, Bool.not_eq_true', Bool.not_eq_false', Int.not_lt, Int.not_le] at h1)
    refine k_no (d := 7) (j' := 4) rfl rfl rfl (g_ft rfl rfl rfl g1) ?_
    refine k_no (d := 8) (j' := 5) rfl rfl rfl (g_ft rfl rfl rfl g1) ?_
    refine k_no (d := 9) (j' := 6) rfl rfl rfl (g_ft rfl rfl rfl g1) ?_
    refine k_no (d := 10) (j' := 7) rfl rfl rfl (g_ft rfl rfl rfl g1) ?_
    refine k_no (d := 11) (j' := 8) rfl rfl rfl (g_ft rfl rfl rfl g1) ?_
    refine k_op0 (d := 12) (b := 147) (j' := 9) rfl rfl rfl rfl (.plain rfl) (T_pick_t rfl rfl rfl g1) rfl ?_
    refine k_op0 (d := 3) (b := 163) (j' := 10) rfl rfl rfl rfl (.plain rfl) (T_assign rfl rfl) rfl ?_
    refine k_done rfl ?_
    refine thenK_n ?_
    refine W_ret ?_
    -- end 0
    exact .mk [] (.inr rfl) (.tmp rfl (.nil)) (by first | rfl | (simp only [resLV, LV.ren, LV.v.injEq, Value.bool.injEq]; rw [decide_eq_true (by omega)]; rfl)) (.box (by first | rfl | (simp only [resLV, LV.ren, LV.v.injEq, Value.bool.injEq]; rw [decide_eq_true (by omega)]; rfl)) (.nil)) rfl
  · have h1 := g1; (try simp only [cmpB, decide_eq_true_eq, decide_eq_false_iff_not, beq_iff_eq, beq_eq_false_iff_ne, bne_iff_ne, ne_eq, bne_eq_false_iff_eq, Bool.not_eq_true', Bool.not_eq_false', Int.not_lt, Int.not_le] at h1)
    refine k_op0 (d := 7) (b := 67) (j' := 4) rfl rfl rfl rfl (g_ff rfl rfl rfl g1) (T_move rfl rfl) rfl ?_
    refine k_op0 (d := 8) (b := 83) (j' := 5) rfl rfl rfl rfl (g_ff rfl rfl rfl g1) (T_fa D (m := 1) rfl rfl rfl rfl rfl rfl) rfl ?_
    refine k_op0 (d := 9) (b := 99) (j' := 6) rfl rfl rfl rfl (g_ff rfl rfl rfl g1) (T_load_b D rfl rfl rfl rfl rfl rfl) rfl ?_
    refine k_op0 (d := 10) (b := 115) (j' := 7) rfl rfl rfl rfl (g_ff rfl rfl rfl g1) (T_len D rfl rfl rfl rfl rfl rfl) rfl ?_
    refine k_op0 (d := 11) (b := 131) (j' := 8) rfl rfl rfl rfl (g_ff rfl rfl rfl g1) (T_cmp rfl rfl rfl rfl) rfl ?_
    refine k_op0 (d := 12) (b := 147) (j' := 9) rfl rfl rfl rfl (.plain rfl) (T_pick_f rfl rfl rfl g1) rfl ?_
    refine k_op0 (d := 3) (b := 163) (j' := 10) rfl rfl rfl rfl (.plain rfl) (T_assign rfl rfl) rfl ?_
    refine k_done rfl ?_
    refine thenK_n ?_
    refine W_ret ?_
    -- end 1
    exact .mk [] (.inr rfl) (.tmp rfl (.nil)) (by first | rfl | (simp only [resLV, LV.ren, LV.v.injEq, Value.bool.injEq]; rw [decide_eq_false (p := k < 0) (by omega)]; rfl)) (.box (by first | rfl | (simp only [resLV, LV.ren, LV.v.injEq, Value.bool.injEq]; rw [decide_eq_false (p := k < 0) (by omega)]; rfl)) (.nil)) rfl
end Lg
end Go.Proofs.Ytpfhmodjjljpjaa
