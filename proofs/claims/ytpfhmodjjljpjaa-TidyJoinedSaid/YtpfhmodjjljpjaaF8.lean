import Derived.Test.YtpfhmodjjljpjaaF7
namespace Go.Proofs.Ytpfhmodjjljpjaa
open Go.RowKit
namespace Lg
set_option maxRecDepth 100000
set_option linter.unusedVariables false
set_option linter.unusedSimpArgs false



theorem body69 : (Try.prog.funcs[69]?).map (fun fn => (fn.name == "runtime.NumGoroutine" || fn.body.isNone)) = some false := by kernel_rfl
theorem begins_spec (p : List Int) (old : Int) (hp : 1 ≤ p.length) : Spec Try.prog 69 [.r 1, .p 2 0] 3 [(1, .fz 1 (p.map eI)), (2, .box 3 [.v (.int .i64 old)])] (.v (.bool (p.getD 0 default == old))) 3 [(2, .box 3 [.v (.int .i64 old)])] := by
  refine spec_of D (fn := Try.f69) rfl rfl (Nat.le_of_ble_eq_true rfl) ?_
  refine W_seq ?_
  refine W_seqK (b' := 19) rfl rfl ?_
  refine k_op0 (d := 3) (b := 3) (j' := 1) rfl rfl rfl rfl (.plain rfl) (T_assign rfl rfl) rfl ?_
  refine k_done rfl ?_
  refine thenK_n ?_
  refine W_seq ?_
  refine W_anyK (b' := 115) rfl rfl rfl ?_
  refine k_op0 (d := 4) (b := 19) (j' := 1) rfl rfl rfl rfl (.plain rfl) (T_move rfl rfl) rfl ?_
  first | refine k_op0 (d := 5) (b := 35) (j' := 2) rfl rfl rfl rfl (.plain rfl) (T_indexAddr D rfl rfl rfl rfl rfl rfl rfl rfl (by first | assumption | omega | (simp; omega))) rfl ?_ | refine k_op0 (d := 5) (b := 35) (j' := 2) rfl rfl rfl rfl (.plain rfl) (T_indexAddrZ D rfl rfl rfl rfl rfl rfl rfl rfl (by first | assumption | omega | (simp; omega)) (by first | assumption | omega | (simp; omega))) rfl ?_
  refine k_op0 (d := 6) (b := 51) (j' := 3) rfl rfl rfl rfl (.plain rfl) (T_ldE D (lv := .v _) (nn := 0) (upd := []) rfl rfl rfl rfl rfl (by first | assumption | omega | (simp; omega)) rfl rfl rfl rfl) rfl ?_
  refine k_op0 (d := 7) (b := 67) (j' := 4) rfl rfl rfl rfl (.plain rfl) (T_load_b D rfl rfl rfl rfl rfl rfl) rfl ?_
  refine k_op0 (d := 8) (b := 83) (j' := 5) rfl rfl rfl rfl (.plain rfl) (T_cmp rfl rfl rfl rfl) rfl ?_
  refine k_op0 (d := 3) (b := 99) (j' := 6) rfl rfl rfl rfl (.plain rfl) (T_assign rfl rfl) rfl ?_
  refine k_done rfl ?_
  refine ⟨rfl, ?_⟩
  refine thenK_n ?_
  refine W_ret ?_
  -- end 0
  exact .mk [] (.inr rfl) (.tmp rfl (.nil)) (by first | rfl | simp) (.box (by first | rfl | simp) (.nil)) rfl

theorem body68 : (Try.prog.funcs[68]?).map (fun fn => (fn.name == "runtime.NumGoroutine" || fn.body.isNone)) = some false := by kernel_rfl
theorem head_spec (ps : List (List Int)) (old : Int) (hl : ps.length ≤ 1000000000) (hps : ∀ p ∈ ps, 1 ≤ p.length) : Spec Try.prog 68 [.r 1, .fn 69 [.p 2 0]] 3 [(1, .fz 1 (ps.map eIs)), (2, .box 3 [.v (.int .i64 old)])] (.v (.int .i64 (fstIdx (fun p => p.getD 0 default == old) ps))) 3 [(2, .box 3 [.v (.int .i64 old)])] := by
  refine spec_of D (fn := Try.f68) rfl rfl (Nat.le_of_ble_eq_true rfl) ?_
  refine W_seq ?_
  refine W_seqK (b' := 19) rfl rfl ?_
  refine k_op0 (d := 4) (b := 3) (j' := 1) rfl rfl rfl rfl (.plain rfl) (T_assign rfl rfl) rfl ?_
  refine k_done rfl ?_
  refine thenK_n ?_
  refine W_seq ?_
  refine W_seq ?_
  refine W_seqK (b' := 67) rfl rfl ?_
  refine k_op0 (d := 6) (b := 19) (j' := 1) rfl rfl rfl rfl (.plain rfl) (T_move rfl rfl) rfl ?_
  refine k_op0 (d := 7) (b := 35) (j' := 2) rfl rfl rfl rfl (.plain rfl) (T_len D rfl rfl rfl rfl rfl rfl) rfl ?_
  refine k_op0 (d := 8) (b := 51) (j' := 3) rfl rfl rfl rfl (.plain rfl) (T_move rfl rfl) rfl ?_
  refine k_done rfl ?_
  refine thenK_n ?_
  refine W_block ?_
  refine W_loop (ι := Nat) 3 (fun j => ⟨[(0, .r 1), (1, .fn 69 [.p 2 0]), (7, .v (.int .i64 (ps.length : Int))), (8, .v (.int .i64 (j : Int)))], [(1, .fz 1 (ps.map eIs)), (2, .box 3 [.v (.int .i64 old)])]⟩) (fun j => j ≤ ps.length ∧ ∀ i, i < j → ((ps.getD i default).getD 0 default == old) = false) (fun j => ps.length - j) (0) (by exact ⟨Nat.zero_le _, fun i h => absurd h (Nat.not_lt_zero _)⟩) ?_ (fun j hJ => ?_)
  · exact ⟨[], .same rfl rfl (.same rfl rfl (.eq rfl (.eq rfl (.nil) (by first | rfl | simp)) (by first | rfl | simp))), .fzE rfl (.box (by first | rfl | simp) (.nil)) (by first | rfl | simp), rfl⟩
  refine W_seq ?_
  refine W_seqK (b' := 19) rfl rfl ?_
  refine k_op0 (d := 9) (b := 3) (j' := 1) rfl rfl rfl rfl (.plain rfl) (T_cmp rfl rfl rfl rfl) rfl ?_
  refine k_done rfl ?_
  refine thenK_n ?_
  refine W_seq ?_
  refine W_cond rfl (fun g1 => ?_) (fun g1 => ?_)
  · have h1 := g1; (try simp only [cmpB, decide_eq_true_eq, decide_eq_false_iff_not, beq_iff_eq, beq_eq_false_iff_ne, bne_iff_ne, ne_eq, bne_eq_false_iff_eq, Bool.not_eq_true', Bool.not_eq_false', Int.not_lt, Int.not_le] at h1)
    refine W_skip ?_
    refine thenK_n ?_
    refine W_seq ?_
    refine W_block ?_
    refine W_seq ?_
    refine W_seqK (b' := 51) rfl rfl ?_
    refine k_op0 (d := 10) (b := 19) (j' := 1) rfl rfl rfl rfl (.plain rfl) (T_move rfl rfl) rfl ?_
    refine k_op0 (d := 5) (b := 35) (j' := 2) rfl rfl rfl rfl (.plain rfl) (T_assign rfl rfl) rfl ?_
    refine k_done rfl ?_
    refine thenK_n ?_
    refine W_seq ?_
    refine W_seqK (b' := 147) rfl rfl ?_
    refine k_op0 (d := 11) (b := 51) (j' := 1) rfl rfl rfl rfl (.plain rfl) (T_move rfl rfl) rfl ?_
    refine k_op0 (d := 12) (b := 67) (j' := 2) rfl rfl rfl rfl (.plain rfl) (T_move rfl rfl) rfl ?_
    refine k_op0 (d := 13) (b := 83) (j' := 3) rfl rfl rfl rfl (.plain rfl) (T_move rfl rfl) rfl ?_
    first | refine k_op0 (d := 14) (b := 99) (j' := 4) rfl rfl rfl rfl (.plain rfl) (T_indexAddr D rfl rfl rfl rfl rfl rfl rfl rfl (by first | assumption | omega | (simp; omega))) rfl ?_ | refine k_op0 (d := 14) (b := 99) (j' := 4) rfl rfl rfl rfl (.plain rfl) (T_indexAddrZ D rfl rfl rfl rfl rfl rfl rfl rfl (by first | assumption | omega | (simp; omega)) (by first | assumption | omega | (simp; omega))) rfl ?_
    refine k_op1 (d := 15) (b := 115) (j' := 5) rfl rfl rfl rfl (.plain rfl) (T_ldE D (lv := .r 115) (nn := 1) (upd := [(115, .fz 1 _)]) rfl rfl rfl rfl rfl (by first | assumption | omega | (simp; omega)) rfl rfl rfl rfl) rfl ?_
    refine k_op1 (d := 16) (b := 131) (j' := 6) rfl rfl rfl rfl (.plain rfl) (T_call (lvs := [_]) (L := [(1, 115), (2, 2)]) (lv := .v _) (upd := [(2, .box 3 [.v _])]) (nn := 0) false (begins_spec _ _ (hps _ (getD_mem (by omega)))) body69 rfl rfl rfl rfl (.fz rfl (.box rfl (.nil))) rfl (.inl rfl) rfl rfl rfl) rfl ?_
    refine k_done rfl ?_
    refine thenK_n ?_
    refine W_cond rfl (fun g2 => ?_) (fun g2 => ?_)
    · have h2 := g2; (try simp only [cmpB, decide_eq_true_eq, decide_eq_false_iff_not, beq_iff_eq, beq_eq_false_iff_ne, bne_iff_ne, ne_eq, bne_eq_false_iff_eq, Bool.not_eq_true', Bool.not_eq_false', Int.not_lt, Int.not_le] at h2)
      refine W_seq ?_
      refine W_seqK (b' := 179) rfl rfl ?_
      refine k_op0 (d := 17) (b := 147) (j' := 1) rfl rfl rfl rfl (.plain rfl) (T_move rfl rfl) rfl ?_
      refine k_op0 (d := 4) (b := 163) (j' := 2) rfl rfl rfl rfl (.plain rfl) (T_assign rfl rfl) rfl ?_
      refine k_done rfl ?_
      refine thenK_n ?_
      refine W_ret ?_
      refine blockK_r ?_
      refine thenK_r ?_
      refine thenK_r ?_
      refine blockK_r ?_
      refine thenK_r ?_
      -- end 0
      exact .mk [] (.inr rfl) (.tmp rfl (.nil)) (by first | rfl | (simp only [resLV, LV.ren, LV.v.injEq, Value.int.injEq, true_and]; exact (fstIdx_hit (fun p : List Int => p.getD 0 default == old) _ (by omega) g2 (fun i hi => hJ.2 i hi)).symm)) (.box (by first | rfl | (simp only [resLV, LV.ren, LV.v.injEq, Value.int.injEq, true_and]; exact (fstIdx_hit (fun p : List Int => p.getD 0 default == old) _ (by omega) g2 (fun i hi => hJ.2 i hi)).symm)) (.nil)) rfl
    · have h2 := g2; (try simp only [cmpB, decide_eq_true_eq, decide_eq_false_iff_not, beq_iff_eq, beq_eq_false_iff_ne, bne_iff_ne, ne_eq, bne_eq_false_iff_eq, Bool.not_eq_true', Bool.not_eq_false', Int.not_lt, Int.not_le] at h2)
      refine W_skip ?_
      refine blockK_n ?_
      refine thenK_n ?_
      refine W_seqK (b' := 179) rfl rfl ?_
      refine k_op0 (d := 18) (b := 147) (j' := 1) rfl rfl rfl rfl (.plain rfl) (T_add64 rfl rfl rfl (by first | assumption | omega | (simp; omega))) rfl ?_
      refine k_op0 (d := 8) (b := 163) (j' := 2) rfl rfl rfl rfl (.plain rfl) (T_move rfl rfl) rfl ?_
      refine k_done rfl ?_
      refine thenK_n ?_
      refine ⟨j + 1, by (try dsimp only); exact ⟨by omega, fun i hi => by rcases Nat.lt_or_ge i j with h | h; exact hJ.2 i h; rw [show i = j by omega]; exact g2⟩, by (try dsimp only); omega, ?_⟩
      exact ⟨[], .same rfl rfl (.same rfl rfl (.eq rfl (.eq rfl (.nil) (by first | rfl | simp)) (by first | rfl | simp))), .fzE rfl (.box (by first | rfl | simp) (.nil)) (by first | rfl | simp), rfl⟩
  · have h1 := g1; (try simp only [cmpB, decide_eq_true_eq, decide_eq_false_iff_not, beq_iff_eq, beq_eq_false_iff_ne, bne_iff_ne, ne_eq, bne_eq_false_iff_eq, Bool.not_eq_true', Bool.not_eq_false', Int.not_lt, Int.not_le] at h1)
    refine W_exit ?_
    refine thenK_e ?_
    refine thenK_e ?_
    refine blockK_hit ?_
    refine thenK_n ?_
    refine W_seq ?_
    refine W_seqK (b' := 35) rfl rfl ?_
    refine k_op0 (d := 4) (b := 19) (j' := 1) rfl rfl rfl rfl (.plain rfl) (T_assign rfl rfl) rfl ?_
    refine k_done rfl ?_
    refine thenK_n ?_
    refine W_ret ?_
    -- end 1
    exact .mk [] (.inr rfl) (.tmp rfl (.nil)) (by first | rfl | (simp only [resLV, LV.ren, LV.v.injEq, Value.int.injEq, true_and]; exact (fstIdx_none (fun p : List Int => p.getD 0 default == old) _ (fun i hi => hJ.2 i (by omega))).symm)) (.box (by first | rfl | (simp only [resLV, LV.ren, LV.v.injEq, Value.int.injEq, true_and]; exact (fstIdx_none (fun p : List Int => p.getD 0 default == old) _ (fun i hi => hJ.2 i (by omega))).symm)) (.nil)) rfl

theorem body67 : (Try.prog.funcs[67]?).map (fun fn => (fn.name == "runtime.NumGoroutine" || fn.body.isNone)) = some false := by kernel_rfl
theorem of1_spec (ps : List (List Int)) (old : Int) (hl : ps.length ≤ 1000000000) (hps : ∀ p ∈ ps, 1 ≤ p.length) : Spec Try.prog 67 [.v (.int .i64 old), .p 1 0] 3 [(1, .box 30 [.r 2]), (2, .fz 1 (ps.map eIs))] (.v (.int .i64 (fstIdx (fun p => p.getD 0 default == old) ps))) 3 [(1, .box 30 [.r 2])] := by
  refine spec_of D (fn := Try.f67) rfl rfl (Nat.le_of_ble_eq_true rfl) ?_
  refine W_seq ?_
  refine W_seqK (b' := 35) rfl rfl ?_
  refine k_op1 (d := 2) (b := 3) (j' := 1) rfl rfl rfl rfl (.plain rfl) (T_box rfl rfl (flat_v rfl)) rfl ?_
  refine k_op0 (d := 3) (b := 19) (j' := 2) rfl rfl rfl rfl (.plain rfl) (T_assign rfl rfl) rfl ?_
  refine k_done rfl ?_
  refine thenK_n ?_
  refine W_seq ?_
  refine W_seqK (b' := 99) rfl rfl ?_
  refine k_op0 (d := 4) (b := 35) (j' := 1) rfl rfl rfl rfl (.plain rfl) (T_load_b D rfl rfl rfl rfl rfl rfl) rfl ?_
  refine k_op0 (d := 5) (b := 51) (j' := 2) rfl rfl rfl rfl (.plain rfl) (T_makeFunc (l := [_]) rfl rfl) rfl ?_
  refine k_op1 (d := 6) (b := 67) (j' := 3) rfl rfl rfl rfl (.plain rfl) (T_call (lvs := [_, _]) (L := [(1, 2), (2, 3)]) (lv := .v _) (upd := [(3, .box 3 [.v _])]) (nn := 0) false (head_spec _ _ hl hps) body68 rfl rfl rfl rfl (.fz rfl (.box rfl (.nil))) rfl (.inl rfl) rfl rfl rfl) rfl ?_
  refine k_op0 (d := 3) (b := 83) (j' := 4) rfl rfl rfl rfl (.plain rfl) (T_assign rfl rfl) rfl ?_
  refine k_done rfl ?_
  refine thenK_n ?_
  refine W_ret ?_
  -- end 0
  exact .mk [] (.inr rfl) (.tmp rfl (.nil)) (by first | rfl | simp) (.box (by first | rfl | simp) (.nil)) rfl
end Lg
end Go.Proofs.Ytpfhmodjjljpjaa
