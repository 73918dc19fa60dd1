import Derived.Test.YtpfhmodjjljpjaaPn
namespace Go.Proofs.Ytpfhmodjjljpjaa
open Go.RowKit
namespace Lg
set_option maxRecDepth 100000
set_option linter.unusedVariables false
set_option linter.unusedSimpArgs false



theorem body114 : (Try.prog.funcs[114]?).map (fun fn => (fn.name == "runtime.NumGoroutine" || fn.body.isNone)) = some false := by kernel_rfl
theorem index_spec (p : List Int) (v : Int) (hp : p.length ≤ 1000000000) : Spec Try.prog 114 [.r 1, .v (.int .i64 v)] 2 [(1, .fz 1 (p.map eI))] (.v (.int .i64 (fstIdx (fun y => y == v) p))) 2 [] := by
  refine spec_of D (fn := Try.f114) rfl rfl (Nat.le_of_ble_eq_true rfl) ?_
  refine W_seq ?_
  refine W_seqK (b' := 18) rfl rfl ?_
  refine k_op0 (d := 4) (b := 2) (j' := 1) rfl rfl rfl rfl (.plain rfl) (T_assign rfl rfl) rfl ?_
  refine k_done rfl ?_
  refine thenK_n ?_
  refine W_seq ?_
  refine W_seq ?_
  refine W_seqK (b' := 66) rfl rfl ?_
  refine k_op0 (d := 6) (b := 18) (j' := 1) rfl rfl rfl rfl (.plain rfl) (T_move rfl rfl) rfl ?_
  refine k_op0 (d := 7) (b := 34) (j' := 2) rfl rfl rfl rfl (.plain rfl) (T_len D rfl rfl rfl rfl rfl rfl) rfl ?_
  refine k_op0 (d := 8) (b := 50) (j' := 3) rfl rfl rfl rfl (.plain rfl) (T_move rfl rfl) rfl ?_
  refine k_done rfl ?_
  refine thenK_n ?_
  refine W_block ?_
  refine W_loop (ι := Nat) 2 (fun j => ⟨[(0, .r 1), (1, .v (.int .i64 v)), (7, .v (.int .i64 (p.length : Int))), (8, .v (.int .i64 (j : Int)))], [(1, .fz 1 (p.map eI))]⟩) (fun j => j ≤ p.length ∧ ∀ i, i < j → (p.getD i default == v) = false) (fun j => p.length - j) (0) (by exact ⟨Nat.zero_le _, fun i h => absurd h (Nat.not_lt_zero _)⟩) ?_ (fun j hJ => ?_)
  · exact ⟨[], .same rfl rfl (.eq rfl (.eq rfl (.eq rfl (.nil) (by first | rfl | simp)) (by first | rfl | simp)) (by first | rfl | simp)), .fzE rfl (.nil) (by first | rfl | simp), rfl⟩
  refine W_seq ?_
  refine W_seqK (b' := 18) rfl rfl ?_
  refine k_op0 (d := 9) (b := 2) (j' := 1) rfl rfl rfl rfl (.plain rfl) (T_cmp rfl rfl rfl rfl) rfl ?_
  refine k_done rfl ?_
  refine thenK_n ?_
  refine W_seq ?_
  refine W_cond rfl (fun g1 => ?_) (fun g1 => ?_)
  · have h1 := g1; (try simp only [cmpB, decide_eq_true_eq, decide_eq_false_iff_not, beq_iff_eq, beq_eq_false_iff_ne, bne_iff_ne, ne_eq, bne_eq_false_iff_eq, Bool.not_eq_true', Bool.not_eq_false', Int.not_lt, Int.not_le] at h1)
    refine W_skip ?_
    refine thenK_n ?_
    refine W_seq ?_
    refine W_block ?_
    refine W_seq ?_
    refine W_seqK (b' := 50) rfl rfl ?_
    refine k_op0 (d := 10) (b := 18) (j' := 1) rfl rfl rfl rfl (.plain rfl) (T_move rfl rfl) rfl ?_
    refine k_op0 (d := 5) (b := 34) (j' := 2) rfl rfl rfl rfl (.plain rfl) (T_assign rfl rfl) rfl ?_
    refine k_done rfl ?_
    refine thenK_n ?_
    refine W_seq ?_
    refine W_seqK (b' := 146) rfl rfl ?_
    refine k_op0 (d := 11) (b := 50) (j' := 1) rfl rfl rfl rfl (.plain rfl) (T_move rfl rfl) rfl ?_
    refine k_op0 (d := 12) (b := 66) (j' := 2) rfl rfl rfl rfl (.plain rfl) (T_move rfl rfl) rfl ?_
    refine k_op0 (d := 13) (b := 82) (j' := 3) rfl rfl rfl rfl (.plain rfl) (T_move rfl rfl) rfl ?_
    first | refine k_op0 (d := 14) (b := 98) (j' := 4) rfl rfl rfl rfl (.plain rfl) (T_indexAddr D rfl rfl rfl rfl rfl rfl rfl rfl (by first | assumption | omega | (simp; omega))) rfl ?_ | refine k_op0 (d := 14) (b := 98) (j' := 4) rfl rfl rfl rfl (.plain rfl) (T_indexAddrZ D rfl rfl rfl rfl rfl rfl rfl rfl (by first | assumption | omega | (simp; omega)) (by first | assumption | omega | (simp; omega))) rfl ?_
    refine k_op0 (d := 15) (b := 114) (j' := 5) rfl rfl rfl rfl (.plain rfl) (T_ldE D (lv := .v _) (nn := 0) (upd := []) rfl rfl rfl rfl rfl (by first | assumption | omega | (simp; omega)) rfl rfl rfl rfl) rfl ?_
    refine k_op0 (d := 16) (b := 130) (j' := 6) rfl rfl rfl rfl (.plain rfl) (T_cmp rfl rfl rfl rfl) rfl ?_
    refine k_done rfl ?_
    refine thenK_n ?_
    refine W_cond rfl (fun g2 => ?_) (fun g2 => ?_)
    · have h2 := g2; (try simp only [cmpB, decide_eq_true_eq, decide_eq_false_iff_not, beq_iff_eq, beq_eq_false_iff_ne, bne_iff_ne, ne_eq, bne_eq_false_iff_eq, Bool.not_eq_true', Bool.not_eq_false', Int.not_lt, Int.not_le] at h2)
      refine W_seq ?_
      refine W_seqK (b' := 178) rfl rfl ?_
      refine k_op0 (d := 17) (b := 146) (j' := 1) rfl rfl rfl rfl (.plain rfl) (T_move rfl rfl) rfl ?_
      refine k_op0 (d := 4) (b := 162) (j' := 2) rfl rfl rfl rfl (.plain rfl) (T_assign rfl rfl) rfl ?_
      refine k_done rfl ?_
      refine thenK_n ?_
      refine W_ret ?_
      refine blockK_r ?_
      refine thenK_r ?_
      refine thenK_r ?_
      refine blockK_r ?_
      refine thenK_r ?_
      -- end 0
      exact .mk [] (.inr rfl) (.tmp rfl (.nil)) (by simp only [resLV, LV.ren, LV.v.injEq, Value.int.injEq, true_and]; exact (fstIdx_hit _ _ (by omega) (by simp [-List.getD_eq_getElem?_getD, -Int.default_eq_zero, h2]) (fun i hi => hJ.2 i hi)).symm) (.nil) rfl
    · have h2 := g2; (try simp only [cmpB, decide_eq_true_eq, decide_eq_false_iff_not, beq_iff_eq, beq_eq_false_iff_ne, bne_iff_ne, ne_eq, bne_eq_false_iff_eq, Bool.not_eq_true', Bool.not_eq_false', Int.not_lt, Int.not_le] at h2)
      refine W_skip ?_
      refine blockK_n ?_
      refine thenK_n ?_
      refine W_seqK (b' := 178) rfl rfl ?_
      refine k_op0 (d := 18) (b := 146) (j' := 1) rfl rfl rfl rfl (.plain rfl) (T_add64 rfl rfl rfl (by first | assumption | omega | (simp; omega))) rfl ?_
      refine k_op0 (d := 8) (b := 162) (j' := 2) rfl rfl rfl rfl (.plain rfl) (T_move rfl rfl) rfl ?_
      refine k_done rfl ?_
      refine thenK_n ?_
      refine ⟨j + 1, by (try dsimp only); exact ⟨by omega, fun i hi => by rcases Nat.lt_or_ge i j with h | h; exact hJ.2 i h; rw [show i = j by omega]; exact beq_eq_false_iff_ne.2 (fun e => h2 e.symm)⟩, by (try dsimp only); omega, ?_⟩
      exact ⟨[], .same rfl rfl (.eq rfl (.eq rfl (.eq rfl (.nil) (by first | rfl | simp)) (by first | rfl | simp)) (by first | rfl | simp)), .fzE rfl (.nil) (by first | rfl | simp), rfl⟩
  · have h1 := g1; (try simp only [cmpB, decide_eq_true_eq, decide_eq_false_iff_not, beq_iff_eq, beq_eq_false_iff_ne, bne_iff_ne, ne_eq, bne_eq_false_iff_eq, Bool.not_eq_true', Bool.not_eq_false', Int.not_lt, Int.not_le] at h1)
    refine W_exit ?_
    refine thenK_e ?_
    refine thenK_e ?_
    refine blockK_hit ?_
    refine thenK_n ?_
    refine W_seq ?_
    refine W_seqK (b' := 34) rfl rfl ?_
    refine k_op0 (d := 4) (b := 18) (j' := 1) rfl rfl rfl rfl (.plain rfl) (T_assign rfl rfl) rfl ?_
    refine k_done rfl ?_
    refine thenK_n ?_
    refine W_ret ?_
    -- end 1
    exact .mk [] (.inr rfl) (.tmp rfl (.nil)) (by simp only [resLV, LV.ren, LV.v.injEq, Value.int.injEq, true_and]; exact (fstIdx_none _ _ (fun i hi => hJ.2 i (by omega))).symm) (.nil) rfl

theorem body113 : (Try.prog.funcs[113]?).map (fun fn => (fn.name == "runtime.NumGoroutine" || fn.body.isNone)) = some false := by kernel_rfl
theorem follow_spec (by_ : List Int) (hb : by_.length ≤ 1000000) : ∀ (m : Nat) (p q : List Int), 1 ≤ p.length → follow by_ m p = some q → p.length + m ≤ 1000000 →  Spec Try.prog 113 [.r 1, .p 2 0, .p 3 0] 5 [(1, .row 3 1 (p.map eI)), (2, .box 52 [.r 4]), (3, .box 144 [.fn 113 [.p 2 0, .p 3 0]]), (4, .fz 1 (by_.map eI))] (.r 5) 6 [(1, .no), (2, .box 52 [.r 4]), (3, .box 144 [.fn 113 [.p 2 0, .p 3 0]]), (5, .row 3 1 (q.map eI))] := by
  intro m
  induction m with
  | zero => intro p q _ h; cases h
  | succ m ih =>
    intro p q h0 hf hl
    refine spec_of D (fn := Try.f113) rfl rfl (Nat.le_of_ble_eq_true rfl) ?_
    refine W_seq ?_
    refine W_seqK (b' := 21) rfl rfl ?_
    refine k_op1 (d := 4) (b := 5) (j' := 1) rfl rfl rfl rfl (.plain rfl) (T_nils [(3, 1)] (T_assign rfl rfl) rfl (.inr ⟨rfl, rfl⟩) (.cons (.nil rfl) .nil) (lv' := .r 5) (upd' := [(5, .row 3 1 (List.map eI ([] : List (Int))))]) (nn' := 1) rfl rfl) rfl ?_
    refine k_done rfl ?_
    refine thenK_n ?_
    refine W_seq ?_
    refine W_seqK (b' := 133) rfl rfl ?_
    refine k_op0 (d := 7) (b := 21) (j' := 1) rfl rfl rfl rfl (.plain rfl) (T_move rfl rfl) rfl ?_
    refine k_op0 (d := 8) (b := 37) (j' := 2) rfl rfl rfl rfl (.plain rfl) (T_move rfl rfl) rfl ?_
    refine k_op0 (d := 9) (b := 53) (j' := 3) rfl rfl rfl rfl (.plain rfl) (T_len D rfl rfl rfl rfl rfl rfl) rfl ?_
    refine k_op0 (d := 10) (b := 69) (j' := 4) rfl rfl rfl rfl (.plain rfl) (T_sub64 rfl rfl rfl (by first | assumption | omega | (simp; omega))) rfl ?_
    first | refine k_op0 (d := 11) (b := 85) (j' := 5) rfl rfl rfl rfl (.plain rfl) (T_indexAddr D rfl rfl rfl rfl rfl rfl rfl rfl (by first | assumption | omega | (simp; omega))) rfl ?_ | refine k_op0 (d := 11) (b := 85) (j' := 5) rfl rfl rfl rfl (.plain rfl) (T_indexAddrZ D rfl rfl rfl rfl rfl rfl rfl rfl (by first | assumption | omega | (simp; omega)) (by first | assumption | omega | (simp; omega))) rfl ?_
    refine k_op0 (d := 12) (b := 101) (j' := 6) rfl rfl rfl rfl (.plain rfl) (T_ldE D (lv := .v _) (nn := 0) (upd := []) rfl rfl rfl rfl rfl (by first | assumption | omega | (simp; omega)) rfl rfl rfl rfl) rfl ?_
    refine k_op0 (d := 5) (b := 117) (j' := 7) rfl rfl rfl rfl (.plain rfl) (T_assign rfl rfl) rfl ?_
    refine k_done rfl ?_
    refine thenK_n ?_
    refine W_seq ?_
    refine W_seq ?_
    refine W_seqK (b' := 197) rfl rfl ?_
    refine k_op0 (d := 13) (b := 133) (j' := 1) rfl rfl rfl rfl (.plain rfl) (T_load_b D rfl rfl rfl rfl rfl rfl) rfl ?_
    refine k_op0 (d := 14) (b := 149) (j' := 2) rfl rfl rfl rfl (.plain rfl) (T_move rfl rfl) rfl ?_
    refine k_op0 (d := 15) (b := 165) (j' := 3) rfl rfl rfl rfl (.plain rfl) (T_callV (lvs := [_, _]) (L := [(1, 4)]) (index_spec _ _ (by omega)) body114 rfl rfl rfl rfl (.fz rfl (.nil)) rfl) rfl ?_
    refine k_op0 (d := 6) (b := 181) (j' := 4) rfl rfl rfl rfl (.plain rfl) (T_assign rfl rfl) rfl ?_
    refine k_done rfl ?_
    refine thenK_n ?_
    refine W_seq ?_
    refine W_seqK (b' := 229) rfl rfl ?_
    refine k_op0 (d := 16) (b := 197) (j' := 1) rfl rfl rfl rfl (.plain rfl) (T_move rfl rfl) rfl ?_
    refine k_op0 (d := 17) (b := 213) (j' := 2) rfl rfl rfl rfl (.plain rfl) (T_cmp rfl rfl rfl rfl) rfl ?_
    refine k_done rfl ?_
    refine thenK_n ?_
    refine W_cond rfl (fun g1 => ?_) (fun g1 => ?_)
    · have h1 := g1; (try simp only [cmpB, decide_eq_true_eq, decide_eq_false_iff_not, beq_iff_eq, beq_eq_false_iff_ne, bne_iff_ne, ne_eq, bne_eq_false_iff_eq, Bool.not_eq_true', Bool.not_eq_false', Int.not_lt, Int.not_le] at h1)
      refine W_seq ?_
      refine W_anyK (b' := 341) rfl rfl rfl ?_
      refine k_op0 (d := 18) (b := 229) (j' := 1) rfl rfl rfl rfl (.plain rfl) (T_load_b D rfl rfl rfl rfl rfl rfl) rfl ?_
      refine k_op0 (d := 19) (b := 245) (j' := 2) rfl rfl rfl rfl (.plain rfl) (T_move rfl rfl) rfl ?_
      refine k_op0 (d := 20) (b := 261) (j' := 3) rfl rfl rfl rfl (.plain rfl) (T_move rfl rfl) rfl ?_
      refine k_op1 (d := 21) (b := 277) (j' := 4) rfl rfl rfl rfl (.plain rfl) (T_bs D (ys := [_]) (enc := eI) (l := [_]) rfl rfl rfl rfl rfl rfl (.cons rfl (flat_v rfl) (.nil)) rfl rfl rfl rfl (.v rfl (.nil)) rfl rfl) rfl ?_
      refine k_opn (d := 22) (b := 293) (j' := 5) rfl rfl rfl rfl (.plain rfl) (T_append D rfl rfl rfl rfl rfl rfl rfl rfl rfl rfl rfl rfl (by (try simp only [ty3]); first | assumption | omega | (simp; omega)) (by (try simp only [ty3]); first | assumption | omega | (simp; omega))) rfl ?_
      refine k_opn (d := 23) (b := 309) (j' := 6) rfl rfl rfl rfl (.plain rfl) (T_call (lvs := [_]) (L := [(1, 293), (2, 2), (3, 3), (4, 4)]) (lv := .r 309) (upd := [(293, .no), (2, .box 52 [.r 4]), (3, .box 144 [.fn 113 [.p 2 0, .p 3 0]]), (309, .row 3 1 _)]) (nn := 1) false (ih (p ++ [fstIdx (fun y => y == lastOf p) by_]) q (by simp) (by rw [follow, if_pos (by exact h1)] at hf; exact hf) (by simp; omega)) body113 rfl rfl rfl rfl (.row rfl (.box rfl (.box rfl (.fz rfl (.nil))))) rfl (.inl rfl) rfl rfl rfl) rfl ?_
      refine k_op0 (d := 4) (b := 325) (j' := 7) rfl rfl rfl rfl (.plain rfl) (T_assign rfl rfl) rfl ?_
      refine k_done rfl ?_
      refine ⟨rfl, ?_⟩
      refine thenK_n ?_
      refine W_ret ?_
      refine thenK_r ?_
      -- end 0
      exact .mk [(5, 309)] (.inr rfl) (.tmp rfl (.nil)) rfl (.no (.box (by first | rfl | (rw [follow, if_neg (by have := h1; unfold lastOf; omega)] at hf; cases hf; rfl)) (.box (by first | rfl | (rw [follow, if_neg (by have := h1; unfold lastOf; omega)] at hf; cases hf; rfl)) (.rowE rfl (.nil) (by first | rfl | (rw [follow, if_neg (by have := h1; unfold lastOf; omega)] at hf; cases hf; rfl)))))) rfl
    · have h1 := g1; (try simp only [cmpB, decide_eq_true_eq, decide_eq_false_iff_not, beq_iff_eq, beq_eq_false_iff_ne, bne_iff_ne, ne_eq, bne_eq_false_iff_eq, Bool.not_eq_true', Bool.not_eq_false', Int.not_lt, Int.not_le] at h1)
      refine W_skip ?_
      refine thenK_n ?_
      refine W_seq ?_
      refine W_seqK (b' := 261) rfl rfl ?_
      refine k_op0 (d := 24) (b := 229) (j' := 1) rfl rfl rfl rfl (.plain rfl) (T_move rfl rfl) rfl ?_
      refine k_op0 (d := 4) (b := 245) (j' := 2) rfl rfl rfl rfl (.plain rfl) (T_assign rfl rfl) rfl ?_
      refine k_done rfl ?_
      refine thenK_n ?_
      refine W_ret ?_
      -- end 1
      exact .mk [(5, 1)] (.inr rfl) (.tmp rfl (.nil)) rfl (.no (.box (by first | rfl | (rw [follow, if_neg (by have := h1; unfold lastOf; omega)] at hf; cases hf; rfl)) (.box (by first | rfl | (rw [follow, if_neg (by have := h1; unfold lastOf; omega)] at hf; cases hf; rfl)) (.rowE rfl (.nil) (by first | rfl | (rw [follow, if_neg (by have := h1; unfold lastOf; omega)] at hf; cases hf; rfl)))))) rfl
end Lg
end Go.Proofs.Ytpfhmodjjljpjaa
