import Derived.Test.YtpfhmodjjljpjaaTidyOf6
set_option linter.unusedVariables false
set_option linter.unusedSimpArgs false
namespace Go.Proofs.Ytpfhmodjjljpjaa
open Go.RowKit
namespace Lg
set_option maxRecDepth 100000
set_option linter.unusedVariables false
set_option linter.unusedSimpArgs false



theorem body3 : (Try.prog.funcs[3]?).map (fun fn => (fn.name == "runtime.NumGoroutine" || fn.body.isNone)) = some false := by kernel_rfl
theorem law3 (p : GProg) (x : Int) (hp : PgOk p) (hx : 0 ≤ x ∧ x < 256) : Spec Try.prog 3 [.agg [.v (.int .i64 p.words), .r 1], .v (.int .u8 x)] 2 [(1, .fz 2 (p.funcs.map eFn))] (.v (.bool true)) 2 [] := by
  have hp1 := hp.1
  refine spec_of D (fn := Try.f3) rfl rfl (Nat.le_of_ble_eq_true rfl) ?_
  refine W_seq ?_
  refine W_seqK (b' := 34) rfl rfl ?_
  refine q1 2 2 1 rfl rfl (T_box rfl rfl flat_agg) rfl ?_
  refine q0 4 18 2 rfl rfl (T_assign rfl rfl) rfl ?_
  refine k_done rfl ?_
  refine thenK_n ?_
  refine W_seq ?_
  refine W_seq ?_
  refine W_seqK (b' := 66) rfl rfl ?_
  refine q0 9 34 1 rfl rfl (T_callV (lvs := []) (L := []) (awake_spec) body24 rfl rfl rfl rfl (.nil) rfl) rfl ?_
  refine q0 10 50 2 rfl rfl (T_not rfl rfl) rfl ?_
  refine k_done rfl ?_
  refine thenK_n ?_
  refine W_cond rfl (fun g1 => ?_) (fun g1 => ?_)
  · have h1 := g1; (try simp only [cmpB, decide_eq_true_eq, decide_eq_false_iff_not, beq_iff_eq, beq_eq_false_iff_ne, bne_iff_ne, ne_eq, bne_eq_false_iff_eq, Bool.not_eq_true', Bool.not_eq_false', Int.not_lt, Int.not_le] at h1)
    refine W_seq ?_
    refine W_seqK (b' := 82) rfl rfl ?_
    refine q0 4 66 1 rfl rfl (T_assign rfl rfl) rfl ?_
    refine k_done rfl ?_
    refine thenK_n ?_
    refine W_ret ?_
    refine thenK_r ?_
    -- end 0
    exact .mk [] (.inr rfl) (.tmp rfl (.nil)) (by first | rfl | exact absurd g1 (by decide) | (exfalso; contradiction) | (simp only [resLV, LV.ren, LV.v.injEq, Value.bool.injEq]; exact (tcheck_iff _ _ _).2 (tidy_holds (small_fn (c := 150) (by assumption : smallG p 150 = true) (by omega) (by omega : x.toNat < p.funcs.length)).vf)) | simp [resLV, LV.ren]) (.nil) rfl
  · have h1 := g1; (try simp only [cmpB, decide_eq_true_eq, decide_eq_false_iff_not, beq_iff_eq, beq_eq_false_iff_ne, bne_iff_ne, ne_eq, bne_eq_false_iff_eq, Bool.not_eq_true', Bool.not_eq_false', Int.not_lt, Int.not_le] at h1)
    refine W_skip ?_
    refine thenK_n ?_
    refine W_seq ?_
    refine W_seq ?_
    refine W_seqK (b' := 242) rfl rfl ?_
    refine q0 11 66 1 rfl rfl (T_load_bA D (l := [_, _]) rfl rfl rfl rfl rfl rfl rfl) rfl ?_
    refine q0 12 82 2 rfl rfl (T_callV (lvs := [_, _]) (L := [(1, 1)]) (small30_spec p 150 hp) body25 rfl rfl rfl rfl (.fz rfl (.nil)) rfl) rfl ?_
    refine q0 13 98 3 rfl rfl (T_not rfl rfl) rfl ?_
    refine q0 14 114 4 rfl rfl (T_move rfl rfl) rfl ?_
    refine k_split (d := 14) rfl (fun g2 => ?_) (fun g2 => ?_)
    · have h2 := g2; (try simp only [cmpB, decide_eq_true_eq, decide_eq_false_iff_not, beq_iff_eq, beq_eq_false_iff_ne, bne_iff_ne, ne_eq, bne_eq_false_iff_eq, Bool.not_eq_true', Bool.not_eq_false', Int.not_lt, Int.not_le] at h2)
      refine k_no (d := 15) (j' := 5) rfl rfl rfl (g_ft rfl rfl rfl g2) ?_
      refine k_no (d := 16) (j' := 6) rfl rfl rfl (g_ft rfl rfl rfl g2) ?_
      refine k_no (d := 17) (j' := 7) rfl rfl rfl (g_ft rfl rfl rfl g2) ?_
      refine k_no (d := 18) (j' := 8) rfl rfl rfl (g_ft rfl rfl rfl g2) ?_
      refine k_no (d := 19) (j' := 9) rfl rfl rfl (g_ft rfl rfl rfl g2) ?_
      refine k_no (d := 20) (j' := 10) rfl rfl rfl (g_ft rfl rfl rfl g2) ?_
      refine q0 21 226 11 rfl rfl (T_pick_t rfl rfl rfl g2) rfl ?_
      refine k_done rfl ?_
      refine thenK_n ?_
      refine W_cond rfl (fun g3 => ?_) (fun g3 => ?_)
      · skip
        refine W_seq ?_
        refine W_seqK (b' := 258) rfl rfl ?_
        refine q0 4 242 1 rfl rfl (T_assign rfl rfl) rfl ?_
        refine k_done rfl ?_
        refine thenK_n ?_
        refine W_ret ?_
        refine thenK_r ?_
        -- end 1
        exact .mk [] (.inr rfl) (.tmp rfl (.nil)) (by first | rfl | exact absurd g1 (by decide) | (exfalso; contradiction) | (simp only [resLV, LV.ren, LV.v.injEq, Value.bool.injEq]; exact (tcheck_iff _ _ _).2 (tidy_holds (small_fn (c := 150) (by assumption : smallG p 150 = true) (by omega) (by omega : x.toNat < p.funcs.length)).vf)) | simp [resLV, LV.ren]) (.nil) rfl
      · exact absurd (g3.symm.trans rfl) (by decide)
    · have h2 := g2; (try simp only [cmpB, decide_eq_true_eq, decide_eq_false_iff_not, beq_iff_eq, beq_eq_false_iff_ne, bne_iff_ne, ne_eq, bne_eq_false_iff_eq, Bool.not_eq_true', Bool.not_eq_false', Int.not_lt, Int.not_le] at h2)
      refine k_op0 (d := 15) (b := 130) (j' := 5) rfl rfl rfl rfl (g_ff rfl rfl rfl g2) (T_move rfl rfl) rfl ?_
      refine k_op0 (d := 16) (b := 146) (j' := 6) rfl rfl rfl rfl (g_ff rfl rfl rfl g2) (T_conv64 rfl rfl (by rw [Try.underlying5]; rfl) (by first | assumption | omega | (simp; omega))) rfl ?_
      refine k_op0 (d := 17) (b := 162) (j' := 7) rfl rfl rfl rfl (g_ff rfl rfl rfl g2) (T_fa D (m := 1) rfl rfl rfl rfl rfl rfl) rfl ?_
      refine k_op0 (d := 18) (b := 178) (j' := 8) rfl rfl rfl rfl (g_ff rfl rfl rfl g2) (T_load_b D rfl rfl rfl rfl rfl rfl) rfl ?_
      refine k_op0 (d := 19) (b := 194) (j' := 9) rfl rfl rfl rfl (g_ff rfl rfl rfl g2) (T_len D rfl rfl rfl rfl rfl rfl) rfl ?_
      refine k_op0 (d := 20) (b := 210) (j' := 10) rfl rfl rfl rfl (g_ff rfl rfl rfl g2) (T_cmp rfl rfl rfl rfl) rfl ?_
      refine q0 21 226 11 rfl rfl (T_pick_f rfl rfl rfl g2) rfl ?_
      refine k_done rfl ?_
      refine thenK_n ?_
      refine W_cond rfl (fun g4 => ?_) (fun g4 => ?_)
      · have h4 := c_geq_t g4
        refine W_seq ?_
        refine W_seqK (b' := 258) rfl rfl ?_
        refine q0 4 242 1 rfl rfl (T_assign rfl rfl) rfl ?_
        refine k_done rfl ?_
        refine thenK_n ?_
        refine W_ret ?_
        refine thenK_r ?_
        -- end 2
        exact .mk [] (.inr rfl) (.tmp rfl (.nil)) (by first | rfl | exact absurd g1 (by decide) | (exfalso; contradiction) | (simp only [resLV, LV.ren, LV.v.injEq, Value.bool.injEq]; exact (tcheck_iff _ _ _).2 (tidy_holds (small_fn (c := 150) (by assumption : smallG p 150 = true) (by omega) (by omega : x.toNat < p.funcs.length)).vf)) | simp [resLV, LV.ren]) (.nil) rfl
      · have h4 := c_geq_f g4
        refine W_skip ?_
        refine thenK_n ?_
        refine W_seq ?_
        refine W_seqK (b' := 434) rfl rfl ?_
        refine q0 23 242 1 rfl rfl (T_fa D (m := 1) rfl rfl rfl rfl rfl rfl) rfl ?_
        refine q0 24 258 2 rfl rfl (T_load_b D rfl rfl rfl rfl rfl rfl) rfl ?_
        refine q0 25 274 3 rfl rfl (T_move rfl rfl) rfl ?_
        first | refine q0 26 290 4 rfl rfl (T_indexAddr D rfl rfl rfl rfl rfl rfl rfl rfl (by first | assumption | omega | (simp; omega))) rfl ?_ | refine q0 26 290 4 rfl rfl (T_indexAddrZ D rfl rfl rfl rfl rfl rfl rfl rfl (by first | assumption | omega | (simp; omega)) (by first | assumption | omega | (simp; omega))) rfl ?_
        refine q1 27 306 5 rfl rfl (T_ldEA D (l := [.v _, .r 306]) (nn := 1) (upd := [(306, .fz 5 _)]) rfl rfl rfl rfl rfl (by first | assumption | omega | (simp; omega)) rfl rfl rfl rfl rfl) rfl ?_
        refine qn 28 322 6 rfl rfl (T_call (lvs := [_]) (L := [(1, 306)]) (lv := .tup [.agg [.v _, .r 322], .r 323]) (upd := [(322, .row 72 5 _), (323, .fz 1 _)]) (nn := 2) false (tidy_spec (p.funcs.getD x.toNat default) (by have := (small_fn (c := 150) (by assumption : smallG p 150 = true) (by omega) (by omega : x.toNat < p.funcs.length)).len; omega) (small_fn (c := 150) (by assumption : smallG p 150 = true) (by omega) (by omega : x.toNat < p.funcs.length)).vf.inN ((small_fn (c := 150) (by assumption : smallG p 150 = true) (by omega) (by omega : x.toNat < p.funcs.length)).ins1000 (by omega))) body26 rfl rfl rfl rfl (.fz rfl (.nil)) rfl (.inl rfl) rfl rfl rfl) rfl ?_
        refine q0 22 338 7 rfl rfl (T_move rfl rfl) rfl ?_
        refine q0 29 354 8 rfl rfl (T_extract rfl rfl rfl) rfl ?_
        refine q0 30 370 9 rfl rfl (T_extract rfl rfl rfl) rfl ?_
        refine qn 5 386 10 rfl rfl (T_nilbox [(72, 5)] (T_alloc D rfl rfl rfl) rfl (.cons (.same _) <| .cons (.nil rfl) <| .nil) (upd' := [(386, .box 29 [.v (.int .i64 0), .r 387]), (387, .row 72 5 (List.map eBlock ([] : List (GBlock))))]) (nn' := 2) rfl rfl) rfl ?_
        refine s1 402 11 rfl rfl (T_stB D (cs' := [_, _]) rfl rfl rfl rfl flat_agg rfl rfl (Nat.le_of_ble_eq_true rfl) rfl) rfl ?_
        refine q0 6 418 12 rfl rfl (T_assign rfl rfl) rfl ?_
        refine k_done rfl ?_
        refine thenK_n ?_
        refine W_seq ?_
        refine W_seqK (b' := 626) rfl rfl ?_
        refine q0 32 434 1 rfl rfl (T_fa D (m := 1) rfl rfl rfl rfl rfl rfl) rfl ?_
        refine q0 33 450 2 rfl rfl (T_load_b D rfl rfl rfl rfl rfl rfl) rfl ?_
        refine q0 34 466 3 rfl rfl (T_move rfl rfl) rfl ?_
        first | refine q0 35 482 4 rfl rfl (T_indexAddr D rfl rfl rfl rfl rfl rfl rfl rfl (by first | assumption | omega | (simp; omega))) rfl ?_ | refine q0 35 482 4 rfl rfl (T_indexAddrZ D rfl rfl rfl rfl rfl rfl rfl rfl (by first | assumption | omega | (simp; omega)) (by first | assumption | omega | (simp; omega))) rfl ?_
        refine q1 36 498 5 rfl rfl (T_ldEA D (l := [.v _, .r 498]) (nn := 1) (upd := [(498, .fz 5 _)]) rfl rfl rfl rfl rfl (by first | assumption | omega | (simp; omega)) rfl rfl rfl rfl rfl) rfl ?_
        refine qn 37 514 6 rfl rfl (T_call (lvs := [_]) (L := [(1, 498)]) (lv := .tup [.agg [.v _, .r 514], .r 515]) (upd := [(514, .row 72 5 _), (515, .row 52 1 _)]) (nn := 2) false (rof_spec (p.funcs.getD x.toNat default) (by have := (small_fn (c := 150) (by assumption : smallG p 150 = true) (by omega) (by omega : x.toNat < p.funcs.length)).len; omega) (small_fn (c := 150) (by assumption : smallG p 150 = true) (by omega) (by omega : x.toNat < p.funcs.length)).vf ((small_fn (c := 150) (by assumption : smallG p 150 = true) (by omega) (by omega : x.toNat < p.funcs.length)).ins1000 (by omega))) body27 rfl rfl rfl rfl (.fz rfl (.nil)) rfl (.inl rfl) rfl rfl rfl) rfl ?_
        refine q0 31 530 7 rfl rfl (T_move rfl rfl) rfl ?_
        refine q0 38 546 8 rfl rfl (T_extract rfl rfl rfl) rfl ?_
        refine q0 39 562 9 rfl rfl (T_extract rfl rfl rfl) rfl ?_
        refine qn 7 578 10 rfl rfl (T_nilbox [(72, 5)] (T_alloc D rfl rfl rfl) rfl (.cons (.same _) <| .cons (.nil rfl) <| .nil) (upd' := [(578, .box 29 [.v (.int .i64 0), .r 579]), (579, .row 72 5 (List.map eBlock ([] : List (GBlock))))]) (nn' := 2) rfl rfl) rfl ?_
        refine s1 594 11 rfl rfl (T_stB D (cs' := [_, _]) rfl rfl rfl rfl flat_agg rfl rfl (Nat.le_of_ble_eq_true rfl) rfl) rfl ?_
        refine q0 8 610 12 rfl rfl (T_assign rfl rfl) rfl ?_
        refine k_done rfl ?_
        refine thenK_n ?_
        refine W_seq ?_
        refine W_anyK (b' := 930) rfl rfl rfl ?_
        refine q0 40 626 1 rfl rfl (T_load_bA D (l := [_, _]) rfl rfl rfl rfl rfl rfl rfl) rfl ?_
        refine q0 41 642 2 rfl rfl (T_load_bA D (l := [_, _]) rfl rfl rfl rfl rfl rfl rfl) rfl ?_
        refine q0 42 658 3 rfl rfl (T_callV (lvs := [_, _]) (L := [(1, 322), (2, 514)]) (same_spec (tidyG (p.funcs.getD x.toNat default)) (tidyG (p.funcs.getD x.toNat default)) (by have := (small_fn (c := 150) (by assumption : smallG p 150 = true) (by omega) (by omega : x.toNat < p.funcs.length)).len; have := heads_le (p.funcs.getD x.toNat default); rw [tidyG_length]; omega) (fun b hb => by have q := tidy_ins (small_fn (c := 150) (by assumption : smallG p 150 = true) (by omega) (by omega : x.toNat < p.funcs.length)).vf (c := 150) (small_sz (by assumption : smallG p 150 = true) (by omega) (by omega)) b hb; omega)) body28 rfl rfl rfl rfl (.lend rfl (.lend rfl (.nil))) rfl) rfl ?_
        refine q0 43 674 4 rfl rfl (T_move rfl rfl) rfl ?_
        refine k_split (d := 43) rfl (fun g5 => ?_) (fun g5 => ?_)
        · have h5 := g5; (try simp only [cmpB, decide_eq_true_eq, decide_eq_false_iff_not, beq_iff_eq, beq_eq_false_iff_ne, bne_iff_ne, ne_eq, bne_eq_false_iff_eq, Bool.not_eq_true', Bool.not_eq_false', Int.not_lt, Int.not_le] at h5)
          refine k_op0 (d := 44) (b := 690) (j' := 5) rfl rfl rfl rfl (g_tt rfl rfl rfl g5) (T_move rfl rfl) rfl ?_
          refine k_op0 (d := 45) (b := 706) (j' := 6) rfl rfl rfl rfl (g_tt rfl rfl rfl g5) (T_move rfl rfl) rfl ?_
          refine k_op0 (d := 46) (b := 722) (j' := 7) rfl rfl rfl rfl (g_tt rfl rfl rfl g5) (T_callV (lvs := [_, _]) (L := [(1, 323), (2, 515)]) (same_ps_spec (pathsL (p.funcs.getD x.toNat default)) (pathsL (p.funcs.getD x.toNat default)) (by have := (small_fn (c := 150) (by assumption : smallG p 150 = true) (by omega) (by omega : x.toNat < p.funcs.length)).len; have := heads_le (p.funcs.getD x.toNat default); rw [paths_length]; omega) (fun q hq => by have := (small_fn (c := 150) (by assumption : smallG p 150 = true) (by omega) (by omega : x.toNat < p.funcs.length)).len; have := path_in (small_fn (c := 150) (by assumption : smallG p 150 = true) (by omega) (by omega : x.toNat < p.funcs.length)).vf.inN hq; omega)) body29 rfl rfl rfl rfl (.fz rfl (.lend rfl (.nil))) rfl) rfl ?_
          refine q0 47 738 8 rfl rfl (T_pick_t rfl rfl rfl g5) rfl ?_
          refine q0 48 754 9 rfl rfl (T_move rfl rfl) rfl ?_
          refine k_split (d := 48) rfl (fun g6 => ?_) (fun g6 => ?_)
          · have h6 := g6; (try simp only [cmpB, decide_eq_true_eq, decide_eq_false_iff_not, beq_iff_eq, beq_eq_false_iff_ne, bne_iff_ne, ne_eq, bne_eq_false_iff_eq, Bool.not_eq_true', Bool.not_eq_false', Int.not_lt, Int.not_le] at h6)
            refine k_op0 (d := 49) (b := 770) (j' := 10) rfl rfl rfl rfl (g_tt rfl rfl rfl g6) (T_fa D (m := 1) rfl rfl rfl rfl rfl rfl) rfl ?_
            refine k_op0 (d := 50) (b := 786) (j' := 11) rfl rfl rfl rfl (g_tt rfl rfl rfl g6) (T_load_b D rfl rfl rfl rfl rfl rfl) rfl ?_
            refine k_op0 (d := 51) (b := 802) (j' := 12) rfl rfl rfl rfl (g_tt rfl rfl rfl g6) (T_move rfl rfl) rfl ?_
            first | refine k_op0 (d := 52) (b := 818) (j' := 13) rfl rfl rfl rfl (g_tt rfl rfl rfl g6) (T_indexAddr D rfl rfl rfl rfl rfl rfl rfl rfl (by first | assumption | omega | (simp; omega))) rfl ?_ | refine k_op0 (d := 52) (b := 818) (j' := 13) rfl rfl rfl rfl (g_tt rfl rfl rfl g6) (T_indexAddrZ D rfl rfl rfl rfl rfl rfl rfl rfl (by first | assumption | omega | (simp; omega)) (by first | assumption | omega | (simp; omega))) rfl ?_
            refine k_op1 (d := 53) (b := 834) (j' := 14) rfl rfl rfl rfl (g_tt rfl rfl rfl g6) (T_ldEA D (l := [.v _, .r 834]) (nn := 1) (upd := [(834, .fz 5 _)]) rfl rfl rfl rfl rfl (by first | assumption | omega | (simp; omega)) rfl rfl rfl rfl rfl) rfl ?_
            refine k_op0 (d := 54) (b := 850) (j' := 15) rfl rfl rfl rfl (g_tt rfl rfl rfl g6) (T_load_bA D (l := [_, _]) rfl rfl rfl rfl rfl rfl rfl) rfl ?_
            refine k_op0 (d := 55) (b := 866) (j' := 16) rfl rfl rfl rfl (g_tt rfl rfl rfl g6) (T_move rfl rfl) rfl ?_
            refine k_op0 (d := 56) (b := 882) (j' := 17) rfl rfl rfl rfl (g_tt rfl rfl rfl g6) (T_callV (lvs := [_, _, _]) (L := [(1, 834), (2, 322), (3, 323)]) (tcheck_ok (f := (p.funcs.getD x.toNat default)) (g := tidyG (p.funcs.getD x.toNat default)) (ps := pathsL (p.funcs.getD x.toNat default)) (tidy_chk (small_fn (c := 150) (by assumption : smallG p 150 = true) (by omega) (by omega : x.toNat < p.funcs.length)) (by omega) (small_sz (by assumption : smallG p 150 = true) (by omega) (by omega)))) body30 rfl rfl rfl rfl (.fz rfl (.lend rfl (.fz rfl (.nil)))) rfl) rfl ?_
            refine q0 57 898 18 rfl rfl (T_pick_t rfl rfl rfl g6) rfl ?_
            refine q0 4 914 19 rfl rfl (T_assign rfl rfl) rfl ?_
            refine k_done rfl ?_
            refine ⟨rfl, ?_⟩
            refine thenK_n ?_
            refine W_ret ?_
            -- end 3
            exact .mk [] (.inr rfl) (.tmp rfl (.nil)) (by first | rfl | exact absurd g1 (by decide) | (exfalso; contradiction) | (simp only [resLV, LV.ren, LV.v.injEq, Value.bool.injEq]; exact (tcheck_iff _ _ _).2 (tidy_holds (small_fn (c := 150) (by assumption : smallG p 150 = true) (by omega) (by omega : x.toNat < p.funcs.length)).vf)) | simp [resLV, LV.ren]) (.nil) rfl
          · have h6 := g6; (try simp only [cmpB, decide_eq_true_eq, decide_eq_false_iff_not, beq_iff_eq, beq_eq_false_iff_ne, bne_iff_ne, ne_eq, bne_eq_false_iff_eq, Bool.not_eq_true', Bool.not_eq_false', Int.not_lt, Int.not_le] at h6)
            refine k_no (d := 49) (j' := 10) rfl rfl rfl (g_tf rfl rfl rfl g6) ?_
            refine k_no (d := 50) (j' := 11) rfl rfl rfl (g_tf rfl rfl rfl g6) ?_
            refine k_no (d := 51) (j' := 12) rfl rfl rfl (g_tf rfl rfl rfl g6) ?_
            refine k_no (d := 52) (j' := 13) rfl rfl rfl (g_tf rfl rfl rfl g6) ?_
            refine k_no (d := 53) (j' := 14) rfl rfl rfl (g_tf rfl rfl rfl g6) ?_
            refine k_no (d := 54) (j' := 15) rfl rfl rfl (g_tf rfl rfl rfl g6) ?_
            refine k_no (d := 55) (j' := 16) rfl rfl rfl (g_tf rfl rfl rfl g6) ?_
            refine k_no (d := 56) (j' := 17) rfl rfl rfl (g_tf rfl rfl rfl g6) ?_
            refine q0 57 898 18 rfl rfl (T_pick_f rfl rfl rfl g6) rfl ?_
            refine q0 4 914 19 rfl rfl (T_assign rfl rfl) rfl ?_
            refine k_done rfl ?_
            refine ⟨rfl, ?_⟩
            refine thenK_n ?_
            refine W_ret ?_
            -- end 4
            exact .mk [] (.inr rfl) (.tmp rfl (.nil)) (by first | rfl | exact absurd g1 (by decide) | (exfalso; contradiction) | (simp only [resLV, LV.ren, LV.v.injEq, Value.bool.injEq]; exact (tcheck_iff _ _ _).2 (tidy_holds (small_fn (c := 150) (by assumption : smallG p 150 = true) (by omega) (by omega : x.toNat < p.funcs.length)).vf)) | simp [resLV, LV.ren]) (.nil) rfl
        · have h5 := g5; (try simp only [cmpB, decide_eq_true_eq, decide_eq_false_iff_not, beq_iff_eq, beq_eq_false_iff_ne, bne_iff_ne, ne_eq, bne_eq_false_iff_eq, Bool.not_eq_true', Bool.not_eq_false', Int.not_lt, Int.not_le] at h5)
          refine k_no (d := 44) (j' := 5) rfl rfl rfl (g_tf rfl rfl rfl g5) ?_
          refine k_no (d := 45) (j' := 6) rfl rfl rfl (g_tf rfl rfl rfl g5) ?_
          refine k_no (d := 46) (j' := 7) rfl rfl rfl (g_tf rfl rfl rfl g5) ?_
          refine q0 47 738 8 rfl rfl (T_pick_f rfl rfl rfl g5) rfl ?_
          refine q0 48 754 9 rfl rfl (T_move rfl rfl) rfl ?_
          refine k_no (d := 49) (j' := 10) rfl rfl rfl (g_tf rfl rfl rfl rfl) ?_
          refine k_no (d := 50) (j' := 11) rfl rfl rfl (g_tf rfl rfl rfl rfl) ?_
          refine k_no (d := 51) (j' := 12) rfl rfl rfl (g_tf rfl rfl rfl rfl) ?_
          refine k_no (d := 52) (j' := 13) rfl rfl rfl (g_tf rfl rfl rfl rfl) ?_
          refine k_no (d := 53) (j' := 14) rfl rfl rfl (g_tf rfl rfl rfl rfl) ?_
          refine k_no (d := 54) (j' := 15) rfl rfl rfl (g_tf rfl rfl rfl rfl) ?_
          refine k_no (d := 55) (j' := 16) rfl rfl rfl (g_tf rfl rfl rfl rfl) ?_
          refine k_no (d := 56) (j' := 17) rfl rfl rfl (g_tf rfl rfl rfl rfl) ?_
          refine q0 57 898 18 rfl rfl (T_pick_f rfl rfl rfl rfl) rfl ?_
          refine q0 4 914 19 rfl rfl (T_assign rfl rfl) rfl ?_
          refine k_done rfl ?_
          refine ⟨rfl, ?_⟩
          refine thenK_n ?_
          refine W_ret ?_
          -- end 5
          exact .mk [] (.inr rfl) (.tmp rfl (.nil)) (by first | rfl | exact absurd g1 (by decide) | (exfalso; contradiction) | (simp only [resLV, LV.ren, LV.v.injEq, Value.bool.injEq]; exact (tcheck_iff _ _ _).2 (tidy_holds (small_fn (c := 150) (by assumption : smallG p 150 = true) (by omega) (by omega : x.toNat < p.funcs.length)).vf)) | simp [resLV, LV.ren]) (.nil) rfl
end Lg
end Go.Proofs.Ytpfhmodjjljpjaa
