import Derived.Test.YtpfhmodjjljpjaaAlloh6
set_option linter.unusedVariables false
set_option linter.unusedSimpArgs false
namespace Go.Proofs.Ytpfhmodjjljpjaa
open Go.RowKit
namespace Lg
set_option linter.unusedSimpArgs false
set_option linter.unusedVariables false
def wF : GFn := ⟨2, [⟨[⟨1, 0, 0, 0, 0, 0, 0, 1⟩, ⟨1, 1, 0, 0, 0, 0, 0, 2⟩, ⟨9, 0, 0, 0, 0, 0, 0, 0⟩, ⟨9, 0, 1, 0, 0, 0, 0, 0⟩], 3, 0, 0, 0⟩]⟩
theorem wF_lf : LF wF := lf_of (f := wF) (i := 0) (w := 16) (by decide +kernel) (by decide) (by decide)
def eachL (y : Int) (n : Nat) : List Int := (List.range n).map fun (r : Nat) => -1 - (r : Int) - y
theorem eachL_len (y : Int) (n : Nat) : (eachL y n).length = n := by simp [eachL]
theorem eachL_succ (y : Int) (n : Nat) : eachL y (n + 1) = eachL y n ++ [-1 - (n : Int) - y] := by simp [eachL, List.range_succ]
theorem eachL_get {y : Int} {n i : Nat} (h : i < n) : (eachL y n).getD i default = -1 - (i : Int) - y := by simp [eachL, List.getD, h]
theorem getD_take {l : List Int} {i j : Nat} (h : j < i) : (l.take i).getD j default = l.getD j default := by
  simp only [List.getD]; rw [List.getElem?_take_of_lt h]
theorem each_ok {f : GFn} (h : S28 f) {li lo : List (List Bool)} (hc : checkL f li lo = true) {y k : Int} (hy : 0 ≤ y ∧ y < 256) : acheck f li lo (eachL y f.regs.toNat) k = true := by
  have hr := h.regs
  refine (acheck_yes hc (by rw [eachL_len]; omega) ?_ (fun i hi => ?_)).symm
  · rw [List.any_eq_false]
    intro x hx
    obtain ⟨i, hi, rfl⟩ := mem_getD hx
    rw [eachL_len] at hi
    rw [eachL_get hi]
    have : fitsP k (-1 - (i : Int) - y) = true := by
      unfold fitsP
      simp only [Bool.or_eq_true, Bool.and_eq_true, decide_eq_true_eq]
      right; omega
    unfold nofit; rw [this]; decide
  · rw [eachL_len] at hi
    refine okP_yes2 (by rw [eachL_get hi]; omega) (free_yes (fun j hj => ?_)).symm
    rw [List.length_take, eachL_len] at hj
    rw [getD_take (by omega), eachL_get hi, eachL_get (by omega), decide_eq_false (by omega)]
    rfl
theorem evL_sz (f : GFn) : SzL f (evL f) := ⟨by simp [evL], fun s hs => by rw [List.eq_of_mem_replicate hs]; simp⟩
theorem evL_get {f : GFn} {b i : Nat} (hb : b < f.blocks.length) (hi : i < f.regs.toNat) : ((evL f).getD b default).getD i default = true := by
  have : (evL f).getD b default = List.replicate f.regs.toNat true := by simp [evL, List.getD, hb]
  rw [this]; simp [List.getD, hi]
theorem ev_closed {f : GFn} (hF : LF f) : checkL f (evL f) (evL f) = true := closed_mk hF (evL_sz f) (evL_sz f) (fun b hb => ⟨fun m hm i hi => evL_get hb (by
    have hk := hF.follow hb hm
    have := getD_lt hi
    rw [(evL_sz f).at (by omega)] at this; exact this), fun i hi => evL_get hb (by
    have := getD_lt hi
    rw [thrS_len, (evL_sz f).at hb] at this; exact this)⟩)
theorem small28_lf {f : GFn} (h : small28 f = true) : LF f := (s28 h).lf
end Lg
end Go.Proofs.Ytpfhmodjjljpjaa

namespace Go.Proofs.Ytpfhmodjjljpjaa
open Go.RowKit
namespace Lg
set_option maxRecDepth 100000
set_option linter.unusedVariables false
set_option linter.unusedSimpArgs false
theorem body40 : (Try.prog.funcs[40]?).map (fun fn => (fn.name == "runtime.NumGoroutine" || fn.body.isNone)) = some false := by kernel_rfl
theorem awake28_spec  : Spec Try.prog 40 [] 1 [] (.v (.bool true)) 1 [] := by
 refine spec_of D (fn := Try.f40) rfl rfl (Nat.le_of_ble_eq_true rfl) ?_
 refine W_seq ?_
 refine W_seqK (b' := 17) rfl rfl ?_
 refine q0 0 1 1 rfl rfl (T_assign rfl rfl) rfl ?_
 refine k_done rfl ?_
 refine thenK_n ?_
 refine W_seq ?_
 refine W_seqK (b' := 145) rfl rfl ?_
 refine q0 5 17 1 rfl rfl (T_build D (l := [_, _, _, _, _, _, _, _]) rfl rfl rfl rfl (.cons rfl (flat_v rfl) (.cons rfl (flat_v rfl) (.nil))) rfl rfl) rfl ?_
 refine q0 6 33 2 rfl rfl (T_build D (l := [_, _, _, _, _, _, _, _]) rfl rfl rfl rfl (.cons rfl (flat_v rfl) (.cons rfl (flat_v rfl) (.cons rfl (flat_v rfl) (.nil)))) rfl rfl) rfl ?_
 refine q0 7 49 3 rfl rfl (T_build D (l := [_, _, _, _, _, _, _, _]) rfl rfl rfl rfl (.cons rfl (flat_v rfl) (.nil)) rfl rfl) rfl ?_
 refine q0 8 65 4 rfl rfl (T_build D (l := [_, _, _, _, _, _, _, _]) rfl rfl rfl rfl (.cons rfl (flat_v rfl) (.cons rfl (flat_v rfl) (.nil))) rfl rfl) rfl ?_
 refine q1 9 81 5 rfl rfl (T_bs D (ys := [⟨_, _, _, _, _, _, _, _⟩, ⟨_, _, _, _, _, _, _, _⟩, ⟨_, _, _, _, _, _, _, _⟩, ⟨_, _, _, _, _, _, _, _⟩]) (enc := eTac) (l := [_, _, _, _, _, _, _, _, _, _, _, _, _, _, _, _, _, _, _, _, _, _, _, _, _, _, _, _, _, _, _, _]) rfl rfl rfl rfl rfl rfl (.cons rfl flat_agg (.cons rfl flat_agg (.cons rfl flat_agg (.cons rfl flat_agg (.nil))))) rfl rfl rfl rfl (.v rfl (.v rfl (.v rfl (.v rfl (.v rfl (.v rfl (.v rfl (.v rfl (.v rfl (.v rfl (.v rfl (.v rfl (.v rfl (.v rfl (.v rfl (.v rfl (.v rfl (.v rfl (.v rfl (.v rfl (.v rfl (.v rfl (.v rfl (.v rfl (.v rfl (.v rfl (.v rfl (.v rfl (.v rfl (.v rfl (.v rfl (.v rfl (.nil))))))))))))))))))))))))))))))))) rfl rfl) rfl ?_
 refine q0 10 97 6 rfl rfl (T_build D (l := [_, _, _, _, _]) rfl rfl rfl rfl (.cons rfl (flat_sl rfl) (.cons rfl (flat_v rfl) (.nil))) rfl rfl) rfl ?_
 refine qn 1 113 7 rfl rfl (T_nilbox [(70, 8)] (T_alloc D rfl rfl rfl) rfl (.cons (.nil rfl) <| .cons (.same _) <| .cons (.same _) <| .cons (.same _) <| .cons (.same _) <| .nil) (upd' := [(113, .box 72 [.r 114, .v (.int .i64 0), .v (.int .i64 0), .v (.int .i64 0), .v (.int .i64 0)]), (114, .row 70 8 (List.map eTac ([] : List (GTac))))]) (nn' := 2) rfl rfl) rfl ?_
 refine s1 129 8 rfl rfl (T_stB D (cs' := [_, _, _, _, _]) rfl rfl rfl rfl flat_agg rfl rfl (Nat.le_of_ble_eq_true rfl) rfl) rfl ?_
 refine k_done rfl ?_
 refine thenK_n ?_
 refine W_seq ?_
 refine W_seqK (b' := 225) rfl rfl ?_
 refine q0 11 145 1 rfl rfl (T_load_bA D (l := [_, _, _, _, _]) rfl rfl rfl rfl rfl rfl rfl) rfl ?_
 refine qn 12 161 2 rfl rfl (T_bs D (ys := [⟨_, _, _, _, _⟩]) (enc := eBlock) (l := [_, _, _, _, _]) rfl rfl rfl rfl rfl rfl (.cons rfl flat_agg (.nil)) rfl rfl rfl rfl (.row rfl (.v rfl (.v rfl (.v rfl (.v rfl (.nil))))) (by rfl)) rfl rfl) rfl ?_
 refine q0 13 177 3 rfl rfl (T_build D (l := [_, _]) rfl rfl rfl rfl (.cons rfl (flat_v rfl) (.cons rfl (flat_sl rfl) (.nil))) rfl rfl) rfl ?_
 refine qn 2 193 4 rfl rfl (T_nilbox [(72, 5)] (T_alloc D rfl rfl rfl) rfl (.cons (.same _) <| .cons (.nil rfl) <| .nil) (upd' := [(193, .box 29 [.v (.int .i64 0), .r 194]), (194, .row 72 5 (List.map eBlock ([] : List (GBlock))))]) (nn' := 2) rfl rfl) rfl ?_
 refine s1 209 5 rfl rfl (T_stB D (cs' := [_, _]) rfl rfl rfl rfl flat_agg rfl rfl (Nat.le_of_ble_eq_true rfl) rfl) rfl ?_
 refine k_done rfl ?_
 refine thenK_n ?_
 refine W_seq ?_
 refine W_seqK (b' := 289) rfl rfl ?_
 refine q0 14 225 1 rfl rfl (T_load_bA D (l := [_, _]) rfl rfl rfl rfl rfl rfl rfl) rfl ?_
 refine qn 15 241 2 rfl rfl (T_call (lvs := [_]) (L := [(1, 161)]) (lv := .agg [.r 241, .r 242]) (upd := [(241, .fz 1 _), (242, .fz 1 _), (161, .fz 5 _)]) (nn := 2) false (rlive_spec wF wF_lf) body42 rfl rfl rfl rfl (.lend rfl (.nil)) rfl (.inl rfl) rfl rfl rfl) rfl ?_
 refine qn 3 257 3 rfl rfl (T_nilbox [(48, 1), (48, 1)] (T_alloc D rfl rfl rfl) rfl (.cons (.nil rfl) <| .cons (.nil rfl) <| .nil) (upd' := [(257, .box 57 [.r 258, .r 259]), (258, .row 48 1 (List.map eBs ([] : List (List Bool)))), (259, .row 48 1 (List.map eBs ([] : List (List Bool))))]) (nn' := 3) rfl rfl) rfl ?_
 refine s1 273 4 rfl rfl (T_stB D (cs' := [_, _]) rfl rfl rfl rfl flat_agg rfl rfl (Nat.le_of_ble_eq_true rfl) rfl) rfl ?_
 refine k_done rfl ?_
 refine thenK_n ?_
 refine W_seq ?_
 refine W_seqK (b' := 369) rfl rfl ?_
 refine q0 16 289 1 rfl rfl (T_load_bA D (l := [_, _]) rfl rfl rfl rfl rfl rfl rfl) rfl ?_
 refine q0 17 305 2 rfl rfl (T_load_bA D (l := [_, _]) rfl rfl rfl rfl rfl rfl rfl) rfl ?_
 refine q1 18 321 3 rfl rfl (T_call (lvs := [_, _, _]) (L := [(1, 161), (2, 241), (3, 242)]) (lv := .agg [.r 321]) (upd := [(321, .row 3 1 _)]) (nn := 1) false (allocOf_spec wF (liveL wF).1 (liveL wF).2 2 wF_lf (live_sz wF).i (live_sz wF).o (by decide) (by decide)) body43 rfl rfl rfl rfl (.fz rfl (.fz rfl (.fz rfl (.nil)))) rfl (.inl rfl) rfl rfl rfl) rfl ?_
 refine qn 4 337 4 rfl rfl (T_nilbox [(3, 1)] (T_alloc D rfl rfl rfl) rfl (.cons (.nil rfl) <| .nil) (upd' := [(337, .box 60 [.r 338]), (338, .row 3 1 (List.map eI ([] : List (Int))))]) (nn' := 2) rfl rfl) rfl ?_
 refine s1 353 5 rfl rfl (T_stB D (cs' := [_]) rfl rfl rfl rfl flat_agg rfl rfl (Nat.le_of_ble_eq_true rfl) rfl) rfl ?_
 refine k_done rfl ?_
 refine thenK_n ?_
 refine W_seq ?_
 refine W_seqK (b' := 881) rfl rfl ?_
 refine q0 19 369 1 rfl rfl (T_load_bA D (l := [_, _]) rfl rfl rfl rfl rfl rfl rfl) rfl ?_
 refine q0 20 385 2 rfl rfl (T_load_bA D (l := [_, _]) rfl rfl rfl rfl rfl rfl rfl) rfl ?_
 refine q0 21 401 3 rfl rfl (T_load_bA D (l := [_]) rfl rfl rfl rfl rfl rfl rfl) rfl ?_
 refine q0 22 417 4 rfl rfl (T_callV (lvs := [_, _, _, _]) (L := [(1, 161), (2, 241), (3, 242), (4, 321)]) (rcheck28_spec wF (liveL wF).1 (liveL wF).2 (allocP wF (liveL wF).1 (liveL wF).2 2) 2 wF_lf (by decide +kernel) (by decide +kernel) (by decide +kernel) (by decide +kernel)) body64 rfl rfl rfl rfl (.fz rfl (.fz rfl (.fz rfl (.lend rfl (.nil))))) rfl) rfl ?_
 refine q0 23 433 5 rfl rfl (T_move rfl rfl) rfl ?_
 refine k_split (d := 23) rfl (fun g1 => ?_) (fun g1 => ?_)
 ·have h1 := g1; (try simp only [cmpB, decide_eq_true_eq, decide_eq_false_iff_not, beq_iff_eq, beq_eq_false_iff_ne, bne_iff_ne, ne_eq, bne_eq_false_iff_eq, Bool.not_eq_true', Bool.not_eq_false', Int.not_lt, Int.not_le] at h1)
  refine k_op0 (d := 24) (b := 449) (j' := 6) rfl rfl rfl rfl (g_tt rfl rfl rfl g1) (T_load_bA D (l := [_, _]) rfl rfl rfl rfl rfl rfl rfl) rfl ?_
  refine k_op0 (d := 25) (b := 465) (j' := 7) rfl rfl rfl rfl (g_tt rfl rfl rfl g1) (T_load_bA D (l := [_, _]) rfl rfl rfl rfl rfl rfl rfl) rfl ?_
  refine k_op0 (d := 26) (b := 481) (j' := 8) rfl rfl rfl rfl (g_tt rfl rfl rfl g1) (T_load_bA D (l := [_]) rfl rfl rfl rfl rfl rfl rfl) rfl ?_
  refine k_op0 (d := 27) (b := 497) (j' := 9) rfl rfl rfl rfl (g_tt rfl rfl rfl g1) (T_callV (lvs := [_, _, _, _]) (L := [(1, 161), (2, 241), (3, 242), (4, 321)]) (acheck_spec wF (liveL wF).1 (liveL wF).2 (allocP wF (liveL wF).1 (liveL wF).2 2) 2 wF_lf (by decide +kernel) (by decide +kernel) (by decide +kernel) (by decide +kernel)) body44 rfl rfl rfl rfl (.fz rfl (.fz rfl (.fz rfl (.lend rfl (.nil))))) rfl) rfl ?_
  refine q0 28 513 10 rfl rfl (T_pick_t rfl rfl rfl g1) rfl ?_
  refine q0 29 529 11 rfl rfl (T_move rfl rfl) rfl ?_
  refine k_split (d := 29) rfl (fun g2 => ?_) (fun g2 => ?_)
  ·have h2 := g2; (try simp only [cmpB, decide_eq_true_eq, decide_eq_false_iff_not, beq_iff_eq, beq_eq_false_iff_ne, bne_iff_ne, ne_eq, bne_eq_false_iff_eq, Bool.not_eq_true', Bool.not_eq_false', Int.not_lt, Int.not_le] at h2)
   refine k_op0 (d := 30) (b := 545) (j' := 12) rfl rfl rfl rfl (g_tt rfl rfl rfl g2) (T_load_bA D (l := [_, _]) rfl rfl rfl rfl rfl rfl rfl) rfl ?_
   refine k_op0 (d := 31) (b := 561) (j' := 13) rfl rfl rfl rfl (g_tt rfl rfl rfl g2) (T_load_bA D (l := [_, _]) rfl rfl rfl rfl rfl rfl rfl) rfl ?_
   refine k_op1 (d := 32) (b := 577) (j' := 14) rfl rfl rfl rfl (g_tt rfl rfl rfl g2) (T_bs D (ys := [_, _]) (enc := eI) (l := [_, _]) rfl rfl rfl rfl rfl rfl (.cons rfl (flat_v rfl) (.cons rfl (flat_v rfl) (.nil))) rfl rfl rfl rfl (.v rfl (.v rfl (.nil))) rfl rfl) rfl ?_
   refine k_op0 (d := 33) (b := 593) (j' := 15) rfl rfl rfl rfl (g_tt rfl rfl rfl g2) (T_build D (l := [_]) rfl rfl rfl rfl (.cons rfl (flat_sl rfl) (.nil)) rfl rfl) rfl ?_
   refine k_op0 (d := 34) (b := 609) (j' := 16) rfl rfl rfl rfl (g_tt rfl rfl rfl g2) (T_callV (lvs := [_, _, _, _]) (L := [(1, 161), (2, 241), (3, 242), (4, 577)]) (acheck_spec wF (liveL wF).1 (liveL wF).2 [1, 1] 2 wF_lf (by decide +kernel) (by decide +kernel) (by decide +kernel) (by decide +kernel)) body44 rfl rfl rfl rfl (.fz rfl (.fz rfl (.fz rfl (.lend rfl (.nil))))) rfl) rfl ?_
   refine k_op0 (d := 35) (b := 625) (j' := 17) rfl rfl rfl rfl (g_tt rfl rfl rfl g2) (T_not rfl rfl) rfl ?_
   refine q0 36 641 18 rfl rfl (T_pick_t rfl rfl rfl g2) rfl ?_
   refine q0 37 657 19 rfl rfl (T_move rfl rfl) rfl ?_
   refine k_split (d := 37) rfl (fun g3 => ?_) (fun g3 => ?_)
   ·have h3 := g3; (try simp only [cmpB, decide_eq_true_eq, decide_eq_false_iff_not, beq_iff_eq, beq_eq_false_iff_ne, bne_iff_ne, ne_eq, bne_eq_false_iff_eq, Bool.not_eq_true', Bool.not_eq_false', Int.not_lt, Int.not_le] at h3)
    refine k_op0 (d := 38) (b := 673) (j' := 20) rfl rfl rfl rfl (g_tt rfl rfl rfl g3) (T_load_bA D (l := [_, _]) rfl rfl rfl rfl rfl rfl rfl) rfl ?_
    refine k_op0 (d := 39) (b := 689) (j' := 21) rfl rfl rfl rfl (g_tt rfl rfl rfl g3) (T_load_bA D (l := [_, _]) rfl rfl rfl rfl rfl rfl rfl) rfl ?_
    refine k_op1 (d := 40) (b := 705) (j' := 22) rfl rfl rfl rfl (g_tt rfl rfl rfl g3) (T_bs D (ys := [_, _]) (enc := eI) (l := [_, _]) rfl rfl rfl rfl rfl rfl (.cons rfl (flat_v rfl) (.cons rfl (flat_v rfl) (.nil))) rfl rfl rfl rfl (.v rfl (.v rfl (.nil))) rfl rfl) rfl ?_
    refine k_op0 (d := 41) (b := 721) (j' := 23) rfl rfl rfl rfl (g_tt rfl rfl rfl g3) (T_build D (l := [_]) rfl rfl rfl rfl (.cons rfl (flat_sl rfl) (.nil)) rfl rfl) rfl ?_
    refine k_op0 (d := 42) (b := 737) (j' := 24) rfl rfl rfl rfl (g_tt rfl rfl rfl g3) (T_callV (lvs := [_, _, _, _]) (L := [(1, 161), (2, 241), (3, 242), (4, 705)]) (acheck_spec wF (liveL wF).1 (liveL wF).2 [2, -5] 2 wF_lf (by decide +kernel) (by decide +kernel) (by decide +kernel) (by decide +kernel)) body44 rfl rfl rfl rfl (.fz rfl (.fz rfl (.fz rfl (.lend rfl (.nil))))) rfl) rfl ?_
    refine q0 43 753 25 rfl rfl (T_pick_t rfl rfl rfl g3) rfl ?_
    refine q0 44 769 26 rfl rfl (T_move rfl rfl) rfl ?_
    refine k_split (d := 44) rfl (fun g4 => ?_) (fun g4 => ?_)
    ·have h4 := g4; (try simp only [cmpB, decide_eq_true_eq, decide_eq_false_iff_not, beq_iff_eq, beq_eq_false_iff_ne, bne_iff_ne, ne_eq, bne_eq_false_iff_eq, Bool.not_eq_true', Bool.not_eq_false', Int.not_lt, Int.not_le] at h4)
     refine k_op1 (d := 45) (b := 785) (j' := 27) rfl rfl rfl rfl (g_tt rfl rfl rfl g4) (T_bs D (ys := [_, _]) (enc := eI) (l := [_, _]) rfl rfl rfl rfl rfl rfl (.cons rfl (flat_v rfl) (.cons rfl (flat_v rfl) (.nil))) rfl rfl rfl rfl (.v rfl (.v rfl (.nil))) rfl rfl) rfl ?_
     refine k_op0 (d := 46) (b := 801) (j' := 28) rfl rfl rfl rfl (g_tt rfl rfl rfl g4) (T_build D (l := [_]) rfl rfl rfl rfl (.cons rfl (flat_sl rfl) (.nil)) rfl rfl) rfl ?_
     refine k_op0 (d := 47) (b := 817) (j' := 29) rfl rfl rfl rfl (g_tt rfl rfl rfl g4) (T_callV (lvs := [_]) (L := [(1, 785)]) (words_spec [2, -5] (by decide) (by decide)) body65 rfl rfl rfl rfl (.lend rfl (.nil)) rfl) rfl ?_
     refine k_op0 (d := 48) (b := 833) (j' := 30) rfl rfl rfl rfl (g_tt rfl rfl rfl g4) (T_cmp rfl rfl rfl rfl) rfl ?_
     refine q0 49 849 31 rfl rfl (T_pick_t rfl rfl rfl g4) rfl ?_
     refine q0 0 865 32 rfl rfl (T_assign rfl rfl) rfl ?_
     refine k_done rfl ?_
     refine thenK_n ?_
     refine W_ret ?_
     exact .mk [] (.inr rfl) (.tmp rfl (.nil)) (by first | rfl | exact absurd g1 (by decide +kernel) | exact absurd g2 (by decide +kernel) | exact absurd g3 (by decide +kernel) | exact absurd g4 (by decide +kernel) | exact absurd g5 (by decide +kernel) | exact absurd g6 (by decide +kernel) | exact absurd g7 (by decide +kernel) | exact absurd g8 (by decide +kernel) | decide +kernel) (.nil) rfl
    ·have h4 := g4; (try simp only [cmpB, decide_eq_true_eq, decide_eq_false_iff_not, beq_iff_eq, beq_eq_false_iff_ne, bne_iff_ne, ne_eq, bne_eq_false_iff_eq, Bool.not_eq_true', Bool.not_eq_false', Int.not_lt, Int.not_le] at h4)
     refine k_no (d := 45) (j' := 27) rfl rfl rfl (g_tf rfl rfl rfl g4) ?_
     refine k_no (d := 46) (j' := 28) rfl rfl rfl (g_tf rfl rfl rfl g4) ?_
     refine k_no (d := 47) (j' := 29) rfl rfl rfl (g_tf rfl rfl rfl g4) ?_
     refine k_no (d := 48) (j' := 30) rfl rfl rfl (g_tf rfl rfl rfl g4) ?_
     refine q0 49 849 31 rfl rfl (T_pick_f rfl rfl rfl g4) rfl ?_
     refine q0 0 865 32 rfl rfl (T_assign rfl rfl) rfl ?_
     refine k_done rfl ?_
     refine thenK_n ?_
     refine W_ret ?_
     exact .mk [] (.inr rfl) (.tmp rfl (.nil)) (by first | rfl | exact absurd g1 (by decide +kernel) | exact absurd g2 (by decide +kernel) | exact absurd g3 (by decide +kernel) | exact absurd g4 (by decide +kernel) | exact absurd g5 (by decide +kernel) | exact absurd g6 (by decide +kernel) | exact absurd g7 (by decide +kernel) | exact absurd g8 (by decide +kernel) | decide +kernel) (.nil) rfl
   ·have h3 := g3; (try simp only [cmpB, decide_eq_true_eq, decide_eq_false_iff_not, beq_iff_eq, beq_eq_false_iff_ne, bne_iff_ne, ne_eq, bne_eq_false_iff_eq, Bool.not_eq_true', Bool.not_eq_false', Int.not_lt, Int.not_le] at h3)
    refine k_no (d := 38) (j' := 20) rfl rfl rfl (g_tf rfl rfl rfl g3) ?_
    refine k_no (d := 39) (j' := 21) rfl rfl rfl (g_tf rfl rfl rfl g3) ?_
    refine k_no (d := 40) (j' := 22) rfl rfl rfl (g_tf rfl rfl rfl g3) ?_
    refine k_no (d := 41) (j' := 23) rfl rfl rfl (g_tf rfl rfl rfl g3) ?_
    refine k_no (d := 42) (j' := 24) rfl rfl rfl (g_tf rfl rfl rfl g3) ?_
    refine q0 43 753 25 rfl rfl (T_pick_f rfl rfl rfl g3) rfl ?_
    refine q0 44 769 26 rfl rfl (T_move rfl rfl) rfl ?_
    refine k_no (d := 45) (j' := 27) rfl rfl rfl (g_tf rfl rfl rfl rfl) ?_
    refine k_no (d := 46) (j' := 28) rfl rfl rfl (g_tf rfl rfl rfl rfl) ?_
    refine k_no (d := 47) (j' := 29) rfl rfl rfl (g_tf rfl rfl rfl rfl) ?_
    refine k_no (d := 48) (j' := 30) rfl rfl rfl (g_tf rfl rfl rfl rfl) ?_
    refine q0 49 849 31 rfl rfl (T_pick_f rfl rfl rfl rfl) rfl ?_
    refine q0 0 865 32 rfl rfl (T_assign rfl rfl) rfl ?_
    refine k_done rfl ?_
    refine thenK_n ?_
    refine W_ret ?_
    exact .mk [] (.inr rfl) (.tmp rfl (.nil)) (by first | rfl | exact absurd g1 (by decide +kernel) | exact absurd g2 (by decide +kernel) | exact absurd g3 (by decide +kernel) | exact absurd g4 (by decide +kernel) | exact absurd g5 (by decide +kernel) | exact absurd g6 (by decide +kernel) | exact absurd g7 (by decide +kernel) | exact absurd g8 (by decide +kernel) | decide +kernel) (.nil) rfl
  ·have h2 := g2; (try simp only [cmpB, decide_eq_true_eq, decide_eq_false_iff_not, beq_iff_eq, beq_eq_false_iff_ne, bne_iff_ne, ne_eq, bne_eq_false_iff_eq, Bool.not_eq_true', Bool.not_eq_false', Int.not_lt, Int.not_le] at h2)
   refine k_no (d := 30) (j' := 12) rfl rfl rfl (g_tf rfl rfl rfl g2) ?_
   refine k_no (d := 31) (j' := 13) rfl rfl rfl (g_tf rfl rfl rfl g2) ?_
   refine k_no (d := 32) (j' := 14) rfl rfl rfl (g_tf rfl rfl rfl g2) ?_
   refine k_no (d := 33) (j' := 15) rfl rfl rfl (g_tf rfl rfl rfl g2) ?_
   refine k_no (d := 34) (j' := 16) rfl rfl rfl (g_tf rfl rfl rfl g2) ?_
   refine k_no (d := 35) (j' := 17) rfl rfl rfl (g_tf rfl rfl rfl g2) ?_
   refine q0 36 641 18 rfl rfl (T_pick_f rfl rfl rfl g2) rfl ?_
   refine q0 37 657 19 rfl rfl (T_move rfl rfl) rfl ?_
   refine k_no (d := 38) (j' := 20) rfl rfl rfl (g_tf rfl rfl rfl rfl) ?_
   refine k_no (d := 39) (j' := 21) rfl rfl rfl (g_tf rfl rfl rfl rfl) ?_
   refine k_no (d := 40) (j' := 22) rfl rfl rfl (g_tf rfl rfl rfl rfl) ?_
   refine k_no (d := 41) (j' := 23) rfl rfl rfl (g_tf rfl rfl rfl rfl) ?_
   refine k_no (d := 42) (j' := 24) rfl rfl rfl (g_tf rfl rfl rfl rfl) ?_
   refine q0 43 753 25 rfl rfl (T_pick_f rfl rfl rfl rfl) rfl ?_
   refine q0 44 769 26 rfl rfl (T_move rfl rfl) rfl ?_
   refine k_no (d := 45) (j' := 27) rfl rfl rfl (g_tf rfl rfl rfl rfl) ?_
   refine k_no (d := 46) (j' := 28) rfl rfl rfl (g_tf rfl rfl rfl rfl) ?_
   refine k_no (d := 47) (j' := 29) rfl rfl rfl (g_tf rfl rfl rfl rfl) ?_
   refine k_no (d := 48) (j' := 30) rfl rfl rfl (g_tf rfl rfl rfl rfl) ?_
   refine q0 49 849 31 rfl rfl (T_pick_f rfl rfl rfl rfl) rfl ?_
   refine q0 0 865 32 rfl rfl (T_assign rfl rfl) rfl ?_
   refine k_done rfl ?_
   refine thenK_n ?_
   refine W_ret ?_
   exact .mk [] (.inr rfl) (.tmp rfl (.nil)) (by first | rfl | exact absurd g1 (by decide +kernel) | exact absurd g2 (by decide +kernel) | exact absurd g3 (by decide +kernel) | exact absurd g4 (by decide +kernel) | exact absurd g5 (by decide +kernel) | exact absurd g6 (by decide +kernel) | exact absurd g7 (by decide +kernel) | exact absurd g8 (by decide +kernel) | decide +kernel) (.nil) rfl
 ·have h1 := g1; (try simp only [cmpB, decide_eq_true_eq, decide_eq_false_iff_not, beq_iff_eq, beq_eq_false_iff_ne, bne_iff_ne, ne_eq, bne_eq_false_iff_eq, Bool.not_eq_true', Bool.not_eq_false', Int.not_lt, Int.not_le] at h1)
  refine k_no (d := 24) (j' := 6) rfl rfl rfl (g_tf rfl rfl rfl g1) ?_
  refine k_no (d := 25) (j' := 7) rfl rfl rfl (g_tf rfl rfl rfl g1) ?_
  refine k_no (d := 26) (j' := 8) rfl rfl rfl (g_tf rfl rfl rfl g1) ?_
  refine k_no (d := 27) (j' := 9) rfl rfl rfl (g_tf rfl rfl rfl g1) ?_
  refine q0 28 513 10 rfl rfl (T_pick_f rfl rfl rfl g1) rfl ?_
  refine q0 29 529 11 rfl rfl (T_move rfl rfl) rfl ?_
  refine k_no (d := 30) (j' := 12) rfl rfl rfl (g_tf rfl rfl rfl rfl) ?_
  refine k_no (d := 31) (j' := 13) rfl rfl rfl (g_tf rfl rfl rfl rfl) ?_
  refine k_no (d := 32) (j' := 14) rfl rfl rfl (g_tf rfl rfl rfl rfl) ?_
  refine k_no (d := 33) (j' := 15) rfl rfl rfl (g_tf rfl rfl rfl rfl) ?_
  refine k_no (d := 34) (j' := 16) rfl rfl rfl (g_tf rfl rfl rfl rfl) ?_
  refine k_no (d := 35) (j' := 17) rfl rfl rfl (g_tf rfl rfl rfl rfl) ?_
  refine q0 36 641 18 rfl rfl (T_pick_f rfl rfl rfl rfl) rfl ?_
  refine q0 37 657 19 rfl rfl (T_move rfl rfl) rfl ?_
  refine k_no (d := 38) (j' := 20) rfl rfl rfl (g_tf rfl rfl rfl rfl) ?_
  refine k_no (d := 39) (j' := 21) rfl rfl rfl (g_tf rfl rfl rfl rfl) ?_
  refine k_no (d := 40) (j' := 22) rfl rfl rfl (g_tf rfl rfl rfl rfl) ?_
  refine k_no (d := 41) (j' := 23) rfl rfl rfl (g_tf rfl rfl rfl rfl) ?_
  refine k_no (d := 42) (j' := 24) rfl rfl rfl (g_tf rfl rfl rfl rfl) ?_
  refine q0 43 753 25 rfl rfl (T_pick_f rfl rfl rfl rfl) rfl ?_
  refine q0 44 769 26 rfl rfl (T_move rfl rfl) rfl ?_
  refine k_no (d := 45) (j' := 27) rfl rfl rfl (g_tf rfl rfl rfl rfl) ?_
  refine k_no (d := 46) (j' := 28) rfl rfl rfl (g_tf rfl rfl rfl rfl) ?_
  refine k_no (d := 47) (j' := 29) rfl rfl rfl (g_tf rfl rfl rfl rfl) ?_
  refine k_no (d := 48) (j' := 30) rfl rfl rfl (g_tf rfl rfl rfl rfl) ?_
  refine q0 49 849 31 rfl rfl (T_pick_f rfl rfl rfl rfl) rfl ?_
  refine q0 0 865 32 rfl rfl (T_assign rfl rfl) rfl ?_
  refine k_done rfl ?_
  refine thenK_n ?_
  refine W_ret ?_
  exact .mk [] (.inr rfl) (.tmp rfl (.nil)) (by first | rfl | exact absurd g1 (by decide +kernel) | exact absurd g2 (by decide +kernel) | exact absurd g3 (by decide +kernel) | exact absurd g4 (by decide +kernel) | exact absurd g5 (by decide +kernel) | exact absurd g6 (by decide +kernel) | exact absurd g7 (by decide +kernel) | exact absurd g8 (by decide +kernel) | decide +kernel) (.nil) rfl
theorem body23 : (Try.prog.funcs[23]?).map (fun fn => (fn.name == "runtime.NumGoroutine" || fn.body.isNone)) = some false := by kernel_rfl
theorem law23 (f : GFn) (y : Int) (hf : FnOk f) (hy : 0 ≤ y ∧ y < 256) : Spec Try.prog 23 [.agg [.v (.int .i64 f.regs), .r 1], .v (.int .u8 y)] 2 [(1, .fz 5 (f.blocks.map eBlock))] (.v (.bool true)) 2 [] := by
 refine spec_of D (fn := Try.f23) rfl rfl (Nat.le_of_ble_eq_true rfl) ?_
 refine W_seq ?_
 refine W_seqK (b' := 34) rfl rfl ?_
 refine q1 2 2 1 rfl rfl (T_box rfl rfl flat_agg) rfl ?_
 refine q0 4 18 2 rfl rfl (T_assign rfl rfl) rfl ?_
 refine k_done rfl ?_
 refine thenK_n ?_
 refine W_seq ?_
 refine W_seq ?_
 refine W_seqK (b' := 82) rfl rfl ?_
 refine q0 7 34 1 rfl rfl (T_load_bA D (l := [_, _]) rfl rfl rfl rfl rfl rfl rfl) rfl ?_
 refine q0 8 50 2 rfl rfl (T_callV (lvs := [_]) (L := [(1, 1)]) (small28_spec f hf) body41 rfl rfl rfl rfl (.fz rfl (.nil)) rfl) rfl ?_
 refine q0 9 66 3 rfl rfl (T_not rfl rfl) rfl ?_
 refine k_done rfl ?_
 refine thenK_n ?_
 refine W_cond rfl (fun g1 => ?_) (fun g1 => ?_)
 ·have h1 := g1; (try simp only [cmpB, decide_eq_true_eq, decide_eq_false_iff_not, beq_iff_eq, beq_eq_false_iff_ne, bne_iff_ne, ne_eq, bne_eq_false_iff_eq, Bool.not_eq_true', Bool.not_eq_false', Int.not_lt, Int.not_le] at h1)
  refine W_seq ?_
  refine W_seqK (b' := 114) rfl rfl ?_
  refine q0 10 82 1 rfl rfl (T_callV (lvs := []) (L := []) (awake28_spec) body40 rfl rfl rfl rfl (.nil) rfl) rfl ?_
  refine q0 4 98 2 rfl rfl (T_assign rfl rfl) rfl ?_
  refine k_done rfl ?_
  refine thenK_n ?_
  refine W_ret ?_
  refine thenK_r ?_
  exact .mk [] (.inr rfl) (.tmp rfl (.nil)) (by first | rfl | (simp only [q2, resLV, LV.ren]; done) | (simp [q2, resLV, LV.ren]; done) | exact absurd (q1.symm.trans (by assumption)) (by decide) | (exfalso; simp_all; done)) (.nil) rfl
 ·have h1 := g1; (try simp only [cmpB, decide_eq_true_eq, decide_eq_false_iff_not, beq_iff_eq, beq_eq_false_iff_ne, bne_iff_ne, ne_eq, bne_eq_false_iff_eq, Bool.not_eq_true', Bool.not_eq_false', Int.not_lt, Int.not_le] at h1)
  refine W_skip ?_
  refine thenK_n ?_
  refine W_seq ?_
  have hS := s28 (by assumption : small28 f = true)
  have hSr := hS.regs
  have hSl := hS.len
  refine W_seqK (b' := 98) rfl rfl ?_
  refine qn 5 82 1 rfl rfl (T_nilbox [(3, 1)] (T_alloc D rfl rfl rfl) rfl (.cons (.nil rfl) <| .nil) (upd' := [(82, .box 60 [.r 83]), (83, .row 3 1 (List.map eI ([] : List (Int))))]) (nn' := 2) rfl rfl) rfl ?_
  refine k_done rfl ?_
  refine thenK_n ?_
  refine W_seq ?_
  refine W_seq ?_
  refine W_seqK (b' := 114) rfl rfl ?_
  refine q0 6 98 1 rfl rfl (T_assign rfl rfl) rfl ?_
  refine k_done rfl ?_
  refine thenK_n ?_
  refine W_block ?_
  refine W_loop (ι := Nat) 5 (fun r => ⟨[(1, .v (.int .u8 y)), (2, .p 2 0), (5, .p 3 0), (6, .v (.int .i64 (r : Int)))], [(1, .fz 5 (f.blocks.map eBlock)), (2, .box 29 [.v (.int .i64 f.regs), .r 1]), (3, .box 60 [.r 4]), (4, .row 3 1 ((eachL y r).map eI))]⟩) (fun r => r ≤ f.regs.toNat) (fun r => f.regs.toNat - r) (0) (by exact Nat.zero_le _) ?_ (fun r hR => ?_)
  ·exact ⟨[(2, 2), (3, 82), (4, 83)], .eq rfl (.same rfl rfl (.same rfl rfl (.eq rfl (.nil) (by first | rfl | simp)))) (by first | rfl | simp), .fzE rfl (.box (by first | rfl | simp) (.box (by first | rfl | simp) (.rowE rfl (.nil) (by first | rfl | simp)))) (by first | rfl | simp), rfl⟩
  have hel := eachL_len y r
  refine W_seq ?_
  refine W_seq ?_
  refine W_seqK (b' := 69) rfl rfl ?_
  refine q0 11 5 1 rfl rfl (T_move rfl rfl) rfl ?_
  refine q0 12 21 2 rfl rfl (T_fa D (m := 0) rfl rfl rfl rfl rfl rfl) rfl ?_
  refine q0 13 37 3 rfl rfl (T_load_b D rfl rfl rfl rfl rfl rfl) rfl ?_
  refine q0 14 53 4 rfl rfl (T_cmp rfl rfl rfl rfl) rfl ?_
  refine k_done rfl ?_
  refine thenK_n ?_
  refine W_cond rfl (fun g2 => ?_) (fun g2 => ?_)
  ·have h2 := c_lss_t g2
   refine W_skip ?_
   refine thenK_n ?_
   refine W_seq ?_
   refine W_block ?_
   refine W_seqK (b' := 245) rfl rfl ?_
   refine q0 17 69 1 rfl rfl (T_fa D (m := 0) rfl rfl rfl rfl rfl rfl) rfl ?_
   refine q0 18 85 2 rfl rfl (T_load_b D rfl rfl rfl rfl rfl rfl) rfl ?_
   refine q0 19 101 3 rfl rfl (T_move rfl rfl) rfl ?_
   refine q0 20 117 4 rfl rfl (T_sub64 rfl rfl rfl (by first | assumption | omega | (simp; omega))) rfl ?_
   refine q0 21 133 5 rfl rfl (T_move rfl rfl) rfl ?_
   refine q0 22 149 6 rfl rfl (T_conv64 rfl rfl (by rw [Try.underlying5]; rfl) (by first | assumption | omega | (simp; omega))) rfl ?_
   refine q0 23 165 7 rfl rfl (T_sub64 rfl rfl rfl (by first | assumption | omega | (simp; omega))) rfl ?_
   refine q1 24 181 8 rfl rfl (T_bs D (ys := [_]) (enc := eI) (l := [_]) rfl rfl rfl rfl rfl rfl (.cons rfl (flat_v rfl) (.nil)) rfl rfl rfl rfl (.v rfl (.nil)) rfl rfl) rfl ?_
   refine qn 25 197 9 rfl rfl (T_append D rfl rfl rfl rfl rfl rfl rfl rfl rfl rfl rfl rfl (by (try simp only [ty3]); first | assumption | omega | (simp; omega)) (by (try simp only [ty3]); first | assumption | omega | (simp; omega))) rfl ?_
   refine q0 26 213 10 rfl rfl (T_fa D (m := 0) rfl rfl rfl rfl rfl rfl) rfl ?_
   refine s1 229 11 rfl rfl (T_stB D (cs' := [_]) rfl rfl rfl rfl (flat_sl rfl) rfl rfl (Nat.le_of_ble_eq_true rfl) rfl) rfl ?_
   refine k_done rfl ?_
   refine blockK_n ?_
   refine thenK_n ?_
   refine W_seqK (b' := 293) rfl rfl ?_
   refine q0 15 245 1 rfl rfl (T_move rfl rfl) rfl ?_
   refine q0 16 261 2 rfl rfl (T_add64 rfl rfl rfl (by first | assumption | omega | (simp; omega))) rfl ?_
   refine q0 6 277 3 rfl rfl (T_assign rfl rfl) rfl ?_
   refine k_done rfl ?_
   refine thenK_n ?_
   refine ⟨r + 1, by (try dsimp only); omega, by (try dsimp only); omega, ?_⟩
   exact ⟨[(2, 2), (3, 3), (4, 197)], .eq rfl (.same rfl rfl (.same rfl rfl (.eq rfl (.nil) (by first | rfl | (rw [eachL_succ]; first | done | rfl | (simp; done)))))) rfl, .fzE rfl (.box (by first | rfl | (rw [eachL_succ]; first | done | rfl | (simp; done))) (.box (by first | rfl | (rw [eachL_succ]; first | done | rfl | (simp; done))) (.rowE rfl (.nil) (by first | rfl | (rw [eachL_succ]; first | done | rfl | (simp; done)))))) rfl, rfl⟩
  ·have h2 := c_lss_f g2
   refine W_exit ?_
   refine thenK_e ?_
   refine thenK_e ?_
   refine blockK_hit ?_
   refine thenK_n ?_
   refine W_seq ?_
   have er : r = f.regs.toNat := by omega
   subst er
   have q1 := each_ok (k := 0) hS (ev_closed hS.lf) hy
   have q2 := each_ok (k := 8) hS (live_closed hS.lf) hy
   refine W_anyK (b' := 325) rfl rfl rfl ?_
   refine q0 27 69 1 rfl rfl (T_callV (lvs := []) (L := []) (awake28_spec) body40 rfl rfl rfl rfl (.nil) rfl) rfl ?_
   refine q0 28 85 2 rfl rfl (T_move rfl rfl) rfl ?_
   refine k_op0 (d := 29) (b := 101) (j' := 3) rfl rfl rfl rfl (g_tt rfl rfl rfl rfl) (T_load_bA D (l := [_, _]) rfl rfl rfl rfl rfl rfl rfl) rfl ?_
   refine k_op0 (d := 30) (b := 117) (j' := 4) rfl rfl rfl rfl (g_tt rfl rfl rfl rfl) (T_load_bA D (l := [_, _]) rfl rfl rfl rfl rfl rfl rfl) rfl ?_
   refine k_opn (d := 31) (b := 133) (j' := 5) rfl rfl rfl rfl (g_tt rfl rfl rfl rfl) (T_call (lvs := [_]) (L := [(1, 1)]) (lv := .agg [.r 133, .r 134]) (upd := [(133, .row 48 1 _), (134, .row 48 1 _)]) (nn := 2) false (every_spec f hS.lf) body63 rfl rfl rfl rfl (.fz rfl (.nil)) rfl (.inl rfl) rfl rfl rfl) rfl ?_
   refine k_op0 (d := 32) (b := 149) (j' := 6) rfl rfl rfl rfl (g_tt rfl rfl rfl rfl) (T_load_bA D (l := [_]) rfl rfl rfl rfl rfl rfl rfl) rfl ?_
   refine k_op0 (d := 33) (b := 165) (j' := 7) rfl rfl rfl rfl (g_tt rfl rfl rfl rfl) (T_callV (lvs := [_, _, _, _]) (L := [(1, 1), (2, 133), (3, 134), (4, 4)]) (acheck_spec f (evL f) (evL f) (eachL y f.regs.toNat) 0 hS.lf (by have := (evL_sz f).len; omega) (by have := (evL_sz f).len; omega) hS.pos (by rw [eachL_len]; omega)) body44 rfl rfl rfl rfl (.fz rfl (.lend rfl (.lend rfl (.lend rfl (.nil))))) rfl) rfl ?_
   refine q0 34 181 8 rfl rfl (T_pick_t rfl rfl rfl rfl) rfl ?_
   refine q0 35 197 9 rfl rfl (T_move rfl rfl) rfl ?_
   refine k_split (d := 35) rfl (fun g3 => ?_) (fun g3 => ?_)
   ·have h3 := g3; (try simp only [cmpB, decide_eq_true_eq, decide_eq_false_iff_not, beq_iff_eq, beq_eq_false_iff_ne, bne_iff_ne, ne_eq, bne_eq_false_iff_eq, Bool.not_eq_true', Bool.not_eq_false', Int.not_lt, Int.not_le] at h3)
    refine k_op0 (d := 36) (b := 213) (j' := 10) rfl rfl rfl rfl (g_tt rfl rfl rfl g3) (T_load_bA D (l := [_, _]) rfl rfl rfl rfl rfl rfl rfl) rfl ?_
    refine k_op0 (d := 37) (b := 229) (j' := 11) rfl rfl rfl rfl (g_tt rfl rfl rfl g3) (T_load_bA D (l := [_, _]) rfl rfl rfl rfl rfl rfl rfl) rfl ?_
    refine k_opn (d := 38) (b := 245) (j' := 12) rfl rfl rfl rfl (g_tt rfl rfl rfl g3) (T_call (lvs := [_]) (L := [(1, 1)]) (lv := .agg [.r 245, .r 246]) (upd := [(245, .fz 1 _), (246, .fz 1 _)]) (nn := 2) false (rlive_spec f hS.lf) body42 rfl rfl rfl rfl (.fz rfl (.nil)) rfl (.inl rfl) rfl rfl rfl) rfl ?_
    refine k_op0 (d := 39) (b := 261) (j' := 13) rfl rfl rfl rfl (g_tt rfl rfl rfl g3) (T_load_bA D (l := [_]) rfl rfl rfl rfl rfl rfl rfl) rfl ?_
    refine k_op0 (d := 40) (b := 277) (j' := 14) rfl rfl rfl rfl (g_tt rfl rfl rfl g3) (T_callV (lvs := [_, _, _, _]) (L := [(1, 1), (2, 245), (3, 246), (4, 4)]) (acheck_spec f (liveL f).1 (liveL f).2 (eachL y f.regs.toNat) 8 hS.lf (by have := (live_sz f).i.len; omega) (by have := (live_sz f).o.len; omega) hS.pos (by rw [eachL_len]; omega)) body44 rfl rfl rfl rfl (.fz rfl (.fz rfl (.fz rfl (.lend rfl (.nil))))) rfl) rfl ?_
    refine q0 41 293 15 rfl rfl (T_pick_t rfl rfl rfl g3) rfl ?_
    refine q0 4 309 16 rfl rfl (T_assign rfl rfl) rfl ?_
    refine k_done rfl ?_
    refine ⟨rfl, ?_⟩
    refine thenK_n ?_
    refine W_ret ?_
    exact .mk [] (.inr rfl) (.tmp rfl (.nil)) (by first | rfl | (simp only [q2, resLV, LV.ren]; done) | (simp [q2, resLV, LV.ren]; done) | exact absurd (q1.symm.trans (by assumption)) (by decide) | (exfalso; simp_all; done)) (.nil) rfl
   ·have h3 := g3; (try simp only [cmpB, decide_eq_true_eq, decide_eq_false_iff_not, beq_iff_eq, beq_eq_false_iff_ne, bne_iff_ne, ne_eq, bne_eq_false_iff_eq, Bool.not_eq_true', Bool.not_eq_false', Int.not_lt, Int.not_le] at h3)
    refine k_no (d := 36) (j' := 10) rfl rfl rfl (g_tf rfl rfl rfl g3) ?_
    refine k_no (d := 37) (j' := 11) rfl rfl rfl (g_tf rfl rfl rfl g3) ?_
    refine k_no (d := 38) (j' := 12) rfl rfl rfl (g_tf rfl rfl rfl g3) ?_
    refine k_no (d := 39) (j' := 13) rfl rfl rfl (g_tf rfl rfl rfl g3) ?_
    refine k_no (d := 40) (j' := 14) rfl rfl rfl (g_tf rfl rfl rfl g3) ?_
    refine q0 41 293 15 rfl rfl (T_pick_f rfl rfl rfl g3) rfl ?_
    refine q0 4 309 16 rfl rfl (T_assign rfl rfl) rfl ?_
    refine k_done rfl ?_
    refine ⟨rfl, ?_⟩
    refine thenK_n ?_
    refine W_ret ?_
    exact .mk [] (.inr rfl) (.tmp rfl (.nil)) (by first | rfl | (simp only [q2, resLV, LV.ren]; done) | (simp [q2, resLV, LV.ren]; done) | exact absurd (q1.symm.trans (by assumption)) (by decide) | (exfalso; simp_all; done)) (.nil) rfl
end Lg
end Go.Proofs.Ytpfhmodjjljpjaa

namespace Go.Proofs.Ytpfhmodjjljpjaa
open Go.RowKit
namespace Lg
set_option linter.unusedSimpArgs false
set_option linter.unusedVariables false
theorem prI_comm (a b : Int) : prI a b = prI b a := by
  unfold prI mnI mxI
  refine Prod.ext ?_ ?_ <;> dsimp only <;> split <;> split <;> omega
section
variable {s v : List Bool} {m : List (Int × Int)} {p : Int × Int} {t : GTac} {i j n : Nat}
theorem allJ_mono (h : p ∈ m) : ∀ j, p ∈ allJ s i m j
  | 0 => h
  | j + 1 => by rw [allJ]; split; exact putM_mem.2 (.inr (allJ_mono h j)); exact allJ_mono h j
theorem allJ_in (h1 : s.getD i default = true) (h2 : s.getD j default = true) : ∀ n, j < n → prI i j ∈ allJ s i m n
  | 0, h => by omega
  | n + 1, h => by
    rw [allJ]
    rcases Nat.lt_or_ge j n with hj | hj
    · have := allJ_in h1 h2 n hj
      split
      · exact putM_mem.2 (.inr this)
      · exact this
    · obtain rfl : j = n := by omega
      rw [if_pos ⟨h1, h2⟩]; exact putM_mem.2 (.inl rfl)
theorem allI_mono (h : p ∈ m) : ∀ n, p ∈ allI s m n
  | 0 => h
  | n + 1 => allJ_mono (allI_mono h n) n
theorem allI_in (hj : j < i) (h1 : s.getD i default = true) (h2 : s.getD j default = true) : ∀ n, i < n → prI i j ∈ allI s m n
  | 0, h => by omega
  | n + 1, h => by
    rw [allI]
    rcases Nat.lt_or_ge i n with hi | hi
    · exact allJ_mono (allI_in hj h1 h2 n hi) n
    · obtain rfl : i = n := by omega
      exact allJ_in h1 h2 _ hj
theorem oneM_mono (h : p ∈ m) : ∀ n, p ∈ oneM t s m n
  | 0 => h
  | n + 1 => by rw [oneM]; split; exact putM_mem.2 (.inr (oneM_mono h n)); exact oneM_mono h n
theorem oneM_in (h1 : s.getD i default = true) (h2 : 0 ≤ setsT t) (h3 : (i : Int) ≠ setsT t) : ∀ n, i < n → prI i (setsT t) ∈ oneM t s m n
  | 0, h => by omega
  | n + 1, h => by
    rw [oneM]
    rcases Nat.lt_or_ge i n with hi | hi
    · have := oneM_in h1 h2 h3 n hi
      split
      · exact putM_mem.2 (.inr this)
      · exact this
    · obtain rfl : i = n := by omega
      rw [if_pos ⟨h1, h2, h3⟩]; exact putM_mem.2 (.inl rfl)
theorem set_true {l : List Bool} {a b : Nat} (h : l.getD a default = true) : (l.set b true).getD a default = true := by
  by_cases hb : b < l.length
  · rw [getD_set hb]; split
    · rfl
    · exact h
  · rw [List.set_eq_of_length_le (by omega)]; exact h
theorem oneB'_mono (h : v.getD i default = true) : ∀ n, (oneB' t s v n).getD i default = true
  | 0 => h
  | n + 1 => by rw [oneB']; split; exact set_true (oneB'_mono h n); exact oneB'_mono h n
theorem oneB'_in (h1 : s.getD i default = true) (h2 : t.op = 10) (hv : i < v.length) : ∀ n, i < n → (oneB' t s v n).getD i default = true
  | 0, h => by omega
  | n + 1, h => by
    rw [oneB']
    rcases Nat.lt_or_ge i n with hi | hi
    · have := oneB'_in h1 h2 hv n hi
      split
      · exact set_true this
      · exact this
    · obtain rfl : i = n := by omega
      rw [if_pos ⟨h1, h2⟩, getD_set (by rw [oneB'_len]; exact hv), if_pos rfl]
end
section
variable {b : GBlock} {out : List Bool} {c : Cf} {p : Int × Int} {a q : Nat}
theorem blkC_mono (h : p ∈ c.1) : ∀ n, p ∈ (blkC b out c n).1
  | 0 => h
  | n + 1 => oneM_mono (blkC_mono h n) _
theorem blkC_mono2 (h : c.2.getD a default = true) : ∀ n, (blkC b out c n).2.getD a default = true
  | 0 => h
  | n + 1 => oneB'_mono (blkC_mono2 h n) _
theorem blkC_in (h1 : ((behL b out).getD q default).getD a default = true) (h2 : 0 ≤ setsT (b.ins.getD q default)) (h3 : (a : Int) ≠ setsT (b.ins.getD q default)) : ∀ n, q < n → prI a (setsT (b.ins.getD q default)) ∈ (blkC b out c n).1
  | 0, h => by omega
  | n + 1, h => by
    rcases Nat.lt_or_ge q n with hq | hq
    · exact oneM_mono (blkC_in h1 h2 h3 n hq) _
    · obtain rfl : q = n := by omega
      exact oneM_in h1 h2 h3 _ (getD_lt h1)
theorem blkC_in2 (h1 : ((behL b out).getD q default).getD a default = true) (h2 : (b.ins.getD q default).op = 10) (hc : a < c.2.length) : ∀ n, q < n → (blkC b out c n).2.getD a default = true
  | 0, h => by omega
  | n + 1, h => by
    rcases Nat.lt_or_ge q n with hq | hq
    · exact oneB'_mono (blkC_in2 h1 h2 hc n hq) _
    · obtain rfl : q = n := by omega
      exact oneB'_in h1 h2 (by rw [blkC_len]; exact hc) _ (getD_lt h1)
end
section
variable {f : GFn} {li lo : List (List Bool)} {p : Int × Int} {a b q i j : Nat}
theorem ofC_mono (h : p ∈ (ofC f li lo 0).1) : ∀ n, p ∈ (ofC f li lo n).1
  | 0 => h
  | n + 1 => blkC_mono (ofC_mono h n) _
theorem confl_all (hj : j < i) (h1 : (li.getD 0 default).getD i default = true) (h2 : (li.getD 0 default).getD j default = true) : prI i j ∈ (confl f li lo).1 := ofC_mono (allI_in hj h1 h2 _ (getD_lt h1)) _
theorem ofC_in (hq : q < (f.blocks.getD b default).ins.length) (h1 : ((behL (f.blocks.getD b default) (lo.getD b default)).getD q default).getD a default = true) (h2 : 0 ≤ setsT ((f.blocks.getD b default).ins.getD q default)) (h3 : (a : Int) ≠ setsT ((f.blocks.getD b default).ins.getD q default)) : ∀ n, b < n → prI a (setsT ((f.blocks.getD b default).ins.getD q default)) ∈ (ofC f li lo n).1
  | 0, h => by omega
  | n + 1, h => by
    rcases Nat.lt_or_ge b n with hb | hb
    · exact blkC_mono (ofC_in hq h1 h2 h3 n hb) _
    · obtain rfl : b = n := by omega
      exact blkC_in h1 h2 h3 _ hq
theorem ofC_in2 (hq : q < (f.blocks.getD b default).ins.length) (h1 : ((behL (f.blocks.getD b default) (lo.getD b default)).getD q default).getD a default = true) (h2 : ((f.blocks.getD b default).ins.getD q default).op = 10) (ha : a < f.regs.toNat) : ∀ n, b < n → (ofC f li lo n).2.getD a default = true
  | 0, h => by omega
  | n + 1, h => by
    rcases Nat.lt_or_ge b n with hb | hb
    · exact blkC_mono2 (ofC_in2 hq h1 h2 ha n hb) _
    · obtain rfl : b = n := by omega
      exact blkC_in2 h1 h2 (by rw [ofC_len]; exact ha) _ hq
end
section
variable {m : List (Int × Int)} {ps : List Int} {r k : Int} {c : Cf}
theorem regAt_spec : ∀ j, regAt m ps r j ≠ 0 → ∃ i, i < j ∧ regAt m ps r j = (i : Int) + 1 ∧ freeB m ps r ((i : Int) + 1) = true
  | 0, h => absurd rfl h
  | j + 1, h => by
    rw [regAt] at h ⊢
    by_cases h0 : regAt m ps r j = 0
    · rw [if_pos h0] at h ⊢
      by_cases h1 : freeB m ps r ((j : Int) + 1) = true
      · rw [if_pos h1]; exact ⟨j, by omega, rfl, h1⟩
      · rw [if_neg h1] at h; exact absurd rfl h
    · rw [if_neg h0]
      obtain ⟨i, h1, h2, h3⟩ := regAt_spec j h0
      exact ⟨i, by omega, h2, h3⟩
theorem memAt_spec : ∀ j, memAt m ps r j ≠ 0 → ∃ i, i < j ∧ memAt m ps r j = -1 - (i : Int) ∧ freeB m ps r (-1 - (i : Int)) = true
  | 0, h => absurd rfl h
  | j + 1, h => by
    rw [memAt] at h ⊢
    by_cases h0 : memAt m ps r j = 0
    · rw [if_pos h0] at h ⊢
      by_cases h1 : freeB m ps r (-1 - (j : Int)) = true
      · rw [if_pos h1]; exact ⟨j, by omega, rfl, h1⟩
      · rw [if_neg h1] at h; exact absurd rfl h
    · rw [if_neg h0]
      obtain ⟨i, h1, h2, h3⟩ := memAt_spec j h0
      exact ⟨i, by omega, h2, h3⟩
structure PlaceOk (c : Cf) (ps : List Int) (k : Int) (r : Nat) (x : Int) : Prop where
  free : freeB c.1 ps r x = true
  fits : (1 ≤ x ∧ x ≤ k) ∨ (-1 - (ps.length : Int) ≤ x ∧ x ≤ -1)
  word : c.2.getD r default = true → x ≤ -1
theorem placeOne_ok (hk : 0 ≤ k) (q : Nat) : PlaceOk c ps k q (placeOne c ps k q) := by
  unfold placeOne memOf
  by_cases h0 : regOf c ps k q = 0
  · rw [if_pos h0]
    obtain ⟨i, h1, h2, h3⟩ := memAt_spec _ (memAt_end (m := c.1) (r := q) ps)
    rw [h2]
    exact ⟨h3, .inr (by omega), fun _ => by omega⟩
  · rw [if_neg h0]
    unfold regOf at h0 ⊢
    by_cases hc : c.2.getD q default = true
    · rw [if_pos hc] at h0; exact absurd rfl h0
    · rw [if_neg hc] at h0 ⊢
      obtain ⟨i, h1, h2, h3⟩ := regAt_spec _ h0
      rw [h2]
      exact ⟨h3, .inl (by omega), fun h => absurd h hc⟩
theorem ofJ_get {n r : Nat} (h : r < n) : (ofJ c k n).getD r default = placeOne c (ofJ c k r) k r := by
  induction n with
  | zero => omega
  | succ n ih =>
    rw [ofJ]
    rcases Nat.lt_or_ge r n with hr | hr
    · rw [← ih hr]
      simp only [List.getD]
      rw [List.getElem?_append_left (by rw [ofJ_len]; exact hr)]
    · obtain rfl : r = n := by omega
      simp only [List.getD]
      rw [List.getElem?_append_right (by rw [ofJ_len]; exact Nat.le_refl _), ofJ_len]
      simp
theorem ofJ_take {n r : Nat} (h : r ≤ n) : (ofJ c k n).take r = ofJ c k r := by
  induction n with
  | zero =>
    obtain rfl : r = 0 := by omega
    rfl
  | succ n ih =>
    rcases Nat.lt_or_ge r (n + 1) with hr | hr
    · rw [ofJ, List.take_append_of_le_length (by rw [ofJ_len]; omega)]
      exact ih (by omega)
    · obtain rfl : r = n + 1 := by omega
      rw [List.take_of_length_le (by rw [ofJ_len]; exact Nat.le_refl _)]
theorem free_ne {i : Nat} {x : Int} (h : freeB m ps r x = true) (hi : i < ps.length) (hp : prI i r ∈ m) : ps.getD i default ≠ x := fun e => by
  have := List.all_eq_true.1 h i (List.mem_range.2 hi)
  rw [decide_eq_true e, decide_eq_true hp] at this
  cases this
theorem ofJ_ne (hk : 0 ≤ k) {n a d : Nat} (ha : a < n) (hd : d < n) (hne : a ≠ d) (hp : prI a d ∈ c.1) : (ofJ c k n).getD a default ≠ (ofJ c k n).getD d default := by
  have key : ∀ a d : Nat, a < d → d < n → prI a d ∈ c.1 → (ofJ c k n).getD a default ≠ (ofJ c k n).getD d default := fun a d h1 h2 h3 => by
    have h4 := (placeOne_ok (c := c) (ps := ofJ c k d) hk d).free
    have h5 := free_ne h4 (i := a) (by rw [ofJ_len]; exact h1) h3
    rw [← ofJ_take (c := c) (k := k) (n := n) (r := d) (by omega), getD_take h1, ofJ_take (by omega), ← ofJ_get h2] at h5
    exact h5
  rcases Nat.lt_or_ge a d with h | h
  · exact key a d h hd hp
  · exact (key d a (by omega) ha (by rw [prI_comm]; exact hp)).symm
end
theorem alloc_rok {f : GFn} (hF : LF f) (hreg : f.regs ≤ 3000) {li lo : List (List Bool)} (h : checkL f li lo = true) {k : Int} (hk : 0 ≤ k) : rcheckP f li lo (allocP f li lo k) k = true := by
  have hr := hF.regs
  have hlen : (allocP f li lo k).length = f.regs.toNat := ofJ_len _ _ _
  obtain ⟨a1, a2, _⟩ := closed_iff h
  have hok : ∀ i, i < f.regs.toNat → PlaceOk (confl f li lo) (ofJ (confl f li lo) k i) k i ((allocP f li lo k).getD i default) := fun i hi => by
    have := placeOne_ok (c := confl f li lo) (ps := ofJ (confl f li lo) k i) hk i
    rw [← ofJ_get hi] at this; exact this
  refine (rck_yes h (places_yes (by omega) (fun i hi => ?_)).symm (apart_yes (fun i hi j hj => ?_)).symm (fun b hb => all_yes (fun q hq => ?_))).symm
  · have := (hok i (by omega)).fits
    rw [ofJ_len] at this
    exact bad_f (by omega)
  · by_cases h1 : (li.getD 0 default).getD i default = true
    · by_cases h2 : (li.getD 0 default).getD j default = true
      · have hi2 : i < f.regs.toNat := by
          rcases Nat.lt_or_ge 0 f.blocks.length with h0 | h0
          · rw [← a1.at (k := 0) h0]; exact hi
          · have h3 := a1.len
            rw [List.getD, List.getElem?_eq_none (by omega)] at hi; exact absurd hi (Nat.not_lt_zero _)
        exact apartI_f3 (ofJ_ne hk hi2 (by omega) (by omega) (confl_all hj h1 h2))
      · exact apartI_f2 (by simpa using h2)
    · exact apartI_f1 (by simpa using h1)
  · refine (rone_yes (fun a ha => ?_)).symm
    by_cases hs : ((behL (f.blocks.getD b default) (lo.getD b default)).getD q default).getD a default = true
    · have har : a < f.regs.toNat := by
        rw [behL_getD _ _ hq, thrK_len, a2.at hb] at ha; exact ha
      rw [clash_f, Bool.and_false]
      rintro (⟨h0, h1, h2⟩ | ⟨h0, h1⟩)
      · have hd := ((hF.ok _ (getD_mem hb)).1 _ (getD_mem hq)).1 h0
        have hin := ofC_in (f := f) (li := li) hq hs h0 h1 f.blocks.length hb
        generalize setsT ((f.blocks.getD b default).ins.getD q default) = d at *
        obtain ⟨d', rfl⟩ := Int.eq_ofNat_of_zero_le h0
        exact ofJ_ne (c := confl f li lo) (n := f.regs.toNat) (d := d') hk har (by omega) (by omega) hin h2
      · have := (hok a har).word (ofC_in2 (li := li) hq hs h0 har f.blocks.length hb)
        omega
    · rw [show ((behL (f.blocks.getD b default) (lo.getD b default)).getD q default).getD a default = false by simpa using hs]; rfl
theorem alloc_ok {f : GFn} (hF : LF f) (hreg : f.regs ≤ 3000) {li lo : List (List Bool)} (h : checkL f li lo = true) {k : Int} (hk : 0 ≤ k) : acheck f li lo (allocP f li lo k) k = true := by
  have hr := hF.regs
  have hlen : (allocP f li lo k).length = f.regs.toNat := ofJ_len _ _ _
  have hok : ∀ i, i < f.regs.toNat → PlaceOk (confl f li lo) (ofJ (confl f li lo) k i) k i ((allocP f li lo k).getD i default) := fun i hi => by
    have := placeOne_ok (c := confl f li lo) (ps := ofJ (confl f li lo) k i) hk i
    rw [← ofJ_get hi] at this; exact this
  refine (acheck_yes h (by omega) ?_ (fun i hi => ?_)).symm
  · rw [List.any_eq_false]
    intro x hx
    obtain ⟨i, hi, rfl⟩ := mem_getD hx
    have := (hok i (by omega)).fits
    rw [ofJ_len] at this
    have : fitsP k ((allocP f li lo k).getD i default) = true := by
      unfold fitsP
      simp only [Bool.or_eq_true, Bool.and_eq_true, decide_eq_true_eq]; omega
    unfold nofit; rw [this]; decide
  · have hi2 : i < f.regs.toNat := by omega
    have hfr : freeB (confl f li lo).1 ((allocP f li lo k).take i) i ((allocP f li lo k).getD i default) = true := by
      have h1 : (allocP f li lo k).take i = ofJ (confl f li lo) k i := ofJ_take (by omega)
      rw [h1]; exact (hok i hi2).free
    by_cases hc : (confl f li lo).2.getD i default = true
    · exact okP_yes2 (by have := (hok i hi2).word hc; omega) hfr
    · exact okP_yes1 (by simpa using hc) hfr
end Lg
end Go.Proofs.Ytpfhmodjjljpjaa

namespace Go.Proofs.Ytpfhmodjjljpjaa
open Go.RowKit
namespace Lg
set_option linter.unusedSimpArgs false
set_option linter.unusedVariables false
def moreX (x : Int) : Int := if x < 0 ∧ x > -1000 then x - 2000 else x
def moreP (ps : List Int) : List Int := ps.map moreX
theorem moreP_len (ps : List Int) : (moreP ps).length = ps.length := by simp [moreP]
theorem moreP_get {ps : List Int} {i : Nat} (h : i < ps.length) : (moreP ps).getD i default = moreX (ps.getD i default) := by simp [moreP, List.getD, h]
theorem more_step {ps : List Int} {j : Nat} (hj : j < ps.length) : (moreP ps).take (j + 1) = (moreP ps).take j ++ [moreX (ps.getD j default)] := by
  have e : ps[j] = ps.getD j default := by simp [List.getD, hj]
  unfold moreP
  rw [← List.map_take, ← List.map_take, List.take_add_one, List.getElem?_eq_getElem hj, List.map_append, e]
  rfl
theorem more_t {ps : List Int} {j : Nat} (hj : j < ps.length) (h : ps.getD j default < 0 ∧ ps.getD j default > -1000) : ((moreP ps).take (j + 1)) = (moreP ps).take j ++ [ps.getD j default - 2000] := by
  rw [more_step hj, moreX, if_pos h]
theorem more_f {ps : List Int} {j : Nat} (hj : j < ps.length) (h : ¬ (ps.getD j default < 0 ∧ ps.getD j default > -1000)) : ((moreP ps).take (j + 1)) = (moreP ps).take j ++ [ps.getD j default] := by
  rw [more_step hj, moreX, if_neg h]
section
variable {f : GFn} {li lo : List (List Bool)} {ps : List Int} {k : Int}
structure AOk (f : GFn) (li lo : List (List Bool)) (ps : List Int) (k : Int) : Prop where
  chk : checkL f li lo = true
  len : (ps.length : Int) = f.regs
  fit : ∀ x ∈ ps, (1 ≤ x ∧ x ≤ k) ∨ (x ≤ -1 ∧ -4000 ≤ x)
  ok : ∀ i, i < ps.length → okP (confl f li lo) ps i = true
theorem fits_iff {k x : Int} : fitsP k x = true ↔ (1 ≤ x ∧ x ≤ k) ∨ (x ≤ -1 ∧ -4000 ≤ x) := by
  unfold fitsP; simp only [Bool.or_eq_true, Bool.and_eq_true, decide_eq_true_eq]
theorem acheck_iff : acheck f li lo ps k = true ↔ AOk f li lo ps k := by
  constructor
  · intro h
    unfold acheck at h
    simp only [Bool.and_eq_true, decide_eq_true_eq, Bool.not_eq_true', List.any_eq_false, List.all_eq_true] at h
    refine ⟨h.1, h.2.1, fun x hx => fits_iff.1 ?_, fun i hi => h.2.2.2 i (List.mem_range.2 hi)⟩
    have := h.2.2.1 x hx
    unfold nofit at this
    simpa using this
  · intro h
    refine (acheck_yes h.chk h.len ?_ h.ok).symm
    rw [List.any_eq_false]
    intro x hx
    unfold nofit
    rw [fits_iff.2 (h.fit x hx)]; decide
theorem acheck_bd (h : acheck f li lo ps k = true) (hk : k ≤ 9223372036854775807) : ∀ x ∈ ps, -9223372036854775807 ≤ x ∧ x ≤ 9223372036854775807 := fun x hx => by have := (acheck_iff.1 h).fit x hx; omega
theorem more_regs {y : Int} (h : acheck f li lo ps k = true) (hy : 0 ≤ y) : acheck f li lo ps (k + y) = true := by
  have h := acheck_iff.1 h
  exact acheck_iff.2 ⟨h.chk, h.len, fun x hx => by have := h.fit x hx; omega, h.ok⟩
theorem wordsJ_ge : ∀ (n : Nat) (i : Nat), i < n → -(ps.getD i default) ≤ wordsJ ps n
  | 0, i, h => by omega
  | n + 1, i, h => by
    rw [wordsJ]
    unfold mxI
    rcases Nat.lt_or_ge i n with hi | hi
    · have := wordsJ_ge n i hi
      split <;> omega
    · obtain rfl : i = n := by omega
      split <;> omega
theorem moreX_eq {a b : Int} (ha : a ≤ -1 → -1000 < a) (hb : b ≤ -1 → -1000 < b) (h : moreX a = moreX b) : a = b := by
  unfold moreX at h
  split at h <;> split at h <;> omega
theorem more_words (h : acheck f li lo ps k = true) (hk : k ≤ 100) (hw : wordsP ps < 1000) : acheck f li lo (moreP ps) k = true := by
  have h := acheck_iff.1 h
  have hx : ∀ i, i < ps.length → -1000 < ps.getD i default := fun i hi => by
    have h1 := wordsJ_ge (ps := ps) ps.length i hi
    have : wordsP ps = wordsJ ps ps.length := rfl
    omega
  refine acheck_iff.2 ⟨h.chk, by rw [moreP_len]; exact h.len, fun x hx' => ?_, fun i hi => ?_⟩
  · obtain ⟨i, hi, rfl⟩ := mem_getD hx'
    rw [moreP_len] at hi
    rw [moreP_get hi]
    have h1 := h.fit _ (getD_mem hi)
    have h2 := hx i hi
    unfold moreX
    split <;> omega
  · rw [moreP_len] at hi
    have h1 := h.ok i hi
    have hf : freeB (confl f li lo).1 (ps.take i) i (ps.getD i default) = true := by
      unfold okP at h1
      cases hq : freeB (confl f li lo).1 (ps.take i) i (ps.getD i default)
      · rw [hq] at h1; simp at h1
      · rfl
    have hpos : (confl f li lo).2.getD i default = true → ¬ ps.getD i default > 0 := fun hc hp => by
      rw [okP_no1 hc hp] at h1; cases h1
    have hf2 : freeB (confl f li lo).1 ((moreP ps).take i) i ((moreP ps).getD i default) = true := by
      refine (free_yes (fun j hj => ?_)).symm
      rw [List.length_take, moreP_len] at hj
      have hji : j < i := by omega
      rw [getD_take hji, moreP_get (by omega), moreP_get hi]
      by_cases he : moreX (ps.getD j default) = moreX (ps.getD i default)
      · have he2 := moreX_eq (fun _ => hx j (by omega)) (fun _ => hx i hi) he
        have h5 : decide (prI j i ∈ (confl f li lo).1) = false := by
          refine decide_eq_false (fun hm => ?_)
          exact free_ne hf (i := j) (by rw [List.length_take]; omega) hm (by rw [getD_take hji]; exact he2)
        rw [h5, Bool.and_false]
      · rw [decide_eq_false he]; rfl
    by_cases hc : (confl f li lo).2.getD i default = true
    · refine okP_yes2 ?_ hf2
      rw [moreP_get hi]
      have := hpos hc
      unfold moreX
      split <;> omega
    · exact okP_yes1 (by simpa using hc) hf2
end
end Lg
end Go.Proofs.Ytpfhmodjjljpjaa

namespace Go.Proofs.Ytpfhmodjjljpjaa
end Go.Proofs.Ytpfhmodjjljpjaa

namespace Go.Proofs.Ytpfhmodjjljpjaa
open Go.RowKit
namespace Lg
set_option maxRecDepth 100000
set_option linter.unusedVariables false
set_option linter.unusedSimpArgs false
theorem body21 : (Try.prog.funcs[21]?).map (fun fn => (fn.name == "runtime.NumGoroutine" || fn.body.isNone)) = some false := by kernel_rfl
theorem law21 (f : GFn) (x : Int) (e : Bool) (hf : FnOk f) (hx : 0 ≤ x ∧ x < 256) : Spec Try.prog 21 [.agg [.v (.int .i64 f.regs), .r 1], .v (.int .u8 x), .v (.bool e)] 2 [(1, .fz 5 (f.blocks.map eBlock))] (.v (.bool true)) 2 [] := by
 refine spec_of D (fn := Try.f21) rfl rfl (Nat.le_of_ble_eq_true rfl) ?_
 refine W_seq ?_
 refine W_seqK (b' := 34) rfl rfl ?_
 refine q1 3 2 1 rfl rfl (T_box rfl rfl flat_agg) rfl ?_
 refine q0 6 18 2 rfl rfl (T_assign rfl rfl) rfl ?_
 refine k_done rfl ?_
 refine thenK_n ?_
 refine W_seq ?_
 refine W_seq ?_
 refine W_seqK (b' := 82) rfl rfl ?_
 refine q0 10 34 1 rfl rfl (T_load_bA D (l := [_, _]) rfl rfl rfl rfl rfl rfl rfl) rfl ?_
 refine q0 11 50 2 rfl rfl (T_callV (lvs := [_]) (L := [(1, 1)]) (small28_spec f hf) body41 rfl rfl rfl rfl (.fz rfl (.nil)) rfl) rfl ?_
 refine q0 12 66 3 rfl rfl (T_not rfl rfl) rfl ?_
 refine k_done rfl ?_
 refine thenK_n ?_
 refine W_cond rfl (fun g1 => ?_) (fun g1 => ?_)
 ·have h1 := g1; (try simp only [cmpB, decide_eq_true_eq, decide_eq_false_iff_not, beq_iff_eq, beq_eq_false_iff_ne, bne_iff_ne, ne_eq, bne_eq_false_iff_eq, Bool.not_eq_true', Bool.not_eq_false', Int.not_lt, Int.not_le] at h1)
  refine W_seq ?_
  refine W_seqK (b' := 114) rfl rfl ?_
  refine q0 13 82 1 rfl rfl (T_callV (lvs := []) (L := []) (awake28_spec) body40 rfl rfl rfl rfl (.nil) rfl) rfl ?_
  refine q0 6 98 2 rfl rfl (T_assign rfl rfl) rfl ?_
  refine k_done rfl ?_
  refine thenK_n ?_
  refine W_ret ?_
  refine thenK_r ?_
  exact .mk [] (.inr rfl) (.tmp rfl (.nil)) (by first | rfl | (simp [q2, resLV, LV.ren]; done) | (simp [q4, resLV, LV.ren]; done) | exact absurd (q1.symm.trans (by assumption)) (by decide) | exact absurd (q3.symm.trans (by assumption)) (by decide) | (exfalso; simp_all; done)) (.nil) rfl
 ·have h1 := g1; (try simp only [cmpB, decide_eq_true_eq, decide_eq_false_iff_not, beq_iff_eq, beq_eq_false_iff_ne, bne_iff_ne, ne_eq, bne_eq_false_iff_eq, Bool.not_eq_true', Bool.not_eq_false', Int.not_lt, Int.not_le] at h1)
  refine W_skip ?_
  refine thenK_n ?_
  refine W_seq ?_
  have hS := s28 (by assumption : small28 f = true)
  have hSr := hS.regs
  have hSl := hS.len
  refine W_seqK (b' := 146) rfl rfl ?_
  refine q0 14 82 1 rfl rfl (T_load_bA D (l := [_, _]) rfl rfl rfl rfl rfl rfl rfl) rfl ?_
  refine qn 15 98 2 rfl rfl (T_call (lvs := [_]) (L := [(1, 1)]) (lv := .agg [.r 98, .r 99]) (upd := [(98, .fz 1 _), (99, .fz 1 _)]) (nn := 2) false (rlive_spec f hS.lf) body42 rfl rfl rfl rfl (.fz rfl (.nil)) rfl (.inl rfl) rfl rfl rfl) rfl ?_
  refine qn 7 114 3 rfl rfl (T_nilbox [(48, 1), (48, 1)] (T_alloc D rfl rfl rfl) rfl (.cons (.nil rfl) <| .cons (.nil rfl) <| .nil) (upd' := [(114, .box 57 [.r 115, .r 116]), (115, .row 48 1 (List.map eBs ([] : List (List Bool)))), (116, .row 48 1 (List.map eBs ([] : List (List Bool))))]) (nn' := 3) rfl rfl) rfl ?_
  refine s1 130 4 rfl rfl (T_stB D (cs' := [_, _]) rfl rfl rfl rfl flat_agg rfl rfl (Nat.le_of_ble_eq_true rfl) rfl) rfl ?_
  refine k_done rfl ?_
  refine thenK_n ?_
  refine W_seq ?_
  refine W_seq ?_
  refine W_seqK (b' := 162) rfl rfl ?_
  refine q0 16 146 1 rfl rfl (T_move rfl rfl) rfl ?_
  refine k_done rfl ?_
  refine thenK_n ?_
  refine W_cond rfl (fun g2 => ?_) (fun g2 => ?_)
  ·have h2 := g2; (try simp only [cmpB, decide_eq_true_eq, decide_eq_false_iff_not, beq_iff_eq, beq_eq_false_iff_ne, bne_iff_ne, ne_eq, bne_eq_false_iff_eq, Bool.not_eq_true', Bool.not_eq_false', Int.not_lt, Int.not_le] at h2)
   refine W_seqK (b' := 210) rfl rfl ?_
   refine q0 17 162 1 rfl rfl (T_load_bA D (l := [_, _]) rfl rfl rfl rfl rfl rfl rfl) rfl ?_
   refine qn 18 178 2 rfl rfl (T_call (lvs := [_]) (L := [(1, 1)]) (lv := .agg [.r 178, .r 179]) (upd := [(178, .row 48 1 _), (179, .row 48 1 _)]) (nn := 2) false (every_spec f hS.lf) body63 rfl rfl rfl rfl (.fz rfl (.nil)) rfl (.inl rfl) rfl rfl rfl) rfl ?_
   refine s1 194 3 rfl rfl (T_stB D (cs' := [_, _]) rfl rfl rfl rfl flat_agg rfl rfl (Nat.le_of_ble_eq_true rfl) rfl) rfl ?_
   refine k_done rfl ?_
   refine thenK_n ?_
   refine W_seq ?_
   refine W_seqK (b' := 274) rfl rfl ?_
   refine q0 19 210 1 rfl rfl (T_move rfl rfl) rfl ?_
   refine q0 20 226 2 rfl rfl (T_remU rfl rfl rfl (by first | assumption | omega | (simp; omega))) rfl ?_
   refine q0 21 242 3 rfl rfl (T_conv64 rfl rfl (by rw [Try.underlying5]; rfl) (by first | assumption | omega | (simp; omega))) rfl ?_
   refine q0 8 258 4 rfl rfl (T_assign rfl rfl) rfl ?_
   refine k_done rfl ?_
   refine thenK_n ?_
   refine W_seq ?_
   refine W_seqK (b' := 370) rfl rfl ?_
   refine q0 22 274 1 rfl rfl (T_load_bA D (l := [_, _]) rfl rfl rfl rfl rfl rfl rfl) rfl ?_
   refine q0 23 290 2 rfl rfl (T_load_bA D (l := [_, _]) rfl rfl rfl rfl rfl rfl rfl) rfl ?_
   refine q0 24 306 3 rfl rfl (T_move rfl rfl) rfl ?_
   refine qn 25 322 4 rfl rfl (T_call (lvs := [_, _, _]) (L := [(1, 1), (2, 178), (3, 179)]) (lv := .agg [.r 322]) (upd := [(322, .row 3 1 _), (178, .fz 1 _), (179, .fz 1 _)]) (nn := 1) false (allocOf_spec f (evL f) (evL f) (x % 17) hS.lf (evL_sz f) (evL_sz f) hS.pos (by omega)) body43 rfl rfl rfl rfl (.fz rfl (.lend rfl (.lend rfl (.nil)))) rfl (.inl rfl) rfl rfl rfl) rfl ?_
   refine qn 9 338 5 rfl rfl (T_nilbox [(3, 1)] (T_alloc D rfl rfl rfl) rfl (.cons (.nil rfl) <| .nil) (upd' := [(338, .box 60 [.r 339]), (339, .row 3 1 (List.map eI ([] : List (Int))))]) (nn' := 2) rfl rfl) rfl ?_
   refine s1 354 6 rfl rfl (T_stB D (cs' := [_]) rfl rfl rfl rfl flat_agg rfl rfl (Nat.le_of_ble_eq_true rfl) rfl) rfl ?_
   refine k_done rfl ?_
   refine thenK_n ?_
   refine W_seq ?_
   have q1 := alloc_rok hS.lf (by omega) (ev_closed hS.lf) (k := (x % 17)) (by omega)
   have q2 := alloc_ok hS.lf (by omega) (ev_closed hS.lf) (k := (x % 17)) (by omega)
   have q3 := alloc_rok hS.lf (by omega) (live_closed hS.lf) (k := (x % 17)) (by omega)
   have q4 := alloc_ok hS.lf (by omega) (live_closed hS.lf) (k := (x % 17)) (by omega)
   refine W_seqK (b' := 626) rfl rfl ?_
   refine q0 26 370 1 rfl rfl (T_callV (lvs := []) (L := []) (awake28_spec) body40 rfl rfl rfl rfl (.nil) rfl) rfl ?_
   refine q0 27 386 2 rfl rfl (T_move rfl rfl) rfl ?_
   refine k_op0 (d := 28) (b := 402) (j' := 3) rfl rfl rfl rfl (g_tt rfl rfl rfl rfl) (T_load_bA D (l := [_, _]) rfl rfl rfl rfl rfl rfl rfl) rfl ?_
   refine k_op0 (d := 29) (b := 418) (j' := 4) rfl rfl rfl rfl (g_tt rfl rfl rfl rfl) (T_load_bA D (l := [_, _]) rfl rfl rfl rfl rfl rfl rfl) rfl ?_
   refine k_op0 (d := 30) (b := 434) (j' := 5) rfl rfl rfl rfl (g_tt rfl rfl rfl rfl) (T_load_bA D (l := [_]) rfl rfl rfl rfl rfl rfl rfl) rfl ?_
   refine k_op0 (d := 31) (b := 450) (j' := 6) rfl rfl rfl rfl (g_tt rfl rfl rfl rfl) (T_move rfl rfl) rfl ?_
   refine k_op0 (d := 32) (b := 466) (j' := 7) rfl rfl rfl rfl (g_tt rfl rfl rfl rfl) (T_callV (lvs := [_, _, _, _]) (L := [(1, 1), (2, 178), (3, 179), (4, 322)]) (rcheck28_spec f (evL f) (evL f) (allocP f (evL f) (evL f) (x % 17)) (x % 17) hS.lf (by have := (evL_sz f).len; omega) (by have := (evL_sz f).len; omega) hS.pos (by have : (allocP f (evL f) (evL f) (x % 17)).length = f.regs.toNat := ofJ_len _ _ _; omega)) body64 rfl rfl rfl rfl (.fz rfl (.fz rfl (.fz rfl (.lend rfl (.nil))))) rfl) rfl ?_
   refine q0 33 482 8 rfl rfl (T_pick_t rfl rfl rfl rfl) rfl ?_
   refine q0 34 498 9 rfl rfl (T_move rfl rfl) rfl ?_
   refine k_split (d := 34) rfl (fun g3 => ?_) (fun g3 => ?_)
   ·have h3 := g3; (try simp only [cmpB, decide_eq_true_eq, decide_eq_false_iff_not, beq_iff_eq, beq_eq_false_iff_ne, bne_iff_ne, ne_eq, bne_eq_false_iff_eq, Bool.not_eq_true', Bool.not_eq_false', Int.not_lt, Int.not_le] at h3)
    refine k_op0 (d := 35) (b := 514) (j' := 10) rfl rfl rfl rfl (g_tt rfl rfl rfl g3) (T_load_bA D (l := [_, _]) rfl rfl rfl rfl rfl rfl rfl) rfl ?_
    refine k_op0 (d := 36) (b := 530) (j' := 11) rfl rfl rfl rfl (g_tt rfl rfl rfl g3) (T_load_bA D (l := [_, _]) rfl rfl rfl rfl rfl rfl rfl) rfl ?_
    refine k_op0 (d := 37) (b := 546) (j' := 12) rfl rfl rfl rfl (g_tt rfl rfl rfl g3) (T_load_bA D (l := [_]) rfl rfl rfl rfl rfl rfl rfl) rfl ?_
    refine k_op0 (d := 38) (b := 562) (j' := 13) rfl rfl rfl rfl (g_tt rfl rfl rfl g3) (T_move rfl rfl) rfl ?_
    refine k_op0 (d := 39) (b := 578) (j' := 14) rfl rfl rfl rfl (g_tt rfl rfl rfl g3) (T_callV (lvs := [_, _, _, _]) (L := [(1, 1), (2, 178), (3, 179), (4, 322)]) (acheck_spec f (evL f) (evL f) (allocP f (evL f) (evL f) (x % 17)) (x % 17) hS.lf (by have := (evL_sz f).len; omega) (by have := (evL_sz f).len; omega) hS.pos (by have : (allocP f (evL f) (evL f) (x % 17)).length = f.regs.toNat := ofJ_len _ _ _; omega)) body44 rfl rfl rfl rfl (.fz rfl (.fz rfl (.fz rfl (.lend rfl (.nil))))) rfl) rfl ?_
    refine q0 40 594 15 rfl rfl (T_pick_t rfl rfl rfl g3) rfl ?_
    refine q0 6 610 16 rfl rfl (T_assign rfl rfl) rfl ?_
    refine k_done rfl ?_
    refine thenK_n ?_
    refine W_ret ?_
    exact .mk [] (.inr rfl) (.tmp rfl (.nil)) (by first | rfl | (simp [q2, resLV, LV.ren]; done) | (simp [q4, resLV, LV.ren]; done) | exact absurd (q1.symm.trans (by assumption)) (by decide) | exact absurd (q3.symm.trans (by assumption)) (by decide) | (exfalso; simp_all; done)) (.nil) rfl
   ·have h3 := g3; (try simp only [cmpB, decide_eq_true_eq, decide_eq_false_iff_not, beq_iff_eq, beq_eq_false_iff_ne, bne_iff_ne, ne_eq, bne_eq_false_iff_eq, Bool.not_eq_true', Bool.not_eq_false', Int.not_lt, Int.not_le] at h3)
    refine k_no (d := 35) (j' := 10) rfl rfl rfl (g_tf rfl rfl rfl g3) ?_
    refine k_no (d := 36) (j' := 11) rfl rfl rfl (g_tf rfl rfl rfl g3) ?_
    refine k_no (d := 37) (j' := 12) rfl rfl rfl (g_tf rfl rfl rfl g3) ?_
    refine k_no (d := 38) (j' := 13) rfl rfl rfl (g_tf rfl rfl rfl g3) ?_
    refine k_no (d := 39) (j' := 14) rfl rfl rfl (g_tf rfl rfl rfl g3) ?_
    refine q0 40 594 15 rfl rfl (T_pick_f rfl rfl rfl g3) rfl ?_
    refine q0 6 610 16 rfl rfl (T_assign rfl rfl) rfl ?_
    refine k_done rfl ?_
    refine thenK_n ?_
    refine W_ret ?_
    exact .mk [] (.inr rfl) (.tmp rfl (.nil)) (by first | rfl | (simp [q2, resLV, LV.ren]; done) | (simp [q4, resLV, LV.ren]; done) | exact absurd (q1.symm.trans (by assumption)) (by decide) | exact absurd (q3.symm.trans (by assumption)) (by decide) | (exfalso; simp_all; done)) (.nil) rfl
  ·have h2 := g2; (try simp only [cmpB, decide_eq_true_eq, decide_eq_false_iff_not, beq_iff_eq, beq_eq_false_iff_ne, bne_iff_ne, ne_eq, bne_eq_false_iff_eq, Bool.not_eq_true', Bool.not_eq_false', Int.not_lt, Int.not_le] at h2)
   refine W_skip ?_
   refine thenK_n ?_
   refine W_seq ?_
   refine W_seqK (b' := 226) rfl rfl ?_
   refine q0 19 162 1 rfl rfl (T_move rfl rfl) rfl ?_
   refine q0 20 178 2 rfl rfl (T_remU rfl rfl rfl (by first | assumption | omega | (simp; omega))) rfl ?_
   refine q0 21 194 3 rfl rfl (T_conv64 rfl rfl (by rw [Try.underlying5]; rfl) (by first | assumption | omega | (simp; omega))) rfl ?_
   refine q0 8 210 4 rfl rfl (T_assign rfl rfl) rfl ?_
   refine k_done rfl ?_
   refine thenK_n ?_
   refine W_seq ?_
   refine W_seqK (b' := 322) rfl rfl ?_
   refine q0 22 226 1 rfl rfl (T_load_bA D (l := [_, _]) rfl rfl rfl rfl rfl rfl rfl) rfl ?_
   refine q0 23 242 2 rfl rfl (T_load_bA D (l := [_, _]) rfl rfl rfl rfl rfl rfl rfl) rfl ?_
   refine q0 24 258 3 rfl rfl (T_move rfl rfl) rfl ?_
   refine q1 25 274 4 rfl rfl (T_call (lvs := [_, _, _]) (L := [(1, 1), (2, 98), (3, 99)]) (lv := .agg [.r 274]) (upd := [(274, .row 3 1 _)]) (nn := 1) false (allocOf_spec f (liveL f).1 (liveL f).2 (x % 17) hS.lf (live_sz f).i (live_sz f).o hS.pos (by omega)) body43 rfl rfl rfl rfl (.fz rfl (.fz rfl (.fz rfl (.nil)))) rfl (.inl rfl) rfl rfl rfl) rfl ?_
   refine qn 9 290 5 rfl rfl (T_nilbox [(3, 1)] (T_alloc D rfl rfl rfl) rfl (.cons (.nil rfl) <| .nil) (upd' := [(290, .box 60 [.r 291]), (291, .row 3 1 (List.map eI ([] : List (Int))))]) (nn' := 2) rfl rfl) rfl ?_
   refine s1 306 6 rfl rfl (T_stB D (cs' := [_]) rfl rfl rfl rfl flat_agg rfl rfl (Nat.le_of_ble_eq_true rfl) rfl) rfl ?_
   refine k_done rfl ?_
   refine thenK_n ?_
   refine W_seq ?_
   have q1 := alloc_rok hS.lf (by omega) (ev_closed hS.lf) (k := (x % 17)) (by omega)
   have q2 := alloc_ok hS.lf (by omega) (ev_closed hS.lf) (k := (x % 17)) (by omega)
   have q3 := alloc_rok hS.lf (by omega) (live_closed hS.lf) (k := (x % 17)) (by omega)
   have q4 := alloc_ok hS.lf (by omega) (live_closed hS.lf) (k := (x % 17)) (by omega)
   refine W_seqK (b' := 578) rfl rfl ?_
   refine q0 26 322 1 rfl rfl (T_callV (lvs := []) (L := []) (awake28_spec) body40 rfl rfl rfl rfl (.nil) rfl) rfl ?_
   refine q0 27 338 2 rfl rfl (T_move rfl rfl) rfl ?_
   refine k_op0 (d := 28) (b := 354) (j' := 3) rfl rfl rfl rfl (g_tt rfl rfl rfl rfl) (T_load_bA D (l := [_, _]) rfl rfl rfl rfl rfl rfl rfl) rfl ?_
   refine k_op0 (d := 29) (b := 370) (j' := 4) rfl rfl rfl rfl (g_tt rfl rfl rfl rfl) (T_load_bA D (l := [_, _]) rfl rfl rfl rfl rfl rfl rfl) rfl ?_
   refine k_op0 (d := 30) (b := 386) (j' := 5) rfl rfl rfl rfl (g_tt rfl rfl rfl rfl) (T_load_bA D (l := [_]) rfl rfl rfl rfl rfl rfl rfl) rfl ?_
   refine k_op0 (d := 31) (b := 402) (j' := 6) rfl rfl rfl rfl (g_tt rfl rfl rfl rfl) (T_move rfl rfl) rfl ?_
   refine k_op0 (d := 32) (b := 418) (j' := 7) rfl rfl rfl rfl (g_tt rfl rfl rfl rfl) (T_callV (lvs := [_, _, _, _]) (L := [(1, 1), (2, 98), (3, 99), (4, 274)]) (rcheck28_spec f (liveL f).1 (liveL f).2 (allocP f (liveL f).1 (liveL f).2 (x % 17)) (x % 17) hS.lf (by have := (live_sz f).i.len; omega) (by have := (live_sz f).o.len; omega) hS.pos (by have : (allocP f (liveL f).1 (liveL f).2 (x % 17)).length = f.regs.toNat := ofJ_len _ _ _; omega)) body64 rfl rfl rfl rfl (.fz rfl (.fz rfl (.fz rfl (.lend rfl (.nil))))) rfl) rfl ?_
   refine q0 33 434 8 rfl rfl (T_pick_t rfl rfl rfl rfl) rfl ?_
   refine q0 34 450 9 rfl rfl (T_move rfl rfl) rfl ?_
   refine k_split (d := 34) rfl (fun g4 => ?_) (fun g4 => ?_)
   ·have h4 := g4; (try simp only [cmpB, decide_eq_true_eq, decide_eq_false_iff_not, beq_iff_eq, beq_eq_false_iff_ne, bne_iff_ne, ne_eq, bne_eq_false_iff_eq, Bool.not_eq_true', Bool.not_eq_false', Int.not_lt, Int.not_le] at h4)
    refine k_op0 (d := 35) (b := 466) (j' := 10) rfl rfl rfl rfl (g_tt rfl rfl rfl g4) (T_load_bA D (l := [_, _]) rfl rfl rfl rfl rfl rfl rfl) rfl ?_
    refine k_op0 (d := 36) (b := 482) (j' := 11) rfl rfl rfl rfl (g_tt rfl rfl rfl g4) (T_load_bA D (l := [_, _]) rfl rfl rfl rfl rfl rfl rfl) rfl ?_
    refine k_op0 (d := 37) (b := 498) (j' := 12) rfl rfl rfl rfl (g_tt rfl rfl rfl g4) (T_load_bA D (l := [_]) rfl rfl rfl rfl rfl rfl rfl) rfl ?_
    refine k_op0 (d := 38) (b := 514) (j' := 13) rfl rfl rfl rfl (g_tt rfl rfl rfl g4) (T_move rfl rfl) rfl ?_
    refine k_op0 (d := 39) (b := 530) (j' := 14) rfl rfl rfl rfl (g_tt rfl rfl rfl g4) (T_callV (lvs := [_, _, _, _]) (L := [(1, 1), (2, 98), (3, 99), (4, 274)]) (acheck_spec f (liveL f).1 (liveL f).2 (allocP f (liveL f).1 (liveL f).2 (x % 17)) (x % 17) hS.lf (by have := (live_sz f).i.len; omega) (by have := (live_sz f).o.len; omega) hS.pos (by have : (allocP f (liveL f).1 (liveL f).2 (x % 17)).length = f.regs.toNat := ofJ_len _ _ _; omega)) body44 rfl rfl rfl rfl (.fz rfl (.fz rfl (.fz rfl (.lend rfl (.nil))))) rfl) rfl ?_
    refine q0 40 546 15 rfl rfl (T_pick_t rfl rfl rfl g4) rfl ?_
    refine q0 6 562 16 rfl rfl (T_assign rfl rfl) rfl ?_
    refine k_done rfl ?_
    refine thenK_n ?_
    refine W_ret ?_
    exact .mk [] (.inr rfl) (.tmp rfl (.nil)) (by first | rfl | (simp [q2, resLV, LV.ren]; done) | (simp [q4, resLV, LV.ren]; done) | exact absurd (q1.symm.trans (by assumption)) (by decide) | exact absurd (q3.symm.trans (by assumption)) (by decide) | (exfalso; simp_all; done)) (.nil) rfl
   ·have h4 := g4; (try simp only [cmpB, decide_eq_true_eq, decide_eq_false_iff_not, beq_iff_eq, beq_eq_false_iff_ne, bne_iff_ne, ne_eq, bne_eq_false_iff_eq, Bool.not_eq_true', Bool.not_eq_false', Int.not_lt, Int.not_le] at h4)
    refine k_no (d := 35) (j' := 10) rfl rfl rfl (g_tf rfl rfl rfl g4) ?_
    refine k_no (d := 36) (j' := 11) rfl rfl rfl (g_tf rfl rfl rfl g4) ?_
    refine k_no (d := 37) (j' := 12) rfl rfl rfl (g_tf rfl rfl rfl g4) ?_
    refine k_no (d := 38) (j' := 13) rfl rfl rfl (g_tf rfl rfl rfl g4) ?_
    refine k_no (d := 39) (j' := 14) rfl rfl rfl (g_tf rfl rfl rfl g4) ?_
    refine q0 40 546 15 rfl rfl (T_pick_f rfl rfl rfl g4) rfl ?_
    refine q0 6 562 16 rfl rfl (T_assign rfl rfl) rfl ?_
    refine k_done rfl ?_
    refine thenK_n ?_
    refine W_ret ?_
    exact .mk [] (.inr rfl) (.tmp rfl (.nil)) (by first | rfl | (simp [q2, resLV, LV.ren]; done) | (simp [q4, resLV, LV.ren]; done) | exact absurd (q1.symm.trans (by assumption)) (by decide) | exact absurd (q3.symm.trans (by assumption)) (by decide) | (exfalso; simp_all; done)) (.nil) rfl
end Lg
end Go.Proofs.Ytpfhmodjjljpjaa

namespace Go.Proofs.Ytpfhmodjjljpjaa
open Go.RowKit
namespace Lg
set_option maxRecDepth 100000
set_option linter.unusedVariables false
set_option linter.unusedSimpArgs false
theorem body22 : (Try.prog.funcs[22]?).map (fun fn => (fn.name == "runtime.NumGoroutine" || fn.body.isNone)) = some false := by kernel_rfl
theorem law22 (f : GFn) (li lo : List (List Bool)) (ps : List Int) (k y : Int) (hf : FnOk f) (hb1 : li.length ≤ 1000000000000000) (hb2 : lo.length ≤ 1000000000000000) (hp : ps.length ≤ 1000000000000000) (hk : -9223372036854775808 ≤ k) (hy : 0 ≤ y ∧ y < 256) : Spec Try.prog 22 [.agg [.v (.int .i64 f.regs), .r 1, .r 2, .r 3, .r 4, .v (.int .i64 k)], .v (.int .u8 y)] 5 [(1, .fz 5 (f.blocks.map eBlock)), (2, .fz 1 (li.map eBs)), (3, .fz 1 (lo.map eBs)), (4, .fz 1 (ps.map eI))] (.v (.bool true)) 5 [] := by
 refine spec_of D (fn := Try.f22) rfl rfl (Nat.le_of_ble_eq_true rfl) ?_
 refine W_seq ?_
 refine W_seqK (b' := 37) rfl rfl ?_
 refine q1 2 5 1 rfl rfl (T_box rfl rfl flat_agg) rfl ?_
 refine q0 4 21 2 rfl rfl (T_assign rfl rfl) rfl ?_
 refine k_done rfl ?_
 refine thenK_n ?_
 refine W_seq ?_
 refine W_seq ?_
 refine W_seqK (b' := 485) rfl rfl ?_
 refine q0 8 37 1 rfl rfl (T_fa D (m := 0) rfl rfl rfl rfl rfl rfl) rfl ?_
 refine q0 9 53 2 rfl rfl (T_load_bA D (l := [_, _]) rfl rfl rfl rfl rfl rfl rfl) rfl ?_
 refine q0 10 69 3 rfl rfl (T_callV (lvs := [_]) (L := [(1, 1)]) (small28_spec f hf) body41 rfl rfl rfl rfl (.fz rfl (.nil)) rfl) rfl ?_
 refine q0 11 85 4 rfl rfl (T_not rfl rfl) rfl ?_
 refine q0 12 101 5 rfl rfl (T_move rfl rfl) rfl ?_
 refine k_split (d := 12) rfl (fun g1 => ?_) (fun g1 => ?_)
 ·have h1 := g1; (try simp only [cmpB, decide_eq_true_eq, decide_eq_false_iff_not, beq_iff_eq, beq_eq_false_iff_ne, bne_iff_ne, ne_eq, bne_eq_false_iff_eq, Bool.not_eq_true', Bool.not_eq_false', Int.not_lt, Int.not_le] at h1)
  refine k_no (d := 13) (j' := 6) rfl rfl rfl (g_ft rfl rfl rfl g1) ?_
  refine k_no (d := 14) (j' := 7) rfl rfl rfl (g_ft rfl rfl rfl g1) ?_
  refine k_no (d := 15) (j' := 8) rfl rfl rfl (g_ft rfl rfl rfl g1) ?_
  refine k_no (d := 16) (j' := 9) rfl rfl rfl (g_ft rfl rfl rfl g1) ?_
  refine k_no (d := 17) (j' := 10) rfl rfl rfl (g_ft rfl rfl rfl g1) ?_
  refine q0 18 197 11 rfl rfl (T_pick_t rfl rfl rfl g1) rfl ?_
  refine q0 19 213 12 rfl rfl (T_move rfl rfl) rfl ?_
  refine k_no (d := 20) (j' := 13) rfl rfl rfl (g_ft rfl rfl rfl rfl) ?_
  refine k_no (d := 21) (j' := 14) rfl rfl rfl (g_ft rfl rfl rfl rfl) ?_
  refine k_no (d := 22) (j' := 15) rfl rfl rfl (g_ft rfl rfl rfl rfl) ?_
  refine q0 23 277 16 rfl rfl (T_pick_t rfl rfl rfl rfl) rfl ?_
  refine q0 24 293 17 rfl rfl (T_move rfl rfl) rfl ?_
  refine k_no (d := 25) (j' := 18) rfl rfl rfl (g_ft rfl rfl rfl rfl) ?_
  refine k_no (d := 26) (j' := 19) rfl rfl rfl (g_ft rfl rfl rfl rfl) ?_
  refine k_no (d := 27) (j' := 20) rfl rfl rfl (g_ft rfl rfl rfl rfl) ?_
  refine k_no (d := 28) (j' := 21) rfl rfl rfl (g_ft rfl rfl rfl rfl) ?_
  refine k_no (d := 29) (j' := 22) rfl rfl rfl (g_ft rfl rfl rfl rfl) ?_
  refine k_no (d := 30) (j' := 23) rfl rfl rfl (g_ft rfl rfl rfl rfl) ?_
  refine k_no (d := 31) (j' := 24) rfl rfl rfl (g_ft rfl rfl rfl rfl) ?_
  refine k_no (d := 32) (j' := 25) rfl rfl rfl (g_ft rfl rfl rfl rfl) ?_
  refine k_no (d := 33) (j' := 26) rfl rfl rfl (g_ft rfl rfl rfl rfl) ?_
  refine k_no (d := 34) (j' := 27) rfl rfl rfl (g_ft rfl rfl rfl rfl) ?_
  refine q0 35 469 28 rfl rfl (T_pick_t rfl rfl rfl rfl) rfl ?_
  refine k_done rfl ?_
  refine thenK_n ?_
  refine W_cond rfl (fun g2 => ?_) (fun g2 => ?_)
  ·skip
   refine W_seq ?_
   refine W_seqK (b' := 517) rfl rfl ?_
   refine q0 36 485 1 rfl rfl (T_callV (lvs := []) (L := []) (awake28_spec) body40 rfl rfl rfl rfl (.nil) rfl) rfl ?_
   refine q0 4 501 2 rfl rfl (T_assign rfl rfl) rfl ?_
   refine k_done rfl ?_
   refine thenK_n ?_
   refine W_ret ?_
   refine thenK_r ?_
   exact .mk [] (.inr rfl) (.tmp rfl (.nil)) (by first | rfl | (simp [resLV, LV.ren, hA]; done) | (have q2 := more_words hA (by omega) (by omega); have e : (moreP ps).take ps.length = moreP ps := List.take_of_length_le (by rw [moreP_len]; exact Nat.le_refl _); rw [e]; simp [resLV, LV.ren, q2]; done) | exact absurd (q1.symm.trans (by assumption)) (by decide) | (exfalso; simp_all; done)) (.nil) rfl
  ·exact absurd (g2.symm.trans rfl) (by decide)
 ·have h1 := g1; (try simp only [cmpB, decide_eq_true_eq, decide_eq_false_iff_not, beq_iff_eq, beq_eq_false_iff_ne, bne_iff_ne, ne_eq, bne_eq_false_iff_eq, Bool.not_eq_true', Bool.not_eq_false', Int.not_lt, Int.not_le] at h1)
  refine k_op0 (d := 13) (b := 117) (j' := 6) rfl rfl rfl rfl (g_ff rfl rfl rfl g1) (T_fa D (m := 4) rfl rfl rfl rfl rfl rfl) rfl ?_
  refine k_op0 (d := 14) (b := 133) (j' := 7) rfl rfl rfl rfl (g_ff rfl rfl rfl g1) (T_fa D (m := 4) rfl rfl rfl rfl rfl rfl) rfl ?_
  refine k_op0 (d := 15) (b := 149) (j' := 8) rfl rfl rfl rfl (g_ff rfl rfl rfl g1) (T_load_b D rfl rfl rfl rfl rfl rfl) rfl ?_
  refine k_op0 (d := 16) (b := 165) (j' := 9) rfl rfl rfl rfl (g_ff rfl rfl rfl g1) (T_len D rfl rfl rfl rfl rfl rfl) rfl ?_
  refine k_op0 (d := 17) (b := 181) (j' := 10) rfl rfl rfl rfl (g_ff rfl rfl rfl g1) (T_cmp rfl rfl rfl rfl) rfl ?_
  refine q0 18 197 11 rfl rfl (T_pick_f rfl rfl rfl g1) rfl ?_
  refine q0 19 213 12 rfl rfl (T_move rfl rfl) rfl ?_
  refine k_split (d := 19) rfl (fun g3 => ?_) (fun g3 => ?_)
  ·have h3 := c_gtr_t g3
   refine k_no (d := 20) (j' := 13) rfl rfl rfl (g_ft rfl rfl rfl g3) ?_
   refine k_no (d := 21) (j' := 14) rfl rfl rfl (g_ft rfl rfl rfl g3) ?_
   refine k_no (d := 22) (j' := 15) rfl rfl rfl (g_ft rfl rfl rfl g3) ?_
   refine q0 23 277 16 rfl rfl (T_pick_t rfl rfl rfl g3) rfl ?_
   refine q0 24 293 17 rfl rfl (T_move rfl rfl) rfl ?_
   refine k_no (d := 25) (j' := 18) rfl rfl rfl (g_ft rfl rfl rfl rfl) ?_
   refine k_no (d := 26) (j' := 19) rfl rfl rfl (g_ft rfl rfl rfl rfl) ?_
   refine k_no (d := 27) (j' := 20) rfl rfl rfl (g_ft rfl rfl rfl rfl) ?_
   refine k_no (d := 28) (j' := 21) rfl rfl rfl (g_ft rfl rfl rfl rfl) ?_
   refine k_no (d := 29) (j' := 22) rfl rfl rfl (g_ft rfl rfl rfl rfl) ?_
   refine k_no (d := 30) (j' := 23) rfl rfl rfl (g_ft rfl rfl rfl rfl) ?_
   refine k_no (d := 31) (j' := 24) rfl rfl rfl (g_ft rfl rfl rfl rfl) ?_
   refine k_no (d := 32) (j' := 25) rfl rfl rfl (g_ft rfl rfl rfl rfl) ?_
   refine k_no (d := 33) (j' := 26) rfl rfl rfl (g_ft rfl rfl rfl rfl) ?_
   refine k_no (d := 34) (j' := 27) rfl rfl rfl (g_ft rfl rfl rfl rfl) ?_
   refine q0 35 469 28 rfl rfl (T_pick_t rfl rfl rfl rfl) rfl ?_
   refine k_done rfl ?_
   refine thenK_n ?_
   refine W_cond rfl (fun g4 => ?_) (fun g4 => ?_)
   ·skip
    refine W_seq ?_
    refine W_seqK (b' := 517) rfl rfl ?_
    refine q0 36 485 1 rfl rfl (T_callV (lvs := []) (L := []) (awake28_spec) body40 rfl rfl rfl rfl (.nil) rfl) rfl ?_
    refine q0 4 501 2 rfl rfl (T_assign rfl rfl) rfl ?_
    refine k_done rfl ?_
    refine thenK_n ?_
    refine W_ret ?_
    refine thenK_r ?_
    exact .mk [] (.inr rfl) (.tmp rfl (.nil)) (by first | rfl | (simp [resLV, LV.ren, hA]; done) | (have q2 := more_words hA (by omega) (by omega); have e : (moreP ps).take ps.length = moreP ps := List.take_of_length_le (by rw [moreP_len]; exact Nat.le_refl _); rw [e]; simp [resLV, LV.ren, q2]; done) | exact absurd (q1.symm.trans (by assumption)) (by decide) | (exfalso; simp_all; done)) (.nil) rfl
   ·exact absurd (g4.symm.trans rfl) (by decide)
  ·have h3 := c_gtr_f g3
   refine k_op0 (d := 20) (b := 229) (j' := 13) rfl rfl rfl rfl (g_ff rfl rfl rfl g3) (T_fa D (m := 5) rfl rfl rfl rfl rfl rfl) rfl ?_
   refine k_op0 (d := 21) (b := 245) (j' := 14) rfl rfl rfl rfl (g_ff rfl rfl rfl g3) (T_load_b D rfl rfl rfl rfl rfl rfl) rfl ?_
   refine k_op0 (d := 22) (b := 261) (j' := 15) rfl rfl rfl rfl (g_ff rfl rfl rfl g3) (T_cmp rfl rfl rfl rfl) rfl ?_
   refine q0 23 277 16 rfl rfl (T_pick_f rfl rfl rfl g3) rfl ?_
   refine q0 24 293 17 rfl rfl (T_move rfl rfl) rfl ?_
   refine k_split (d := 24) rfl (fun g5 => ?_) (fun g5 => ?_)
   ·have h5 := c_gtr_t g5
    refine k_no (d := 25) (j' := 18) rfl rfl rfl (g_ft rfl rfl rfl g5) ?_
    refine k_no (d := 26) (j' := 19) rfl rfl rfl (g_ft rfl rfl rfl g5) ?_
    refine k_no (d := 27) (j' := 20) rfl rfl rfl (g_ft rfl rfl rfl g5) ?_
    refine k_no (d := 28) (j' := 21) rfl rfl rfl (g_ft rfl rfl rfl g5) ?_
    refine k_no (d := 29) (j' := 22) rfl rfl rfl (g_ft rfl rfl rfl g5) ?_
    refine k_no (d := 30) (j' := 23) rfl rfl rfl (g_ft rfl rfl rfl g5) ?_
    refine k_no (d := 31) (j' := 24) rfl rfl rfl (g_ft rfl rfl rfl g5) ?_
    refine k_no (d := 32) (j' := 25) rfl rfl rfl (g_ft rfl rfl rfl g5) ?_
    refine k_no (d := 33) (j' := 26) rfl rfl rfl (g_ft rfl rfl rfl g5) ?_
    refine k_no (d := 34) (j' := 27) rfl rfl rfl (g_ft rfl rfl rfl g5) ?_
    refine q0 35 469 28 rfl rfl (T_pick_t rfl rfl rfl g5) rfl ?_
    refine k_done rfl ?_
    refine thenK_n ?_
    refine W_cond rfl (fun g6 => ?_) (fun g6 => ?_)
    ·skip
     refine W_seq ?_
     refine W_seqK (b' := 517) rfl rfl ?_
     refine q0 36 485 1 rfl rfl (T_callV (lvs := []) (L := []) (awake28_spec) body40 rfl rfl rfl rfl (.nil) rfl) rfl ?_
     refine q0 4 501 2 rfl rfl (T_assign rfl rfl) rfl ?_
     refine k_done rfl ?_
     refine thenK_n ?_
     refine W_ret ?_
     refine thenK_r ?_
     exact .mk [] (.inr rfl) (.tmp rfl (.nil)) (by first | rfl | (simp [resLV, LV.ren, hA]; done) | (have q2 := more_words hA (by omega) (by omega); have e : (moreP ps).take ps.length = moreP ps := List.take_of_length_le (by rw [moreP_len]; exact Nat.le_refl _); rw [e]; simp [resLV, LV.ren, q2]; done) | exact absurd (q1.symm.trans (by assumption)) (by decide) | (exfalso; simp_all; done)) (.nil) rfl
    ·exact absurd (g6.symm.trans rfl) (by decide)
   ·have h5 := c_gtr_f g5
    refine k_op0 (d := 25) (b := 309) (j' := 18) rfl rfl rfl rfl (g_ff rfl rfl rfl g5) (T_fa D (m := 0) rfl rfl rfl rfl rfl rfl) rfl ?_
    refine k_op0 (d := 26) (b := 325) (j' := 19) rfl rfl rfl rfl (g_ff rfl rfl rfl g5) (T_load_bA D (l := [_, _]) rfl rfl rfl rfl rfl rfl rfl) rfl ?_
    refine k_op0 (d := 27) (b := 341) (j' := 20) rfl rfl rfl rfl (g_ff rfl rfl rfl g5) (T_fa D (m := 2) rfl rfl rfl rfl rfl rfl) rfl ?_
    refine k_op0 (d := 28) (b := 357) (j' := 21) rfl rfl rfl rfl (g_ff rfl rfl rfl g5) (T_load_bA D (l := [_, _]) rfl rfl rfl rfl rfl rfl rfl) rfl ?_
    refine k_op0 (d := 29) (b := 373) (j' := 22) rfl rfl rfl rfl (g_ff rfl rfl rfl g5) (T_fa D (m := 4) rfl rfl rfl rfl rfl rfl) rfl ?_
    refine k_op0 (d := 30) (b := 389) (j' := 23) rfl rfl rfl rfl (g_ff rfl rfl rfl g5) (T_load_bA D (l := [_]) rfl rfl rfl rfl rfl rfl rfl) rfl ?_
    refine k_op0 (d := 31) (b := 405) (j' := 24) rfl rfl rfl rfl (g_ff rfl rfl rfl g5) (T_fa D (m := 5) rfl rfl rfl rfl rfl rfl) rfl ?_
    refine k_op0 (d := 32) (b := 421) (j' := 25) rfl rfl rfl rfl (g_ff rfl rfl rfl g5) (T_load_b D rfl rfl rfl rfl rfl rfl) rfl ?_
    refine k_op0 (d := 33) (b := 437) (j' := 26) rfl rfl rfl rfl (g_ff rfl rfl rfl g5) (T_callV (lvs := [_, _, _, _]) (L := [(1, 1), (2, 2), (3, 3), (4, 4)]) (acheck_spec f li lo ps k (small28_lf (by assumption)) hb1 hb2 (s28 (by assumption : small28 f = true)).pos (by omega)) body44 rfl rfl rfl rfl (.fz rfl (.fz rfl (.fz rfl (.fz rfl (.nil))))) rfl) rfl ?_
    refine k_op0 (d := 34) (b := 453) (j' := 27) rfl rfl rfl rfl (g_ff rfl rfl rfl g5) (T_not rfl rfl) rfl ?_
    refine q0 35 469 28 rfl rfl (T_pick_f rfl rfl rfl g5) rfl ?_
    refine k_done rfl ?_
    refine thenK_n ?_
    refine W_cond rfl (fun g7 => ?_) (fun g7 => ?_)
    ·have h7 := g7; (try simp only [cmpB, decide_eq_true_eq, decide_eq_false_iff_not, beq_iff_eq, beq_eq_false_iff_ne, bne_iff_ne, ne_eq, bne_eq_false_iff_eq, Bool.not_eq_true', Bool.not_eq_false', Int.not_lt, Int.not_le] at h7)
     refine W_seq ?_
     refine W_seqK (b' := 517) rfl rfl ?_
     refine q0 36 485 1 rfl rfl (T_callV (lvs := []) (L := []) (awake28_spec) body40 rfl rfl rfl rfl (.nil) rfl) rfl ?_
     refine q0 4 501 2 rfl rfl (T_assign rfl rfl) rfl ?_
     refine k_done rfl ?_
     refine thenK_n ?_
     refine W_ret ?_
     refine thenK_r ?_
     exact .mk [] (.inr rfl) (.tmp rfl (.nil)) (by first | rfl | (simp [resLV, LV.ren, hA]; done) | (have q2 := more_words hA (by omega) (by omega); have e : (moreP ps).take ps.length = moreP ps := List.take_of_length_le (by rw [moreP_len]; exact Nat.le_refl _); rw [e]; simp [resLV, LV.ren, q2]; done) | exact absurd (q1.symm.trans (by assumption)) (by decide) | (exfalso; simp_all; done)) (.nil) rfl
    ·have h7 := g7; (try simp only [cmpB, decide_eq_true_eq, decide_eq_false_iff_not, beq_iff_eq, beq_eq_false_iff_ne, bne_iff_ne, ne_eq, bne_eq_false_iff_eq, Bool.not_eq_true', Bool.not_eq_false', Int.not_lt, Int.not_le] at h7)
     refine W_skip ?_
     refine thenK_n ?_
     refine W_seq ?_
     have hS := s28 (by assumption : small28 f = true)
     have hA := (by assumption : acheck f li lo ps k = true)
     have hbd := acheck_bd hA (by omega)
     refine W_seqK (b' := 501) rfl rfl ?_
     refine qn 5 485 1 rfl rfl (T_nilbox [(3, 1)] (T_alloc D rfl rfl rfl) rfl (.cons (.nil rfl) <| .nil) (upd' := [(485, .box 60 [.r 486]), (486, .row 3 1 (List.map eI ([] : List (Int))))]) (nn' := 2) rfl rfl) rfl ?_
     refine k_done rfl ?_
     refine thenK_n ?_
     refine W_seq ?_
     refine W_seq ?_
     refine W_seqK (b' := 517) rfl rfl ?_
     refine q0 6 501 1 rfl rfl (T_assign rfl rfl) rfl ?_
     refine k_done rfl ?_
     refine thenK_n ?_
     refine W_block ?_
     refine W_loop (ι := Nat) 8 (fun j => ⟨[(1, .v (.int .u8 y)), (2, .p 5 0), (5, .p 6 0), (6, .v (.int .i64 (j : Int)))], [(1, .fz 5 (f.blocks.map eBlock)), (2, .fz 1 (li.map eBs)), (3, .fz 1 (lo.map eBs)), (4, .fz 1 (ps.map eI)), (5, .box 75 [.v (.int .i64 f.regs), .r 1, .r 2, .r 3, .r 4, .v (.int .i64 k)]), (6, .box 60 [.r 7]), (7, .row 3 1 (((moreP ps).take j).map eI))]⟩) (fun j => j ≤ ps.length) (fun j => ps.length - j) (0) (by exact Nat.zero_le _) ?_ (fun j hJ => ?_)
     ·exact ⟨[(5, 5), (6, 485), (7, 486)], .eq rfl (.same rfl rfl (.same rfl rfl (.eq rfl (.nil) (by first | rfl | simp)))) (by first | rfl | simp), .fzE rfl (.fzE rfl (.fzE rfl (.fzE rfl (.box (by first | rfl | simp) (.box (by first | rfl | simp) (.rowE rfl (.nil) (by first | rfl | simp)))) (by first | rfl | simp)) (by first | rfl | simp)) (by first | rfl | simp)) (by first | rfl | simp), rfl⟩
     have hq := fun h : j < ps.length => hbd _ (getD_mem h)
     refine W_seq ?_
     refine W_seq ?_
     refine W_seqK (b' := 104) rfl rfl ?_
     refine q0 37 8 1 rfl rfl (T_move rfl rfl) rfl ?_
     refine q0 38 24 2 rfl rfl (T_fa D (m := 4) rfl rfl rfl rfl rfl rfl) rfl ?_
     refine q0 39 40 3 rfl rfl (T_fa D (m := 4) rfl rfl rfl rfl rfl rfl) rfl ?_
     refine q0 40 56 4 rfl rfl (T_load_b D rfl rfl rfl rfl rfl rfl) rfl ?_
     refine q0 41 72 5 rfl rfl (T_len D rfl rfl rfl rfl rfl rfl) rfl ?_
     refine q0 42 88 6 rfl rfl (T_cmp rfl rfl rfl rfl) rfl ?_
     refine k_done rfl ?_
     refine thenK_n ?_
     refine W_cond rfl (fun g8 => ?_) (fun g8 => ?_)
     ·have h8 := c_lss_t g8
      refine W_skip ?_
      refine thenK_n ?_
      refine W_seq ?_
      refine W_block ?_
      refine W_seq ?_
      refine W_seqK (b' := 216) rfl rfl ?_
      refine q0 45 104 1 rfl rfl (T_fa D (m := 4) rfl rfl rfl rfl rfl rfl) rfl ?_
      refine q0 46 120 2 rfl rfl (T_fa D (m := 4) rfl rfl rfl rfl rfl rfl) rfl ?_
      refine q0 47 136 3 rfl rfl (T_load_b D rfl rfl rfl rfl rfl rfl) rfl ?_
      refine q0 48 152 4 rfl rfl (T_move rfl rfl) rfl ?_
      first | refine q0 49 168 5 rfl rfl (T_indexAddr D rfl rfl rfl rfl rfl rfl rfl rfl (by first | assumption | omega | (have q := hq (by omega); omega) | (simp; omega))) rfl ?_ | refine q0 49 168 5 rfl rfl (T_indexAddrZ D rfl rfl rfl rfl rfl rfl rfl rfl (by first | assumption | omega | (have q := hq (by omega); omega) | (simp; omega)) (by first | assumption | omega | (have q := hq (by omega); omega) | (simp; omega))) rfl ?_
      refine q0 50 184 6 rfl rfl (T_ldE D (lv := .v _) (nn := 0) (upd := []) rfl rfl rfl rfl rfl (by first | assumption | omega | (have q := hq (by omega); omega) | (simp; omega)) rfl rfl rfl rfl) rfl ?_
      refine q0 7 200 7 rfl rfl (T_assign rfl rfl) rfl ?_
      refine k_done rfl ?_
      refine thenK_n ?_
      refine W_seq ?_
      refine W_seq ?_
      refine W_seqK (b' := 312) rfl rfl ?_
      refine q0 51 216 1 rfl rfl (T_move rfl rfl) rfl ?_
      refine q0 52 232 2 rfl rfl (T_cmp rfl rfl rfl rfl) rfl ?_
      refine q0 53 248 3 rfl rfl (T_move rfl rfl) rfl ?_
      refine k_split (d := 53) rfl (fun g9 => ?_) (fun g9 => ?_)
      ·have h9 := c_lss_t g9
       refine k_op0 (d := 54) (b := 264) (j' := 4) rfl rfl rfl rfl (g_tt rfl rfl rfl g9) (T_move rfl rfl) rfl ?_
       refine k_op0 (d := 55) (b := 280) (j' := 5) rfl rfl rfl rfl (g_tt rfl rfl rfl g9) (T_cmp rfl rfl rfl rfl) rfl ?_
       refine q0 56 296 6 rfl rfl (T_pick_t rfl rfl rfl g9) rfl ?_
       refine k_done rfl ?_
       refine thenK_n ?_
       refine W_cond rfl (fun g10 => ?_) (fun g10 => ?_)
       ·have h10 := c_gtr_t g10
        refine W_seqK (b' := 360) rfl rfl ?_
        refine q0 57 312 1 rfl rfl (T_move rfl rfl) rfl ?_
        refine q0 58 328 2 rfl rfl (T_sub64 rfl rfl rfl (by first | assumption | omega | (have q := hq (by omega); omega) | (simp; omega))) rfl ?_
        refine q0 7 344 3 rfl rfl (T_assign rfl rfl) rfl ?_
        refine k_done rfl ?_
        refine thenK_n ?_
        refine W_seqK (b' := 472) rfl rfl ?_
        refine q0 59 360 1 rfl rfl (T_fa D (m := 0) rfl rfl rfl rfl rfl rfl) rfl ?_
        refine q0 60 376 2 rfl rfl (T_load_b D rfl rfl rfl rfl rfl rfl) rfl ?_
        refine q0 61 392 3 rfl rfl (T_move rfl rfl) rfl ?_
        refine q1 62 408 4 rfl rfl (T_bs D (ys := [_]) (enc := eI) (l := [_]) rfl rfl rfl rfl rfl rfl (.cons rfl (flat_v rfl) (.nil)) rfl rfl rfl rfl (.v rfl (.nil)) rfl rfl) rfl ?_
        refine qn 63 424 5 rfl rfl (T_append D rfl rfl rfl rfl rfl rfl rfl rfl rfl rfl rfl rfl (by (try simp only [ty3]); first | assumption | omega | (have q := hq (by omega); omega) | (simp; omega)) (by (try simp only [ty3]); first | assumption | omega | (have q := hq (by omega); omega) | (simp; omega))) rfl ?_
        refine q0 64 440 6 rfl rfl (T_fa D (m := 0) rfl rfl rfl rfl rfl rfl) rfl ?_
        refine s1 456 7 rfl rfl (T_stB D (cs' := [_]) rfl rfl rfl rfl (flat_sl rfl) rfl rfl (Nat.le_of_ble_eq_true rfl) rfl) rfl ?_
        refine k_done rfl ?_
        refine blockK_n ?_
        refine thenK_n ?_
        refine W_seqK (b' := 520) rfl rfl ?_
        refine q0 43 472 1 rfl rfl (T_move rfl rfl) rfl ?_
        refine q0 44 488 2 rfl rfl (T_add64 rfl rfl rfl (by first | assumption | omega | (have q := hq (by omega); omega) | (simp; omega))) rfl ?_
        refine q0 6 504 3 rfl rfl (T_assign rfl rfl) rfl ?_
        refine k_done rfl ?_
        refine thenK_n ?_
        refine ⟨j + 1, by (try dsimp only); omega, by (try dsimp only); omega, ?_⟩
        exact ⟨[(5, 5), (6, 6), (7, 424)], .eq rfl (.same rfl rfl (.same rfl rfl (.eq rfl (.nil) (by first | rfl | (rw [more_t (by omega) (by omega)]; first | done | rfl) | (rw [more_f (by omega) (by omega)]; first | done | rfl))))) rfl, .fzE rfl (.fzE rfl (.fzE rfl (.fzE rfl (.box (by first | rfl | (rw [more_t (by omega) (by omega)]; first | done | rfl) | (rw [more_f (by omega) (by omega)]; first | done | rfl)) (.box (by first | rfl | (rw [more_t (by omega) (by omega)]; first | done | rfl) | (rw [more_f (by omega) (by omega)]; first | done | rfl)) (.rowE rfl (.nil) (by first | rfl | (rw [more_t (by omega) (by omega)]; first | done | rfl) | (rw [more_f (by omega) (by omega)]; first | done | rfl))))) rfl) rfl) rfl) rfl, rfl⟩
       ·have h10 := c_gtr_f g10
        refine W_skip ?_
        refine thenK_n ?_
        refine W_seqK (b' := 424) rfl rfl ?_
        refine q0 59 312 1 rfl rfl (T_fa D (m := 0) rfl rfl rfl rfl rfl rfl) rfl ?_
        refine q0 60 328 2 rfl rfl (T_load_b D rfl rfl rfl rfl rfl rfl) rfl ?_
        refine q0 61 344 3 rfl rfl (T_move rfl rfl) rfl ?_
        refine q1 62 360 4 rfl rfl (T_bs D (ys := [_]) (enc := eI) (l := [_]) rfl rfl rfl rfl rfl rfl (.cons rfl (flat_v rfl) (.nil)) rfl rfl rfl rfl (.v rfl (.nil)) rfl rfl) rfl ?_
        refine qn 63 376 5 rfl rfl (T_append D rfl rfl rfl rfl rfl rfl rfl rfl rfl rfl rfl rfl (by (try simp only [ty3]); first | assumption | omega | (have q := hq (by omega); omega) | (simp; omega)) (by (try simp only [ty3]); first | assumption | omega | (have q := hq (by omega); omega) | (simp; omega))) rfl ?_
        refine q0 64 392 6 rfl rfl (T_fa D (m := 0) rfl rfl rfl rfl rfl rfl) rfl ?_
        refine s1 408 7 rfl rfl (T_stB D (cs' := [_]) rfl rfl rfl rfl (flat_sl rfl) rfl rfl (Nat.le_of_ble_eq_true rfl) rfl) rfl ?_
        refine k_done rfl ?_
        refine blockK_n ?_
        refine thenK_n ?_
        refine W_seqK (b' := 472) rfl rfl ?_
        refine q0 43 424 1 rfl rfl (T_move rfl rfl) rfl ?_
        refine q0 44 440 2 rfl rfl (T_add64 rfl rfl rfl (by first | assumption | omega | (have q := hq (by omega); omega) | (simp; omega))) rfl ?_
        refine q0 6 456 3 rfl rfl (T_assign rfl rfl) rfl ?_
        refine k_done rfl ?_
        refine thenK_n ?_
        refine ⟨j + 1, by (try dsimp only); omega, by (try dsimp only); omega, ?_⟩
        exact ⟨[(5, 5), (6, 6), (7, 376)], .eq rfl (.same rfl rfl (.same rfl rfl (.eq rfl (.nil) (by first | rfl | (rw [more_t (by omega) (by omega)]; first | done | rfl) | (rw [more_f (by omega) (by omega)]; first | done | rfl))))) rfl, .fzE rfl (.fzE rfl (.fzE rfl (.fzE rfl (.box (by first | rfl | (rw [more_t (by omega) (by omega)]; first | done | rfl) | (rw [more_f (by omega) (by omega)]; first | done | rfl)) (.box (by first | rfl | (rw [more_t (by omega) (by omega)]; first | done | rfl) | (rw [more_f (by omega) (by omega)]; first | done | rfl)) (.rowE rfl (.nil) (by first | rfl | (rw [more_t (by omega) (by omega)]; first | done | rfl) | (rw [more_f (by omega) (by omega)]; first | done | rfl))))) rfl) rfl) rfl) rfl, rfl⟩
      ·have h9 := c_lss_f g9
       refine k_no (d := 54) (j' := 4) rfl rfl rfl (g_tf rfl rfl rfl g9) ?_
       refine k_no (d := 55) (j' := 5) rfl rfl rfl (g_tf rfl rfl rfl g9) ?_
       refine q0 56 296 6 rfl rfl (T_pick_f rfl rfl rfl g9) rfl ?_
       refine k_done rfl ?_
       refine thenK_n ?_
       refine W_cond rfl (fun g11 => ?_) (fun g11 => ?_)
       ·exact absurd (g11.symm.trans rfl) (by decide)
       ·skip
        refine W_skip ?_
        refine thenK_n ?_
        refine W_seqK (b' := 424) rfl rfl ?_
        refine q0 59 312 1 rfl rfl (T_fa D (m := 0) rfl rfl rfl rfl rfl rfl) rfl ?_
        refine q0 60 328 2 rfl rfl (T_load_b D rfl rfl rfl rfl rfl rfl) rfl ?_
        refine q0 61 344 3 rfl rfl (T_move rfl rfl) rfl ?_
        refine q1 62 360 4 rfl rfl (T_bs D (ys := [_]) (enc := eI) (l := [_]) rfl rfl rfl rfl rfl rfl (.cons rfl (flat_v rfl) (.nil)) rfl rfl rfl rfl (.v rfl (.nil)) rfl rfl) rfl ?_
        refine qn 63 376 5 rfl rfl (T_append D rfl rfl rfl rfl rfl rfl rfl rfl rfl rfl rfl rfl (by (try simp only [ty3]); first | assumption | omega | (have q := hq (by omega); omega) | (simp; omega)) (by (try simp only [ty3]); first | assumption | omega | (have q := hq (by omega); omega) | (simp; omega))) rfl ?_
        refine q0 64 392 6 rfl rfl (T_fa D (m := 0) rfl rfl rfl rfl rfl rfl) rfl ?_
        refine s1 408 7 rfl rfl (T_stB D (cs' := [_]) rfl rfl rfl rfl (flat_sl rfl) rfl rfl (Nat.le_of_ble_eq_true rfl) rfl) rfl ?_
        refine k_done rfl ?_
        refine blockK_n ?_
        refine thenK_n ?_
        refine W_seqK (b' := 472) rfl rfl ?_
        refine q0 43 424 1 rfl rfl (T_move rfl rfl) rfl ?_
        refine q0 44 440 2 rfl rfl (T_add64 rfl rfl rfl (by first | assumption | omega | (have q := hq (by omega); omega) | (simp; omega))) rfl ?_
        refine q0 6 456 3 rfl rfl (T_assign rfl rfl) rfl ?_
        refine k_done rfl ?_
        refine thenK_n ?_
        refine ⟨j + 1, by (try dsimp only); omega, by (try dsimp only); omega, ?_⟩
        exact ⟨[(5, 5), (6, 6), (7, 376)], .eq rfl (.same rfl rfl (.same rfl rfl (.eq rfl (.nil) (by first | rfl | (rw [more_t (by omega) (by omega)]; first | done | rfl) | (rw [more_f (by omega) (by omega)]; first | done | rfl))))) rfl, .fzE rfl (.fzE rfl (.fzE rfl (.fzE rfl (.box (by first | rfl | (rw [more_t (by omega) (by omega)]; first | done | rfl) | (rw [more_f (by omega) (by omega)]; first | done | rfl)) (.box (by first | rfl | (rw [more_t (by omega) (by omega)]; first | done | rfl) | (rw [more_f (by omega) (by omega)]; first | done | rfl)) (.rowE rfl (.nil) (by first | rfl | (rw [more_t (by omega) (by omega)]; first | done | rfl) | (rw [more_f (by omega) (by omega)]; first | done | rfl))))) rfl) rfl) rfl) rfl, rfl⟩
     ·have h8 := c_lss_f g8
      refine W_exit ?_
      refine thenK_e ?_
      refine thenK_e ?_
      refine blockK_hit ?_
      refine thenK_n ?_
      refine W_seq ?_
      refine W_seq ?_
      refine W_seqK (b' := 168) rfl rfl ?_
      refine q0 65 104 1 rfl rfl (T_fa D (m := 4) rfl rfl rfl rfl rfl rfl) rfl ?_
      refine q0 66 120 2 rfl rfl (T_load_bA D (l := [_]) rfl rfl rfl rfl rfl rfl rfl) rfl ?_
      refine q0 67 136 3 rfl rfl (T_callV (lvs := [_]) (L := [(1, 4)]) (words_spec ps (by omega) (acheck_bd (by assumption : acheck f li lo ps k = true) (by omega))) body65 rfl rfl rfl rfl (.fz rfl (.nil)) rfl) rfl ?_
      refine q0 68 152 4 rfl rfl (T_cmp rfl rfl rfl rfl) rfl ?_
      refine k_done rfl ?_
      refine thenK_n ?_
      refine W_cond rfl (fun g12 => ?_) (fun g12 => ?_)
      ·have h12 := c_geq_t g12
       refine W_seqK (b' := 216) rfl rfl ?_
       refine q0 69 168 1 rfl rfl (T_fa D (m := 4) rfl rfl rfl rfl rfl rfl) rfl ?_
       refine q0 70 184 2 rfl rfl (T_load_bA D (l := [_]) rfl rfl rfl rfl rfl rfl rfl) rfl ?_
       refine s1 200 3 rfl rfl (T_stB D (cs' := [_]) rfl rfl rfl rfl flat_agg rfl rfl (Nat.le_of_ble_eq_true rfl) rfl) rfl ?_
       refine k_done rfl ?_
       refine thenK_n ?_
       refine W_seq ?_
       have q1 := more_regs hA hy.1
       have ej : j = ps.length := by omega
       subst ej
       refine W_seqK (b' := 632) rfl rfl ?_
       refine q0 71 216 1 rfl rfl (T_callV (lvs := []) (L := []) (awake28_spec) body40 rfl rfl rfl rfl (.nil) rfl) rfl ?_
       refine q0 72 232 2 rfl rfl (T_move rfl rfl) rfl ?_
       refine k_op0 (d := 73) (b := 248) (j' := 3) rfl rfl rfl rfl (g_tt rfl rfl rfl rfl) (T_fa D (m := 0) rfl rfl rfl rfl rfl rfl) rfl ?_
       refine k_op0 (d := 74) (b := 264) (j' := 4) rfl rfl rfl rfl (g_tt rfl rfl rfl rfl) (T_load_bA D (l := [_, _]) rfl rfl rfl rfl rfl rfl rfl) rfl ?_
       refine k_op0 (d := 75) (b := 280) (j' := 5) rfl rfl rfl rfl (g_tt rfl rfl rfl rfl) (T_fa D (m := 2) rfl rfl rfl rfl rfl rfl) rfl ?_
       refine k_op0 (d := 76) (b := 296) (j' := 6) rfl rfl rfl rfl (g_tt rfl rfl rfl rfl) (T_load_bA D (l := [_, _]) rfl rfl rfl rfl rfl rfl rfl) rfl ?_
       refine k_op0 (d := 77) (b := 312) (j' := 7) rfl rfl rfl rfl (g_tt rfl rfl rfl rfl) (T_fa D (m := 4) rfl rfl rfl rfl rfl rfl) rfl ?_
       refine k_op0 (d := 78) (b := 328) (j' := 8) rfl rfl rfl rfl (g_tt rfl rfl rfl rfl) (T_load_bA D (l := [_]) rfl rfl rfl rfl rfl rfl rfl) rfl ?_
       refine k_op0 (d := 79) (b := 344) (j' := 9) rfl rfl rfl rfl (g_tt rfl rfl rfl rfl) (T_fa D (m := 5) rfl rfl rfl rfl rfl rfl) rfl ?_
       refine k_op0 (d := 80) (b := 360) (j' := 10) rfl rfl rfl rfl (g_tt rfl rfl rfl rfl) (T_load_b D rfl rfl rfl rfl rfl rfl) rfl ?_
       refine k_op0 (d := 81) (b := 376) (j' := 11) rfl rfl rfl rfl (g_tt rfl rfl rfl rfl) (T_move rfl rfl) rfl ?_
       refine k_op0 (d := 82) (b := 392) (j' := 12) rfl rfl rfl rfl (g_tt rfl rfl rfl rfl) (T_conv64 rfl rfl (by rw [Try.underlying5]; rfl) (by first | assumption | omega | (have q := hq (by omega); omega) | (simp; omega))) rfl ?_
       refine k_op0 (d := 83) (b := 408) (j' := 13) rfl rfl rfl rfl (g_tt rfl rfl rfl rfl) (T_add64 rfl rfl rfl (by first | assumption | omega | (have q := hq (by omega); omega) | (simp; omega))) rfl ?_
       refine k_op0 (d := 84) (b := 424) (j' := 14) rfl rfl rfl rfl (g_tt rfl rfl rfl rfl) (T_callV (lvs := [_, _, _, _]) (L := [(1, 1), (2, 2), (3, 3), (4, 4)]) (acheck_spec f li lo ps (k + y) hS.lf hb1 hb2 hS.pos (by omega)) body44 rfl rfl rfl rfl (.fz rfl (.fz rfl (.fz rfl (.fz rfl (.nil))))) rfl) rfl ?_
       refine q0 85 440 15 rfl rfl (T_pick_t rfl rfl rfl rfl) rfl ?_
       refine q0 86 456 16 rfl rfl (T_move rfl rfl) rfl ?_
       refine k_split (d := 86) rfl (fun g13 => ?_) (fun g13 => ?_)
       ·have h13 := g13; (try simp only [cmpB, decide_eq_true_eq, decide_eq_false_iff_not, beq_iff_eq, beq_eq_false_iff_ne, bne_iff_ne, ne_eq, bne_eq_false_iff_eq, Bool.not_eq_true', Bool.not_eq_false', Int.not_lt, Int.not_le] at h13)
        refine k_op0 (d := 87) (b := 472) (j' := 17) rfl rfl rfl rfl (g_tt rfl rfl rfl g13) (T_fa D (m := 0) rfl rfl rfl rfl rfl rfl) rfl ?_
        refine k_op0 (d := 88) (b := 488) (j' := 18) rfl rfl rfl rfl (g_tt rfl rfl rfl g13) (T_load_bA D (l := [_, _]) rfl rfl rfl rfl rfl rfl rfl) rfl ?_
        refine k_op0 (d := 89) (b := 504) (j' := 19) rfl rfl rfl rfl (g_tt rfl rfl rfl g13) (T_fa D (m := 2) rfl rfl rfl rfl rfl rfl) rfl ?_
        refine k_op0 (d := 90) (b := 520) (j' := 20) rfl rfl rfl rfl (g_tt rfl rfl rfl g13) (T_load_bA D (l := [_, _]) rfl rfl rfl rfl rfl rfl rfl) rfl ?_
        refine k_op0 (d := 91) (b := 536) (j' := 21) rfl rfl rfl rfl (g_tt rfl rfl rfl g13) (T_load_bA D (l := [_]) rfl rfl rfl rfl rfl rfl rfl) rfl ?_
        refine k_op0 (d := 92) (b := 552) (j' := 22) rfl rfl rfl rfl (g_tt rfl rfl rfl g13) (T_fa D (m := 5) rfl rfl rfl rfl rfl rfl) rfl ?_
        refine k_op0 (d := 93) (b := 568) (j' := 23) rfl rfl rfl rfl (g_tt rfl rfl rfl g13) (T_load_b D rfl rfl rfl rfl rfl rfl) rfl ?_
        refine k_op0 (d := 94) (b := 584) (j' := 24) rfl rfl rfl rfl (g_tt rfl rfl rfl g13) (T_callV (lvs := [_, _, _, _]) (L := [(1, 1), (2, 2), (3, 3), (4, 4)]) (acheck_spec f li lo ps k hS.lf hb1 hb2 hS.pos (by omega)) body44 rfl rfl rfl rfl (.fz rfl (.fz rfl (.fz rfl (.fz rfl (.nil))))) rfl) rfl ?_
        refine q0 95 600 25 rfl rfl (T_pick_t rfl rfl rfl g13) rfl ?_
        refine q0 4 616 26 rfl rfl (T_assign rfl rfl) rfl ?_
        refine k_done rfl ?_
        refine thenK_n ?_
        refine W_ret ?_
        exact .mk [] (.inr rfl) (.tmp rfl (.nil)) (by first | rfl | (simp [resLV, LV.ren, hA]; done) | (have q2 := more_words hA (by omega) (by omega); have e : (moreP ps).take ps.length = moreP ps := List.take_of_length_le (by rw [moreP_len]; exact Nat.le_refl _); rw [e]; simp [resLV, LV.ren, q2]; done) | exact absurd (q1.symm.trans (by assumption)) (by decide) | (exfalso; simp_all; done)) (.nil) rfl
       ·have h13 := g13; (try simp only [cmpB, decide_eq_true_eq, decide_eq_false_iff_not, beq_iff_eq, beq_eq_false_iff_ne, bne_iff_ne, ne_eq, bne_eq_false_iff_eq, Bool.not_eq_true', Bool.not_eq_false', Int.not_lt, Int.not_le] at h13)
        refine k_no (d := 87) (j' := 17) rfl rfl rfl (g_tf rfl rfl rfl g13) ?_
        refine k_no (d := 88) (j' := 18) rfl rfl rfl (g_tf rfl rfl rfl g13) ?_
        refine k_no (d := 89) (j' := 19) rfl rfl rfl (g_tf rfl rfl rfl g13) ?_
        refine k_no (d := 90) (j' := 20) rfl rfl rfl (g_tf rfl rfl rfl g13) ?_
        refine k_no (d := 91) (j' := 21) rfl rfl rfl (g_tf rfl rfl rfl g13) ?_
        refine k_no (d := 92) (j' := 22) rfl rfl rfl (g_tf rfl rfl rfl g13) ?_
        refine k_no (d := 93) (j' := 23) rfl rfl rfl (g_tf rfl rfl rfl g13) ?_
        refine k_no (d := 94) (j' := 24) rfl rfl rfl (g_tf rfl rfl rfl g13) ?_
        refine q0 95 600 25 rfl rfl (T_pick_f rfl rfl rfl g13) rfl ?_
        refine q0 4 616 26 rfl rfl (T_assign rfl rfl) rfl ?_
        refine k_done rfl ?_
        refine thenK_n ?_
        refine W_ret ?_
        exact .mk [] (.inr rfl) (.tmp rfl (.nil)) (by first | rfl | (simp [resLV, LV.ren, hA]; done) | (have q2 := more_words hA (by omega) (by omega); have e : (moreP ps).take ps.length = moreP ps := List.take_of_length_le (by rw [moreP_len]; exact Nat.le_refl _); rw [e]; simp [resLV, LV.ren, q2]; done) | exact absurd (q1.symm.trans (by assumption)) (by decide) | (exfalso; simp_all; done)) (.nil) rfl
      ·have h12 := c_geq_f g12
       refine W_skip ?_
       refine thenK_n ?_
       refine W_seq ?_
       have q1 := more_regs hA hy.1
       have ej : j = ps.length := by omega
       subst ej
       refine W_seqK (b' := 584) rfl rfl ?_
       refine q0 71 168 1 rfl rfl (T_callV (lvs := []) (L := []) (awake28_spec) body40 rfl rfl rfl rfl (.nil) rfl) rfl ?_
       refine q0 72 184 2 rfl rfl (T_move rfl rfl) rfl ?_
       refine k_op0 (d := 73) (b := 200) (j' := 3) rfl rfl rfl rfl (g_tt rfl rfl rfl rfl) (T_fa D (m := 0) rfl rfl rfl rfl rfl rfl) rfl ?_
       refine k_op0 (d := 74) (b := 216) (j' := 4) rfl rfl rfl rfl (g_tt rfl rfl rfl rfl) (T_load_bA D (l := [_, _]) rfl rfl rfl rfl rfl rfl rfl) rfl ?_
       refine k_op0 (d := 75) (b := 232) (j' := 5) rfl rfl rfl rfl (g_tt rfl rfl rfl rfl) (T_fa D (m := 2) rfl rfl rfl rfl rfl rfl) rfl ?_
       refine k_op0 (d := 76) (b := 248) (j' := 6) rfl rfl rfl rfl (g_tt rfl rfl rfl rfl) (T_load_bA D (l := [_, _]) rfl rfl rfl rfl rfl rfl rfl) rfl ?_
       refine k_op0 (d := 77) (b := 264) (j' := 7) rfl rfl rfl rfl (g_tt rfl rfl rfl rfl) (T_fa D (m := 4) rfl rfl rfl rfl rfl rfl) rfl ?_
       refine k_op0 (d := 78) (b := 280) (j' := 8) rfl rfl rfl rfl (g_tt rfl rfl rfl rfl) (T_load_bA D (l := [_]) rfl rfl rfl rfl rfl rfl rfl) rfl ?_
       refine k_op0 (d := 79) (b := 296) (j' := 9) rfl rfl rfl rfl (g_tt rfl rfl rfl rfl) (T_fa D (m := 5) rfl rfl rfl rfl rfl rfl) rfl ?_
       refine k_op0 (d := 80) (b := 312) (j' := 10) rfl rfl rfl rfl (g_tt rfl rfl rfl rfl) (T_load_b D rfl rfl rfl rfl rfl rfl) rfl ?_
       refine k_op0 (d := 81) (b := 328) (j' := 11) rfl rfl rfl rfl (g_tt rfl rfl rfl rfl) (T_move rfl rfl) rfl ?_
       refine k_op0 (d := 82) (b := 344) (j' := 12) rfl rfl rfl rfl (g_tt rfl rfl rfl rfl) (T_conv64 rfl rfl (by rw [Try.underlying5]; rfl) (by first | assumption | omega | (have q := hq (by omega); omega) | (simp; omega))) rfl ?_
       refine k_op0 (d := 83) (b := 360) (j' := 13) rfl rfl rfl rfl (g_tt rfl rfl rfl rfl) (T_add64 rfl rfl rfl (by first | assumption | omega | (have q := hq (by omega); omega) | (simp; omega))) rfl ?_
       refine k_op0 (d := 84) (b := 376) (j' := 14) rfl rfl rfl rfl (g_tt rfl rfl rfl rfl) (T_callV (lvs := [_, _, _, _]) (L := [(1, 1), (2, 2), (3, 3), (4, 4)]) (acheck_spec f li lo ps (k + y) hS.lf hb1 hb2 hS.pos (by omega)) body44 rfl rfl rfl rfl (.fz rfl (.fz rfl (.fz rfl (.fz rfl (.nil))))) rfl) rfl ?_
       refine q0 85 392 15 rfl rfl (T_pick_t rfl rfl rfl rfl) rfl ?_
       refine q0 86 408 16 rfl rfl (T_move rfl rfl) rfl ?_
       refine k_split (d := 86) rfl (fun g14 => ?_) (fun g14 => ?_)
       ·have h14 := g14; (try simp only [cmpB, decide_eq_true_eq, decide_eq_false_iff_not, beq_iff_eq, beq_eq_false_iff_ne, bne_iff_ne, ne_eq, bne_eq_false_iff_eq, Bool.not_eq_true', Bool.not_eq_false', Int.not_lt, Int.not_le] at h14)
        refine k_op0 (d := 87) (b := 424) (j' := 17) rfl rfl rfl rfl (g_tt rfl rfl rfl g14) (T_fa D (m := 0) rfl rfl rfl rfl rfl rfl) rfl ?_
        refine k_op0 (d := 88) (b := 440) (j' := 18) rfl rfl rfl rfl (g_tt rfl rfl rfl g14) (T_load_bA D (l := [_, _]) rfl rfl rfl rfl rfl rfl rfl) rfl ?_
        refine k_op0 (d := 89) (b := 456) (j' := 19) rfl rfl rfl rfl (g_tt rfl rfl rfl g14) (T_fa D (m := 2) rfl rfl rfl rfl rfl rfl) rfl ?_
        refine k_op0 (d := 90) (b := 472) (j' := 20) rfl rfl rfl rfl (g_tt rfl rfl rfl g14) (T_load_bA D (l := [_, _]) rfl rfl rfl rfl rfl rfl rfl) rfl ?_
        refine k_op0 (d := 91) (b := 488) (j' := 21) rfl rfl rfl rfl (g_tt rfl rfl rfl g14) (T_load_bA D (l := [_]) rfl rfl rfl rfl rfl rfl rfl) rfl ?_
        refine k_op0 (d := 92) (b := 504) (j' := 22) rfl rfl rfl rfl (g_tt rfl rfl rfl g14) (T_fa D (m := 5) rfl rfl rfl rfl rfl rfl) rfl ?_
        refine k_op0 (d := 93) (b := 520) (j' := 23) rfl rfl rfl rfl (g_tt rfl rfl rfl g14) (T_load_b D rfl rfl rfl rfl rfl rfl) rfl ?_
        refine k_op0 (d := 94) (b := 536) (j' := 24) rfl rfl rfl rfl (g_tt rfl rfl rfl g14) (T_callV (lvs := [_, _, _, _]) (L := [(1, 1), (2, 2), (3, 3), (4, 7)]) (acheck_spec f li lo ((moreP ps).take ps.length) k hS.lf hb1 hb2 hS.pos (by simp [moreP_len]; omega)) body44 rfl rfl rfl rfl (.fz rfl (.fz rfl (.fz rfl (.lend rfl (.nil))))) rfl) rfl ?_
        refine q0 95 552 25 rfl rfl (T_pick_t rfl rfl rfl g14) rfl ?_
        refine q0 4 568 26 rfl rfl (T_assign rfl rfl) rfl ?_
        refine k_done rfl ?_
        refine thenK_n ?_
        refine W_ret ?_
        exact .mk [] (.inr rfl) (.tmp rfl (.nil)) (by first | rfl | (simp [resLV, LV.ren, hA]; done) | (have q2 := more_words hA (by omega) (by omega); have e : (moreP ps).take ps.length = moreP ps := List.take_of_length_le (by rw [moreP_len]; exact Nat.le_refl _); rw [e]; simp [resLV, LV.ren, q2]; done) | exact absurd (q1.symm.trans (by assumption)) (by decide) | (exfalso; simp_all; done)) (.nil) rfl
       ·have h14 := g14; (try simp only [cmpB, decide_eq_true_eq, decide_eq_false_iff_not, beq_iff_eq, beq_eq_false_iff_ne, bne_iff_ne, ne_eq, bne_eq_false_iff_eq, Bool.not_eq_true', Bool.not_eq_false', Int.not_lt, Int.not_le] at h14)
        refine k_no (d := 87) (j' := 17) rfl rfl rfl (g_tf rfl rfl rfl g14) ?_
        refine k_no (d := 88) (j' := 18) rfl rfl rfl (g_tf rfl rfl rfl g14) ?_
        refine k_no (d := 89) (j' := 19) rfl rfl rfl (g_tf rfl rfl rfl g14) ?_
        refine k_no (d := 90) (j' := 20) rfl rfl rfl (g_tf rfl rfl rfl g14) ?_
        refine k_no (d := 91) (j' := 21) rfl rfl rfl (g_tf rfl rfl rfl g14) ?_
        refine k_no (d := 92) (j' := 22) rfl rfl rfl (g_tf rfl rfl rfl g14) ?_
        refine k_no (d := 93) (j' := 23) rfl rfl rfl (g_tf rfl rfl rfl g14) ?_
        refine k_no (d := 94) (j' := 24) rfl rfl rfl (g_tf rfl rfl rfl g14) ?_
        refine q0 95 552 25 rfl rfl (T_pick_f rfl rfl rfl g14) rfl ?_
        refine q0 4 568 26 rfl rfl (T_assign rfl rfl) rfl ?_
        refine k_done rfl ?_
        refine thenK_n ?_
        refine W_ret ?_
        exact .mk [] (.inr rfl) (.tmp rfl (.nil)) (by first | rfl | (simp [resLV, LV.ren, hA]; done) | (have q2 := more_words hA (by omega) (by omega); have e : (moreP ps).take ps.length = moreP ps := List.take_of_length_le (by rw [moreP_len]; exact Nat.le_refl _); rw [e]; simp [resLV, LV.ren, q2]; done) | exact absurd (q1.symm.trans (by assumption)) (by decide) | (exfalso; simp_all; done)) (.nil) rfl
end Lg
end Go.Proofs.Ytpfhmodjjljpjaa
