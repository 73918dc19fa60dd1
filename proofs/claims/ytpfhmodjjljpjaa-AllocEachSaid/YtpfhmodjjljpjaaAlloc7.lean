import Derived.Test.YtpfhmodjjljpjaaAlloc6
set_option linter.unusedVariables false
set_option linter.unusedSimpArgs false
namespace Go.Proofs.Ytpfhmodjjljpjaa
open Go.RowKit
namespace Lg
set_option linter.unusedSimpArgs false
set_option linter.unusedVariables false
def wF : GFn := ⟨2, [⟨[⟨1, 0, 0, 0, 0, 0, 0, 1⟩, ⟨1, 1, 0, 0, 0, 0, 0, 2⟩, ⟨9, 0, 0, 0, 0, 0, 0, 0⟩, ⟨9, 0, 1, 0, 0, 0, 0, 0⟩], 3, 0, 0, 0⟩]⟩
theorem wF_lf : LF wF := lf_of (f := wF) (i := 0) (w := 16) (by decide +kernel) (by decide) (by decide)
def eachL (y : Int) (n : Nat) : List Int := (List.range n).map fun (r : Nat) => -1 - (r : Int) - y
theorem eachL_len (y : Int) (n : Nat) : (eachL y n).length = n := by simp [eachL]
theorem eachL_succ (y : Int) (n : Nat) : eachL y (n + 1) = eachL y n ++ [-1 - (n : Int) - y] := by simp [eachL, List.range_succ]
theorem eachL_get {y : Int} {n i : Nat} (h : i < n) : (eachL y n).getD i default = -1 - (i : Int) - y := by simp [eachL, List.getD, h]
theorem getD_take {l : List Int} {i j : Nat} (h : j < i) : (l.take i).getD j default = l.getD j default := by
  simp only [List.getD]; rw [List.getElem?_take_of_lt h]
theorem each_ok {f : GFn} (h : S28 f) {li lo : List (List Bool)} (hc : checkL f li lo = true) {y k : Int} (hy : 0 ≤ y ∧ y < 256) : acheck f li lo (eachL y f.regs.toNat) k = true := by
  have hr := h.regs
  refine (acheck_yes hc (by rw [eachL_len]; omega) ?_ (fun i hi => ?_)).symm
  · rw [List.any_eq_false]
    intro x hx
    obtain ⟨i, hi, rfl⟩ := mem_getD hx
    rw [eachL_len] at hi
    rw [eachL_get hi]
    have : fitsP k (-1 - (i : Int) - y) = true := by
      unfold fitsP
      simp only [Bool.or_eq_true, Bool.and_eq_true, decide_eq_true_eq]
      right; omega
    unfold nofit; rw [this]; decide
  · rw [eachL_len] at hi
    refine okP_yes2 (by rw [eachL_get hi]; omega) (free_yes (fun j hj => ?_)).symm
    rw [List.length_take, eachL_len] at hj
    rw [getD_take (by omega), eachL_get hi, eachL_get (by omega), decide_eq_false (by omega)]
    rfl
theorem evL_sz (f : GFn) : SzL f (evL f) := ⟨by simp [evL], fun s hs => by rw [List.eq_of_mem_replicate hs]; simp⟩
theorem evL_get {f : GFn} {b i : Nat} (hb : b < f.blocks.length) (hi : i < f.regs.toNat) : ((evL f).getD b default).getD i default = true := by
  have : (evL f).getD b default = List.replicate f.regs.toNat true := by simp [evL, List.getD, hb]
  rw [this]; simp [List.getD, hi]
theorem ev_closed {f : GFn} (hF : LF f) : checkL f (evL f) (evL f) = true := closed_mk hF (evL_sz f) (evL_sz f) (fun b hb => ⟨fun m hm i hi => evL_get hb (by
    have hk := hF.follow hb hm
    have := getD_lt hi
    rw [(evL_sz f).at (by omega)] at this; exact this), fun i hi => evL_get hb (by
    have := getD_lt hi
    rw [thrS_len, (evL_sz f).at hb] at this; exact this)⟩)
theorem small28_lf {f : GFn} (h : small28 f = true) : LF f := (s28 h).lf
end Lg
end Go.Proofs.Ytpfhmodjjljpjaa

namespace Go.Proofs.Ytpfhmodjjljpjaa
open Go.RowKit
namespace Lg
set_option maxRecDepth 100000
set_option linter.unusedVariables false
set_option linter.unusedSimpArgs false
theorem body40 : (Try.prog.funcs[40]?).map (fun fn => (fn.name == "runtime.NumGoroutine" || fn.body.isNone)) = some false := by kernel_rfl
theorem awake28_spec  : Spec Try.prog 40 [] 1 [] (.v (.bool true)) 1 [] := by
 refine spec_of D (fn := Try.f40) rfl rfl (Nat.le_of_ble_eq_true rfl) ?_
 refine W_seq ?_
 refine W_seqK (b' := 17) rfl rfl ?_
 refine q0 0 1 1 rfl rfl (T_assign rfl rfl) rfl ?_
 refine k_done rfl ?_
 refine thenK_n ?_
 refine W_seq ?_
 refine W_seqK (b' := 145) rfl rfl ?_
 refine q0 5 17 1 rfl rfl (T_build D (l := [_, _, _, _, _, _, _, _]) rfl rfl rfl rfl (.cons rfl (flat_v rfl) (.cons rfl (flat_v rfl) (.nil))) rfl rfl) rfl ?_
 refine q0 6 33 2 rfl rfl (T_build D (l := [_, _, _, _, _, _, _, _]) rfl rfl rfl rfl (.cons rfl (flat_v rfl) (.cons rfl (flat_v rfl) (.cons rfl (flat_v rfl) (.nil)))) rfl rfl) rfl ?_
 refine q0 7 49 3 rfl rfl (T_build D (l := [_, _, _, _, _, _, _, _]) rfl rfl rfl rfl (.cons rfl (flat_v rfl) (.nil)) rfl rfl) rfl ?_
 refine q0 8 65 4 rfl rfl (T_build D (l := [_, _, _, _, _, _, _, _]) rfl rfl rfl rfl (.cons rfl (flat_v rfl) (.cons rfl (flat_v rfl) (.nil))) rfl rfl) rfl ?_
 refine q1 9 81 5 rfl rfl (T_bs D (ys := [⟨_, _, _, _, _, _, _, _⟩, ⟨_, _, _, _, _, _, _, _⟩, ⟨_, _, _, _, _, _, _, _⟩, ⟨_, _, _, _, _, _, _, _⟩]) (enc := eTac) (l := [_, _, _, _, _, _, _, _, _, _, _, _, _, _, _, _, _, _, _, _, _, _, _, _, _, _, _, _, _, _, _, _]) rfl rfl rfl rfl rfl rfl (.cons rfl flat_agg (.cons rfl flat_agg (.cons rfl flat_agg (.cons rfl flat_agg (.nil))))) rfl rfl rfl rfl (.v rfl (.v rfl (.v rfl (.v rfl (.v rfl (.v rfl (.v rfl (.v rfl (.v rfl (.v rfl (.v rfl (.v rfl (.v rfl (.v rfl (.v rfl (.v rfl (.v rfl (.v rfl (.v rfl (.v rfl (.v rfl (.v rfl (.v rfl (.v rfl (.v rfl (.v rfl (.v rfl (.v rfl (.v rfl (.v rfl (.v rfl (.v rfl (.nil))))))))))))))))))))))))))))))))) rfl rfl) rfl ?_
 refine q0 10 97 6 rfl rfl (T_build D (l := [_, _, _, _, _]) rfl rfl rfl rfl (.cons rfl (flat_sl rfl) (.cons rfl (flat_v rfl) (.nil))) rfl rfl) rfl ?_
 refine qn 1 113 7 rfl rfl (T_nilbox [(70, 8)] (T_alloc D rfl rfl rfl) rfl (.cons (.nil rfl) <| .cons (.same _) <| .cons (.same _) <| .cons (.same _) <| .cons (.same _) <| .nil) (upd' := [(113, .box 72 [.r 114, .v (.int .i64 0), .v (.int .i64 0), .v (.int .i64 0), .v (.int .i64 0)]), (114, .row 70 8 (List.map eTac ([] : List (GTac))))]) (nn' := 2) rfl rfl) rfl ?_
 refine s1 129 8 rfl rfl (T_stB D (cs' := [_, _, _, _, _]) rfl rfl rfl rfl flat_agg rfl rfl (Nat.le_of_ble_eq_true rfl) rfl) rfl ?_
 refine k_done rfl ?_
 refine thenK_n ?_
 refine W_seq ?_
 refine W_seqK (b' := 225) rfl rfl ?_
 refine q0 11 145 1 rfl rfl (T_load_bA D (l := [_, _, _, _, _]) rfl rfl rfl rfl rfl rfl rfl) rfl ?_
 refine qn 12 161 2 rfl rfl (T_bs D (ys := [⟨_, _, _, _, _⟩]) (enc := eBlock) (l := [_, _, _, _, _]) rfl rfl rfl rfl rfl rfl (.cons rfl flat_agg (.nil)) rfl rfl rfl rfl (.row rfl (.v rfl (.v rfl (.v rfl (.v rfl (.nil))))) (by rfl)) rfl rfl) rfl ?_
 refine q0 13 177 3 rfl rfl (T_build D (l := [_, _]) rfl rfl rfl rfl (.cons rfl (flat_v rfl) (.cons rfl (flat_sl rfl) (.nil))) rfl rfl) rfl ?_
 refine qn 2 193 4 rfl rfl (T_nilbox [(72, 5)] (T_alloc D rfl rfl rfl) rfl (.cons (.same _) <| .cons (.nil rfl) <| .nil) (upd' := [(193, .box 29 [.v (.int .i64 0), .r 194]), (194, .row 72 5 (List.map eBlock ([] : List (GBlock))))]) (nn' := 2) rfl rfl) rfl ?_
 refine s1 209 5 rfl rfl (T_stB D (cs' := [_, _]) rfl rfl rfl rfl flat_agg rfl rfl (Nat.le_of_ble_eq_true rfl) rfl) rfl ?_
 refine k_done rfl ?_
 refine thenK_n ?_
 refine W_seq ?_
 refine W_seqK (b' := 289) rfl rfl ?_
 refine q0 14 225 1 rfl rfl (T_load_bA D (l := [_, _]) rfl rfl rfl rfl rfl rfl rfl) rfl ?_
 refine qn 15 241 2 rfl rfl (T_call (lvs := [_]) (L := [(1, 161)]) (lv := .agg [.r 241, .r 242]) (upd := [(241, .fz 1 _), (242, .fz 1 _), (161, .fz 5 _)]) (nn := 2) false (rlive_spec wF wF_lf) body42 rfl rfl rfl rfl (.lend rfl (.nil)) rfl (.inl rfl) rfl rfl rfl) rfl ?_
 refine qn 3 257 3 rfl rfl (T_nilbox [(48, 1), (48, 1)] (T_alloc D rfl rfl rfl) rfl (.cons (.nil rfl) <| .cons (.nil rfl) <| .nil) (upd' := [(257, .box 57 [.r 258, .r 259]), (258, .row 48 1 (List.map eBs ([] : List (List Bool)))), (259, .row 48 1 (List.map eBs ([] : List (List Bool))))]) (nn' := 3) rfl rfl) rfl ?_
 refine s1 273 4 rfl rfl (T_stB D (cs' := [_, _]) rfl rfl rfl rfl flat_agg rfl rfl (Nat.le_of_ble_eq_true rfl) rfl) rfl ?_
 refine k_done rfl ?_
 refine thenK_n ?_
 refine W_seq ?_
 refine W_seqK (b' := 369) rfl rfl ?_
 refine q0 16 289 1 rfl rfl (T_load_bA D (l := [_, _]) rfl rfl rfl rfl rfl rfl rfl) rfl ?_
 refine q0 17 305 2 rfl rfl (T_load_bA D (l := [_, _]) rfl rfl rfl rfl rfl rfl rfl) rfl ?_
 refine q1 18 321 3 rfl rfl (T_call (lvs := [_, _, _]) (L := [(1, 161), (2, 241), (3, 242)]) (lv := .agg [.r 321]) (upd := [(321, .row 3 1 _)]) (nn := 1) false (allocOf_spec wF (liveL wF).1 (liveL wF).2 2 wF_lf (live_sz wF).i (live_sz wF).o (by decide) (by decide)) body43 rfl rfl rfl rfl (.fz rfl (.fz rfl (.fz rfl (.nil)))) rfl (.inl rfl) rfl rfl rfl) rfl ?_
 refine qn 4 337 4 rfl rfl (T_nilbox [(3, 1)] (T_alloc D rfl rfl rfl) rfl (.cons (.nil rfl) <| .nil) (upd' := [(337, .box 60 [.r 338]), (338, .row 3 1 (List.map eI ([] : List (Int))))]) (nn' := 2) rfl rfl) rfl ?_
 refine s1 353 5 rfl rfl (T_stB D (cs' := [_]) rfl rfl rfl rfl flat_agg rfl rfl (Nat.le_of_ble_eq_true rfl) rfl) rfl ?_
 refine k_done rfl ?_
 refine thenK_n ?_
 refine W_seq ?_
 refine W_seqK (b' := 881) rfl rfl ?_
 refine q0 19 369 1 rfl rfl (T_load_bA D (l := [_, _]) rfl rfl rfl rfl rfl rfl rfl) rfl ?_
 refine q0 20 385 2 rfl rfl (T_load_bA D (l := [_, _]) rfl rfl rfl rfl rfl rfl rfl) rfl ?_
 refine q0 21 401 3 rfl rfl (T_load_bA D (l := [_]) rfl rfl rfl rfl rfl rfl rfl) rfl ?_
 refine q0 22 417 4 rfl rfl (T_callV (lvs := [_, _, _, _]) (L := [(1, 161), (2, 241), (3, 242), (4, 321)]) (rcheck28_spec wF (liveL wF).1 (liveL wF).2 (allocP wF (liveL wF).1 (liveL wF).2 2) 2 wF_lf (by decide +kernel) (by decide +kernel) (by decide +kernel) (by decide +kernel)) body64 rfl rfl rfl rfl (.fz rfl (.fz rfl (.fz rfl (.lend rfl (.nil))))) rfl) rfl ?_
 refine q0 23 433 5 rfl rfl (T_move rfl rfl) rfl ?_
 refine k_split (d := 23) rfl (fun g1 => ?_) (fun g1 => ?_)
 ·have h1 := g1; (try simp only [cmpB, decide_eq_true_eq, decide_eq_false_iff_not, beq_iff_eq, beq_eq_false_iff_ne, bne_iff_ne, ne_eq, bne_eq_false_iff_eq, Bool.not_eq_true', Bool.not_eq_false', Int.not_lt, Int.not_le] at h1)
  refine k_op0 (d := 24) (b := 449) (j' := 6) rfl rfl rfl rfl (g_tt rfl rfl rfl g1) (T_load_bA D (l := [_, _]) rfl rfl rfl rfl rfl rfl rfl) rfl ?_
  refine k_op0 (d := 25) (b := 465) (j' := 7) rfl rfl rfl rfl (g_tt rfl rfl rfl g1) (T_load_bA D (l := [_, _]) rfl rfl rfl rfl rfl rfl rfl) rfl ?_
  refine k_op0 (d := 26) (b := 481) (j' := 8) rfl rfl rfl rfl (g_tt rfl rfl rfl g1) (T_load_bA D (l := [_]) rfl rfl rfl rfl rfl rfl rfl) rfl ?_
  refine k_op0 (d := 27) (b := 497) (j' := 9) rfl rfl rfl rfl (g_tt rfl rfl rfl g1) (T_callV (lvs := [_, _, _, _]) (L := [(1, 161), (2, 241), (3, 242), (4, 321)]) (acheck_spec wF (liveL wF).1 (liveL wF).2 (allocP wF (liveL wF).1 (liveL wF).2 2) 2 wF_lf (by decide +kernel) (by decide +kernel) (by decide +kernel) (by decide +kernel)) body44 rfl rfl rfl rfl (.fz rfl (.fz rfl (.fz rfl (.lend rfl (.nil))))) rfl) rfl ?_
  refine q0 28 513 10 rfl rfl (T_pick_t rfl rfl rfl g1) rfl ?_
  refine q0 29 529 11 rfl rfl (T_move rfl rfl) rfl ?_
  refine k_split (d := 29) rfl (fun g2 => ?_) (fun g2 => ?_)
  ·have h2 := g2; (try simp only [cmpB, decide_eq_true_eq, decide_eq_false_iff_not, beq_iff_eq, beq_eq_false_iff_ne, bne_iff_ne, ne_eq, bne_eq_false_iff_eq, Bool.not_eq_true', Bool.not_eq_false', Int.not_lt, Int.not_le] at h2)
   refine k_op0 (d := 30) (b := 545) (j' := 12) rfl rfl rfl rfl (g_tt rfl rfl rfl g2) (T_load_bA D (l := [_, _]) rfl rfl rfl rfl rfl rfl rfl) rfl ?_
   refine k_op0 (d := 31) (b := 561) (j' := 13) rfl rfl rfl rfl (g_tt rfl rfl rfl g2) (T_load_bA D (l := [_, _]) rfl rfl rfl rfl rfl rfl rfl) rfl ?_
   refine k_op1 (d := 32) (b := 577) (j' := 14) rfl rfl rfl rfl (g_tt rfl rfl rfl g2) (T_bs D (ys := [_, _]) (enc := eI) (l := [_, _]) rfl rfl rfl rfl rfl rfl (.cons rfl (flat_v rfl) (.cons rfl (flat_v rfl) (.nil))) rfl rfl rfl rfl (.v rfl (.v rfl (.nil))) rfl rfl) rfl ?_
   refine k_op0 (d := 33) (b := 593) (j' := 15) rfl rfl rfl rfl (g_tt rfl rfl rfl g2) (T_build D (l := [_]) rfl rfl rfl rfl (.cons rfl (flat_sl rfl) (.nil)) rfl rfl) rfl ?_
   refine k_op0 (d := 34) (b := 609) (j' := 16) rfl rfl rfl rfl (g_tt rfl rfl rfl g2) (T_callV (lvs := [_, _, _, _]) (L := [(1, 161), (2, 241), (3, 242), (4, 577)]) (acheck_spec wF (liveL wF).1 (liveL wF).2 [1, 1] 2 wF_lf (by decide +kernel) (by decide +kernel) (by decide +kernel) (by decide +kernel)) body44 rfl rfl rfl rfl (.fz rfl (.fz rfl (.fz rfl (.lend rfl (.nil))))) rfl) rfl ?_
   refine k_op0 (d := 35) (b := 625) (j' := 17) rfl rfl rfl rfl (g_tt rfl rfl rfl g2) (T_not rfl rfl) rfl ?_
   refine q0 36 641 18 rfl rfl (T_pick_t rfl rfl rfl g2) rfl ?_
   refine q0 37 657 19 rfl rfl (T_move rfl rfl) rfl ?_
   refine k_split (d := 37) rfl (fun g3 => ?_) (fun g3 => ?_)
   ·have h3 := g3; (try simp only [cmpB, decide_eq_true_eq, decide_eq_false_iff_not, beq_iff_eq, beq_eq_false_iff_ne, bne_iff_ne, ne_eq, bne_eq_false_iff_eq, Bool.not_eq_true', Bool.not_eq_false', Int.not_lt, Int.not_le] at h3)
    refine k_op0 (d := 38) (b := 673) (j' := 20) rfl rfl rfl rfl (g_tt rfl rfl rfl g3) (T_load_bA D (l := [_, _]) rfl rfl rfl rfl rfl rfl rfl) rfl ?_
    refine k_op0 (d := 39) (b := 689) (j' := 21) rfl rfl rfl rfl (g_tt rfl rfl rfl g3) (T_load_bA D (l := [_, _]) rfl rfl rfl rfl rfl rfl rfl) rfl ?_
    refine k_op1 (d := 40) (b := 705) (j' := 22) rfl rfl rfl rfl (g_tt rfl rfl rfl g3) (T_bs D (ys := [_, _]) (enc := eI) (l := [_, _]) rfl rfl rfl rfl rfl rfl (.cons rfl (flat_v rfl) (.cons rfl (flat_v rfl) (.nil))) rfl rfl rfl rfl (.v rfl (.v rfl (.nil))) rfl rfl) rfl ?_
    refine k_op0 (d := 41) (b := 721) (j' := 23) rfl rfl rfl rfl (g_tt rfl rfl rfl g3) (T_build D (l := [_]) rfl rfl rfl rfl (.cons rfl (flat_sl rfl) (.nil)) rfl rfl) rfl ?_
    refine k_op0 (d := 42) (b := 737) (j' := 24) rfl rfl rfl rfl (g_tt rfl rfl rfl g3) (T_callV (lvs := [_, _, _, _]) (L := [(1, 161), (2, 241), (3, 242), (4, 705)]) (acheck_spec wF (liveL wF).1 (liveL wF).2 [2, -5] 2 wF_lf (by decide +kernel) (by decide +kernel) (by decide +kernel) (by decide +kernel)) body44 rfl rfl rfl rfl (.fz rfl (.fz rfl (.fz rfl (.lend rfl (.nil))))) rfl) rfl ?_
    refine q0 43 753 25 rfl rfl (T_pick_t rfl rfl rfl g3) rfl ?_
    refine q0 44 769 26 rfl rfl (T_move rfl rfl) rfl ?_
    refine k_split (d := 44) rfl (fun g4 => ?_) (fun g4 => ?_)
    ·have h4 := g4; (try simp only [cmpB, decide_eq_true_eq, decide_eq_false_iff_not, beq_iff_eq, beq_eq_false_iff_ne, bne_iff_ne, ne_eq, bne_eq_false_iff_eq, Bool.not_eq_true', Bool.not_eq_false', Int.not_lt, Int.not_le] at h4)
     refine k_op1 (d := 45) (b := 785) (j' := 27) rfl rfl rfl rfl (g_tt rfl rfl rfl g4) (T_bs D (ys := [_, _]) (enc := eI) (l := [_, _]) rfl rfl rfl rfl rfl rfl (.cons rfl (flat_v rfl) (.cons rfl (flat_v rfl) (.nil))) rfl rfl rfl rfl (.v rfl (.v rfl (.nil))) rfl rfl) rfl ?_
     refine k_op0 (d := 46) (b := 801) (j' := 28) rfl rfl rfl rfl (g_tt rfl rfl rfl g4) (T_build D (l := [_]) rfl rfl rfl rfl (.cons rfl (flat_sl rfl) (.nil)) rfl rfl) rfl ?_
     refine k_op0 (d := 47) (b := 817) (j' := 29) rfl rfl rfl rfl (g_tt rfl rfl rfl g4) (T_callV (lvs := [_]) (L := [(1, 785)]) (words_spec [2, -5] (by decide) (by decide)) body65 rfl rfl rfl rfl (.lend rfl (.nil)) rfl) rfl ?_
     refine k_op0 (d := 48) (b := 833) (j' := 30) rfl rfl rfl rfl (g_tt rfl rfl rfl g4) (T_cmp rfl rfl rfl rfl) rfl ?_
     refine q0 49 849 31 rfl rfl (T_pick_t rfl rfl rfl g4) rfl ?_
     refine q0 0 865 32 rfl rfl (T_assign rfl rfl) rfl ?_
     refine k_done rfl ?_
     refine thenK_n ?_
     refine W_ret ?_
     exact .mk [] (.inr rfl) (.tmp rfl (.nil)) (by first | rfl | exact absurd g1 (by decide +kernel) | exact absurd g2 (by decide +kernel) | exact absurd g3 (by decide +kernel) | exact absurd g4 (by decide +kernel) | exact absurd g5 (by decide +kernel) | exact absurd g6 (by decide +kernel) | exact absurd g7 (by decide +kernel) | exact absurd g8 (by decide +kernel) | decide +kernel) (.nil) rfl
    ·have h4 := g4; (try simp only [cmpB, decide_eq_true_eq, decide_eq_false_iff_not, beq_iff_eq, beq_eq_false_iff_ne, bne_iff_ne, ne_eq, bne_eq_false_iff_eq, Bool.not_eq_true', Bool.not_eq_false', Int.not_lt, Int.not_le] at h4)
     refine k_no (d := 45) (j' := 27) rfl rfl rfl (g_tf rfl rfl rfl g4) ?_
     refine k_no (d := 46) (j' := 28) rfl rfl rfl (g_tf rfl rfl rfl g4) ?_
     refine k_no (d := 47) (j' := 29) rfl rfl rfl (g_tf rfl rfl rfl g4) ?_
     refine k_no (d := 48) (j' := 30) rfl rfl rfl (g_tf rfl rfl rfl g4) ?_
     refine q0 49 849 31 rfl rfl (T_pick_f rfl rfl rfl g4) rfl ?_
     refine q0 0 865 32 rfl rfl (T_assign rfl rfl) rfl ?_
     refine k_done rfl ?_
     refine thenK_n ?_
     refine W_ret ?_
     exact .mk [] (.inr rfl) (.tmp rfl (.nil)) (by first | rfl | exact absurd g1 (by decide +kernel) | exact absurd g2 (by decide +kernel) | exact absurd g3 (by decide +kernel) | exact absurd g4 (by decide +kernel) | exact absurd g5 (by decide +kernel) | exact absurd g6 (by decide +kernel) | exact absurd g7 (by decide +kernel) | exact absurd g8 (by decide +kernel) | decide +kernel) (.nil) rfl
   ·have h3 := g3; (try simp only [cmpB, decide_eq_true_eq, decide_eq_false_iff_not, beq_iff_eq, beq_eq_false_iff_ne, bne_iff_ne, ne_eq, bne_eq_false_iff_eq, Bool.not_eq_true', Bool.not_eq_false', Int.not_lt, Int.not_le] at h3)
    refine k_no (d := 38) (j' := 20) rfl rfl rfl (g_tf rfl rfl rfl g3) ?_
    refine k_no (d := 39) (j' := 21) rfl rfl rfl (g_tf rfl rfl rfl g3) ?_
    refine k_no (d := 40) (j' := 22) rfl rfl rfl (g_tf rfl rfl rfl g3) ?_
    refine k_no (d := 41) (j' := 23) rfl rfl rfl (g_tf rfl rfl rfl g3) ?_
    refine k_no (d := 42) (j' := 24) rfl rfl rfl (g_tf rfl rfl rfl g3) ?_
    refine q0 43 753 25 rfl rfl (T_pick_f rfl rfl rfl g3) rfl ?_
    refine q0 44 769 26 rfl rfl (T_move rfl rfl) rfl ?_
    refine k_no (d := 45) (j' := 27) rfl rfl rfl (g_tf rfl rfl rfl rfl) ?_
    refine k_no (d := 46) (j' := 28) rfl rfl rfl (g_tf rfl rfl rfl rfl) ?_
    refine k_no (d := 47) (j' := 29) rfl rfl rfl (g_tf rfl rfl rfl rfl) ?_
    refine k_no (d := 48) (j' := 30) rfl rfl rfl (g_tf rfl rfl rfl rfl) ?_
    refine q0 49 849 31 rfl rfl (T_pick_f rfl rfl rfl rfl) rfl ?_
    refine q0 0 865 32 rfl rfl (T_assign rfl rfl) rfl ?_
    refine k_done rfl ?_
    refine thenK_n ?_
    refine W_ret ?_
    exact .mk [] (.inr rfl) (.tmp rfl (.nil)) (by first | rfl | exact absurd g1 (by decide +kernel) | exact absurd g2 (by decide +kernel) | exact absurd g3 (by decide +kernel) | exact absurd g4 (by decide +kernel) | exact absurd g5 (by decide +kernel) | exact absurd g6 (by decide +kernel) | exact absurd g7 (by decide +kernel) | exact absurd g8 (by decide +kernel) | decide +kernel) (.nil) rfl
  ·have h2 := g2; (try simp only [cmpB, decide_eq_true_eq, decide_eq_false_iff_not, beq_iff_eq, beq_eq_false_iff_ne, bne_iff_ne, ne_eq, bne_eq_false_iff_eq, Bool.not_eq_true', Bool.not_eq_false', Int.not_lt, Int.not_le] at h2)
   refine k_no (d := 30) (j' := 12) rfl rfl rfl (g_tf rfl rfl rfl g2) ?_
   refine k_no (d := 31) (j' := 13) rfl rfl rfl (g_tf rfl rfl rfl g2) ?_
   refine k_no (d := 32) (j' := 14) rfl rfl rfl (g_tf rfl rfl rfl g2) ?_
   refine k_no (d := 33) (j' := 15) rfl rfl rfl (g_tf rfl rfl rfl g2) ?_
   refine k_no (d := 34) (j' := 16) rfl rfl rfl (g_tf rfl rfl rfl g2) ?_
   refine k_no (d := 35) (j' := 17) rfl rfl rfl (g_tf rfl rfl rfl g2) ?_
   refine q0 36 641 18 rfl rfl (T_pick_f rfl rfl rfl g2) rfl ?_
   refine q0 37 657 19 rfl rfl (T_move rfl rfl) rfl ?_
   refine k_no (d := 38) (j' := 20) rfl rfl rfl (g_tf rfl rfl rfl rfl) ?_
   refine k_no (d := 39) (j' := 21) rfl rfl rfl (g_tf rfl rfl rfl rfl) ?_
   refine k_no (d := 40) (j' := 22) rfl rfl rfl (g_tf rfl rfl rfl rfl) ?_
   refine k_no (d := 41) (j' := 23) rfl rfl rfl (g_tf rfl rfl rfl rfl) ?_
   refine k_no (d := 42) (j' := 24) rfl rfl rfl (g_tf rfl rfl rfl rfl) ?_
   refine q0 43 753 25 rfl rfl (T_pick_f rfl rfl rfl rfl) rfl ?_
   refine q0 44 769 26 rfl rfl (T_move rfl rfl) rfl ?_
   refine k_no (d := 45) (j' := 27) rfl rfl rfl (g_tf rfl rfl rfl rfl) ?_
   refine k_no (d := 46) (j' := 28) rfl rfl rfl (g_tf rfl rfl rfl rfl) ?_
   refine k_no (d := 47) (j' := 29) rfl rfl rfl (g_tf rfl rfl rfl rfl) ?_
   refine k_no (d := 48) (j' := 30) rfl rfl rfl (g_tf rfl rfl rfl rfl) ?_
   refine q0 49 849 31 rfl rfl (T_pick_f rfl rfl rfl rfl) rfl ?_
   refine q0 0 865 32 rfl rfl (T_assign rfl rfl) rfl ?_
   refine k_done rfl ?_
   refine thenK_n ?_
   refine W_ret ?_
   exact .mk [] (.inr rfl) (.tmp rfl (.nil)) (by first | rfl | exact absurd g1 (by decide +kernel) | exact absurd g2 (by decide +kernel) | exact absurd g3 (by decide +kernel) | exact absurd g4 (by decide +kernel) | exact absurd g5 (by decide +kernel) | exact absurd g6 (by decide +kernel) | exact absurd g7 (by decide +kernel) | exact absurd g8 (by decide +kernel) | decide +kernel) (.nil) rfl
 ·have h1 := g1; (try simp only [cmpB, decide_eq_true_eq, decide_eq_false_iff_not, beq_iff_eq, beq_eq_false_iff_ne, bne_iff_ne, ne_eq, bne_eq_false_iff_eq, Bool.not_eq_true', Bool.not_eq_false', Int.not_lt, Int.not_le] at h1)
  refine k_no (d := 24) (j' := 6) rfl rfl rfl (g_tf rfl rfl rfl g1) ?_
  refine k_no (d := 25) (j' := 7) rfl rfl rfl (g_tf rfl rfl rfl g1) ?_
  refine k_no (d := 26) (j' := 8) rfl rfl rfl (g_tf rfl rfl rfl g1) ?_
  refine k_no (d := 27) (j' := 9) rfl rfl rfl (g_tf rfl rfl rfl g1) ?_
  refine q0 28 513 10 rfl rfl (T_pick_f rfl rfl rfl g1) rfl ?_
  refine q0 29 529 11 rfl rfl (T_move rfl rfl) rfl ?_
  refine k_no (d := 30) (j' := 12) rfl rfl rfl (g_tf rfl rfl rfl rfl) ?_
  refine k_no (d := 31) (j' := 13) rfl rfl rfl (g_tf rfl rfl rfl rfl) ?_
  refine k_no (d := 32) (j' := 14) rfl rfl rfl (g_tf rfl rfl rfl rfl) ?_
  refine k_no (d := 33) (j' := 15) rfl rfl rfl (g_tf rfl rfl rfl rfl) ?_
  refine k_no (d := 34) (j' := 16) rfl rfl rfl (g_tf rfl rfl rfl rfl) ?_
  refine k_no (d := 35) (j' := 17) rfl rfl rfl (g_tf rfl rfl rfl rfl) ?_
  refine q0 36 641 18 rfl rfl (T_pick_f rfl rfl rfl rfl) rfl ?_
  refine q0 37 657 19 rfl rfl (T_move rfl rfl) rfl ?_
  refine k_no (d := 38) (j' := 20) rfl rfl rfl (g_tf rfl rfl rfl rfl) ?_
  refine k_no (d := 39) (j' := 21) rfl rfl rfl (g_tf rfl rfl rfl rfl) ?_
  refine k_no (d := 40) (j' := 22) rfl rfl rfl (g_tf rfl rfl rfl rfl) ?_
  refine k_no (d := 41) (j' := 23) rfl rfl rfl (g_tf rfl rfl rfl rfl) ?_
  refine k_no (d := 42) (j' := 24) rfl rfl rfl (g_tf rfl rfl rfl rfl) ?_
  refine q0 43 753 25 rfl rfl (T_pick_f rfl rfl rfl rfl) rfl ?_
  refine q0 44 769 26 rfl rfl (T_move rfl rfl) rfl ?_
  refine k_no (d := 45) (j' := 27) rfl rfl rfl (g_tf rfl rfl rfl rfl) ?_
  refine k_no (d := 46) (j' := 28) rfl rfl rfl (g_tf rfl rfl rfl rfl) ?_
  refine k_no (d := 47) (j' := 29) rfl rfl rfl (g_tf rfl rfl rfl rfl) ?_
  refine k_no (d := 48) (j' := 30) rfl rfl rfl (g_tf rfl rfl rfl rfl) ?_
  refine q0 49 849 31 rfl rfl (T_pick_f rfl rfl rfl rfl) rfl ?_
  refine q0 0 865 32 rfl rfl (T_assign rfl rfl) rfl ?_
  refine k_done rfl ?_
  refine thenK_n ?_
  refine W_ret ?_
  exact .mk [] (.inr rfl) (.tmp rfl (.nil)) (by first | rfl | exact absurd g1 (by decide +kernel) | exact absurd g2 (by decide +kernel) | exact absurd g3 (by decide +kernel) | exact absurd g4 (by decide +kernel) | exact absurd g5 (by decide +kernel) | exact absurd g6 (by decide +kernel) | exact absurd g7 (by decide +kernel) | exact absurd g8 (by decide +kernel) | decide +kernel) (.nil) rfl
theorem body23 : (Try.prog.funcs[23]?).map (fun fn => (fn.name == "runtime.NumGoroutine" || fn.body.isNone)) = some false := by kernel_rfl
theorem law23 (f : GFn) (y : Int) (hf : FnOk f) (hy : 0 ≤ y ∧ y < 256) : Spec Try.prog 23 [.agg [.v (.int .i64 f.regs), .r 1], .v (.int .u8 y)] 2 [(1, .fz 5 (f.blocks.map eBlock))] (.v (.bool true)) 2 [] := by
 refine spec_of D (fn := Try.f23) rfl rfl (Nat.le_of_ble_eq_true rfl) ?_
 refine W_seq ?_
 refine W_seqK (b' := 34) rfl rfl ?_
 refine q1 2 2 1 rfl rfl (T_box rfl rfl flat_agg) rfl ?_
 refine q0 4 18 2 rfl rfl (T_assign rfl rfl) rfl ?_
 refine k_done rfl ?_
 refine thenK_n ?_
 refine W_seq ?_
 refine W_seq ?_
 refine W_seqK (b' := 82) rfl rfl ?_
 refine q0 7 34 1 rfl rfl (T_load_bA D (l := [_, _]) rfl rfl rfl rfl rfl rfl rfl) rfl ?_
 refine q0 8 50 2 rfl rfl (T_callV (lvs := [_]) (L := [(1, 1)]) (small28_spec f hf) body41 rfl rfl rfl rfl (.fz rfl (.nil)) rfl) rfl ?_
 refine q0 9 66 3 rfl rfl (T_not rfl rfl) rfl ?_
 refine k_done rfl ?_
 refine thenK_n ?_
 refine W_cond rfl (fun g1 => ?_) (fun g1 => ?_)
 ·have h1 := g1; (try simp only [cmpB, decide_eq_true_eq, decide_eq_false_iff_not, beq_iff_eq, beq_eq_false_iff_ne, bne_iff_ne, ne_eq, bne_eq_false_iff_eq, Bool.not_eq_true', Bool.not_eq_false', Int.not_lt, Int.not_le] at h1)
  refine W_seq ?_
  refine W_seqK (b' := 114) rfl rfl ?_
  refine q0 10 82 1 rfl rfl (T_callV (lvs := []) (L := []) (awake28_spec) body40 rfl rfl rfl rfl (.nil) rfl) rfl ?_
  refine q0 4 98 2 rfl rfl (T_assign rfl rfl) rfl ?_
  refine k_done rfl ?_
  refine thenK_n ?_
  refine W_ret ?_
  refine thenK_r ?_
  exact .mk [] (.inr rfl) (.tmp rfl (.nil)) (by first | rfl | (simp only [q2, resLV, LV.ren]; done) | (simp [q2, resLV, LV.ren]; done) | exact absurd (q1.symm.trans (by assumption)) (by decide) | (exfalso; simp_all; done)) (.nil) rfl
 ·have h1 := g1; (try simp only [cmpB, decide_eq_true_eq, decide_eq_false_iff_not, beq_iff_eq, beq_eq_false_iff_ne, bne_iff_ne, ne_eq, bne_eq_false_iff_eq, Bool.not_eq_true', Bool.not_eq_false', Int.not_lt, Int.not_le] at h1)
  refine W_skip ?_
  refine thenK_n ?_
  refine W_seq ?_
  have hS := s28 (by assumption : small28 f = true)
  have hSr := hS.regs
  have hSl := hS.len
  refine W_seqK (b' := 98) rfl rfl ?_
  refine qn 5 82 1 rfl rfl (T_nilbox [(3, 1)] (T_alloc D rfl rfl rfl) rfl (.cons (.nil rfl) <| .nil) (upd' := [(82, .box 60 [.r 83]), (83, .row 3 1 (List.map eI ([] : List (Int))))]) (nn' := 2) rfl rfl) rfl ?_
  refine k_done rfl ?_
  refine thenK_n ?_
  refine W_seq ?_
  refine W_seq ?_
  refine W_seqK (b' := 114) rfl rfl ?_
  refine q0 6 98 1 rfl rfl (T_assign rfl rfl) rfl ?_
  refine k_done rfl ?_
  refine thenK_n ?_
  refine W_block ?_
  refine W_loop (ι := Nat) 5 (fun r => ⟨[(1, .v (.int .u8 y)), (2, .p 2 0), (5, .p 3 0), (6, .v (.int .i64 (r : Int)))], [(1, .fz 5 (f.blocks.map eBlock)), (2, .box 29 [.v (.int .i64 f.regs), .r 1]), (3, .box 60 [.r 4]), (4, .row 3 1 ((eachL y r).map eI))]⟩) (fun r => r ≤ f.regs.toNat) (fun r => f.regs.toNat - r) (0) (by exact Nat.zero_le _) ?_ (fun r hR => ?_)
  ·exact ⟨[(2, 2), (3, 82), (4, 83)], .eq rfl (.same rfl rfl (.same rfl rfl (.eq rfl (.nil) (by first | rfl | simp)))) (by first | rfl | simp), .fzE rfl (.box (by first | rfl | simp) (.box (by first | rfl | simp) (.rowE rfl (.nil) (by first | rfl | simp)))) (by first | rfl | simp), rfl⟩
  have hel := eachL_len y r
  refine W_seq ?_
  refine W_seq ?_
  refine W_seqK (b' := 69) rfl rfl ?_
  refine q0 11 5 1 rfl rfl (T_move rfl rfl) rfl ?_
  refine q0 12 21 2 rfl rfl (T_fa D (m := 0) rfl rfl rfl rfl rfl rfl) rfl ?_
  refine q0 13 37 3 rfl rfl (T_load_b D rfl rfl rfl rfl rfl rfl) rfl ?_
  refine q0 14 53 4 rfl rfl (T_cmp rfl rfl rfl rfl) rfl ?_
  refine k_done rfl ?_
  refine thenK_n ?_
  refine W_cond rfl (fun g2 => ?_) (fun g2 => ?_)
  ·have h2 := c_lss_t g2
   refine W_skip ?_
   refine thenK_n ?_
   refine W_seq ?_
   refine W_block ?_
   refine W_seqK (b' := 245) rfl rfl ?_
   refine q0 17 69 1 rfl rfl (T_fa D (m := 0) rfl rfl rfl rfl rfl rfl) rfl ?_
   refine q0 18 85 2 rfl rfl (T_load_b D rfl rfl rfl rfl rfl rfl) rfl ?_
   refine q0 19 101 3 rfl rfl (T_move rfl rfl) rfl ?_
   refine q0 20 117 4 rfl rfl (T_sub64 rfl rfl rfl (by first | assumption | omega | (simp; omega))) rfl ?_
   refine q0 21 133 5 rfl rfl (T_move rfl rfl) rfl ?_
   refine q0 22 149 6 rfl rfl (T_conv64 rfl rfl (by rw [Try.underlying5]; rfl) (by first | assumption | omega | (simp; omega))) rfl ?_
   refine q0 23 165 7 rfl rfl (T_sub64 rfl rfl rfl (by first | assumption | omega | (simp; omega))) rfl ?_
   refine q1 24 181 8 rfl rfl (T_bs D (ys := [_]) (enc := eI) (l := [_]) rfl rfl rfl rfl rfl rfl (.cons rfl (flat_v rfl) (.nil)) rfl rfl rfl rfl (.v rfl (.nil)) rfl rfl) rfl ?_
   refine qn 25 197 9 rfl rfl (T_append D rfl rfl rfl rfl rfl rfl rfl rfl rfl rfl rfl rfl (by (try simp only [ty3]); first | assumption | omega | (simp; omega)) (by (try simp only [ty3]); first | assumption | omega | (simp; omega))) rfl ?_
   refine q0 26 213 10 rfl rfl (T_fa D (m := 0) rfl rfl rfl rfl rfl rfl) rfl ?_
   refine s1 229 11 rfl rfl (T_stB D (cs' := [_]) rfl rfl rfl rfl (flat_sl rfl) rfl rfl (Nat.le_of_ble_eq_true rfl) rfl) rfl ?_
   refine k_done rfl ?_
   refine blockK_n ?_
   refine thenK_n ?_
   refine W_seqK (b' := 293) rfl rfl ?_
   refine q0 15 245 1 rfl rfl (T_move rfl rfl) rfl ?_
   refine q0 16 261 2 rfl rfl (T_add64 rfl rfl rfl (by first | assumption | omega | (simp; omega))) rfl ?_
   refine q0 6 277 3 rfl rfl (T_assign rfl rfl) rfl ?_
   refine k_done rfl ?_
   refine thenK_n ?_
   refine ⟨r + 1, by (try dsimp only); omega, by (try dsimp only); omega, ?_⟩
   exact ⟨[(2, 2), (3, 3), (4, 197)], .eq rfl (.same rfl rfl (.same rfl rfl (.eq rfl (.nil) (by first | rfl | (rw [eachL_succ]; first | done | rfl | (simp; done)))))) rfl, .fzE rfl (.box (by first | rfl | (rw [eachL_succ]; first | done | rfl | (simp; done))) (.box (by first | rfl | (rw [eachL_succ]; first | done | rfl | (simp; done))) (.rowE rfl (.nil) (by first | rfl | (rw [eachL_succ]; first | done | rfl | (simp; done)))))) rfl, rfl⟩
  ·have h2 := c_lss_f g2
   refine W_exit ?_
   refine thenK_e ?_
   refine thenK_e ?_
   refine blockK_hit ?_
   refine thenK_n ?_
   refine W_seq ?_
   have er : r = f.regs.toNat := by omega
   subst er
   have q1 := each_ok (k := 0) hS (ev_closed hS.lf) hy
   have q2 := each_ok (k := 8) hS (live_closed hS.lf) hy
   refine W_anyK (b' := 325) rfl rfl rfl ?_
   refine q0 27 69 1 rfl rfl (T_callV (lvs := []) (L := []) (awake28_spec) body40 rfl rfl rfl rfl (.nil) rfl) rfl ?_
   refine q0 28 85 2 rfl rfl (T_move rfl rfl) rfl ?_
   refine k_op0 (d := 29) (b := 101) (j' := 3) rfl rfl rfl rfl (g_tt rfl rfl rfl rfl) (T_load_bA D (l := [_, _]) rfl rfl rfl rfl rfl rfl rfl) rfl ?_
   refine k_op0 (d := 30) (b := 117) (j' := 4) rfl rfl rfl rfl (g_tt rfl rfl rfl rfl) (T_load_bA D (l := [_, _]) rfl rfl rfl rfl rfl rfl rfl) rfl ?_
   refine k_opn (d := 31) (b := 133) (j' := 5) rfl rfl rfl rfl (g_tt rfl rfl rfl rfl) (T_call (lvs := [_]) (L := [(1, 1)]) (lv := .agg [.r 133, .r 134]) (upd := [(133, .row 48 1 _), (134, .row 48 1 _)]) (nn := 2) false (every_spec f hS.lf) body63 rfl rfl rfl rfl (.fz rfl (.nil)) rfl (.inl rfl) rfl rfl rfl) rfl ?_
   refine k_op0 (d := 32) (b := 149) (j' := 6) rfl rfl rfl rfl (g_tt rfl rfl rfl rfl) (T_load_bA D (l := [_]) rfl rfl rfl rfl rfl rfl rfl) rfl ?_
   refine k_op0 (d := 33) (b := 165) (j' := 7) rfl rfl rfl rfl (g_tt rfl rfl rfl rfl) (T_callV (lvs := [_, _, _, _]) (L := [(1, 1), (2, 133), (3, 134), (4, 4)]) (acheck_spec f (evL f) (evL f) (eachL y f.regs.toNat) 0 hS.lf (by have := (evL_sz f).len; omega) (by have := (evL_sz f).len; omega) hS.pos (by rw [eachL_len]; omega)) body44 rfl rfl rfl rfl (.fz rfl (.lend rfl (.lend rfl (.lend rfl (.nil))))) rfl) rfl ?_
   refine q0 34 181 8 rfl rfl (T_pick_t rfl rfl rfl rfl) rfl ?_
   refine q0 35 197 9 rfl rfl (T_move rfl rfl) rfl ?_
   refine k_split (d := 35) rfl (fun g3 => ?_) (fun g3 => ?_)
   ·have h3 := g3; (try simp only [cmpB, decide_eq_true_eq, decide_eq_false_iff_not, beq_iff_eq, beq_eq_false_iff_ne, bne_iff_ne, ne_eq, bne_eq_false_iff_eq, Bool.not_eq_true', Bool.not_eq_false', Int.not_lt, Int.not_le] at h3)
    refine k_op0 (d := 36) (b := 213) (j' := 10) rfl rfl rfl rfl (g_tt rfl rfl rfl g3) (T_load_bA D (l := [_, _]) rfl rfl rfl rfl rfl rfl rfl) rfl ?_
    refine k_op0 (d := 37) (b := 229) (j' := 11) rfl rfl rfl rfl (g_tt rfl rfl rfl g3) (T_load_bA D (l := [_, _]) rfl rfl rfl rfl rfl rfl rfl) rfl ?_
    refine k_opn (d := 38) (b := 245) (j' := 12) rfl rfl rfl rfl (g_tt rfl rfl rfl g3) (T_call (lvs := [_]) (L := [(1, 1)]) (lv := .agg [.r 245, .r 246]) (upd := [(245, .fz 1 _), (246, .fz 1 _)]) (nn := 2) false (rlive_spec f hS.lf) body42 rfl rfl rfl rfl (.fz rfl (.nil)) rfl (.inl rfl) rfl rfl rfl) rfl ?_
    refine k_op0 (d := 39) (b := 261) (j' := 13) rfl rfl rfl rfl (g_tt rfl rfl rfl g3) (T_load_bA D (l := [_]) rfl rfl rfl rfl rfl rfl rfl) rfl ?_
    refine k_op0 (d := 40) (b := 277) (j' := 14) rfl rfl rfl rfl (g_tt rfl rfl rfl g3) (T_callV (lvs := [_, _, _, _]) (L := [(1, 1), (2, 245), (3, 246), (4, 4)]) (acheck_spec f (liveL f).1 (liveL f).2 (eachL y f.regs.toNat) 8 hS.lf (by have := (live_sz f).i.len; omega) (by have := (live_sz f).o.len; omega) hS.pos (by rw [eachL_len]; omega)) body44 rfl rfl rfl rfl (.fz rfl (.fz rfl (.fz rfl (.lend rfl (.nil))))) rfl) rfl ?_
    refine q0 41 293 15 rfl rfl (T_pick_t rfl rfl rfl g3) rfl ?_
    refine q0 4 309 16 rfl rfl (T_assign rfl rfl) rfl ?_
    refine k_done rfl ?_
    refine ⟨rfl, ?_⟩
    refine thenK_n ?_
    refine W_ret ?_
    exact .mk [] (.inr rfl) (.tmp rfl (.nil)) (by first | rfl | (simp only [q2, resLV, LV.ren]; done) | (simp [q2, resLV, LV.ren]; done) | exact absurd (q1.symm.trans (by assumption)) (by decide) | (exfalso; simp_all; done)) (.nil) rfl
   ·have h3 := g3; (try simp only [cmpB, decide_eq_true_eq, decide_eq_false_iff_not, beq_iff_eq, beq_eq_false_iff_ne, bne_iff_ne, ne_eq, bne_eq_false_iff_eq, Bool.not_eq_true', Bool.not_eq_false', Int.not_lt, Int.not_le] at h3)
    refine k_no (d := 36) (j' := 10) rfl rfl rfl (g_tf rfl rfl rfl g3) ?_
    refine k_no (d := 37) (j' := 11) rfl rfl rfl (g_tf rfl rfl rfl g3) ?_
    refine k_no (d := 38) (j' := 12) rfl rfl rfl (g_tf rfl rfl rfl g3) ?_
    refine k_no (d := 39) (j' := 13) rfl rfl rfl (g_tf rfl rfl rfl g3) ?_
    refine k_no (d := 40) (j' := 14) rfl rfl rfl (g_tf rfl rfl rfl g3) ?_
    refine q0 41 293 15 rfl rfl (T_pick_f rfl rfl rfl g3) rfl ?_
    refine q0 4 309 16 rfl rfl (T_assign rfl rfl) rfl ?_
    refine k_done rfl ?_
    refine ⟨rfl, ?_⟩
    refine thenK_n ?_
    refine W_ret ?_
    exact .mk [] (.inr rfl) (.tmp rfl (.nil)) (by first | rfl | (simp only [q2, resLV, LV.ren]; done) | (simp [q2, resLV, LV.ren]; done) | exact absurd (q1.symm.trans (by assumption)) (by decide) | (exfalso; simp_all; done)) (.nil) rfl
end Lg
end Go.Proofs.Ytpfhmodjjljpjaa
