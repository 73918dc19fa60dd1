import Derived.Test.YtpfhmodjjljpjaaTidyTrue5
set_option linter.unusedVariables false
set_option linter.unusedSimpArgs false
namespace Go.Proofs.Ytpfhmodjjljpjaa
open Go.RowKit
namespace Lg
set_option maxRecDepth 100000
set_option linter.unusedVariables false
set_option linter.unusedSimpArgs false
theorem body36 : (Try.prog.funcs[36]?).map (fun fn => (fn.name == "runtime.NumGoroutine" || fn.body.isNone)) = some false := by kernel_rfl
theorem runs_spec (p : GProg) (inp : ByteArray) (fuel : Int) (hp : RunOk p) (hz : (inp.size : Int) ≤ 1000000) (hf0 : 0 ≤ fuel) (hfu : fuel ≤ 1000000) (hbn : ∀ f ∈ p.funcs, f.blocks.length ≤ 1000000 ∧ ∀ b ∈ f.blocks, b.ins.length ≤ 1000000) (hl : p.funcs.length ≤ 1000000) : Spec Try.prog 36 [.agg [.v (.int .i64 p.words), .r 1], .v (.string inp), .v (.int .i64 fuel)] 2 [(1, .fz 2 (p.funcs.map eFn))] (.agg [.v (.int .i64 (runE p inp fuel)), .v (.string (strOfNums (runS p inp fuel).out)), .v (.int .i64 (runS p inp fuel).steps)]) 2 [] := by
 have g3 := right_words hp.right
 have g4 := right_pos hp.right
 refine spec_of D (fn := Try.f36) rfl rfl (Nat.le_of_ble_eq_true rfl) ?_
 refine W_seq ?_
 refine W_seqK (b' := 34) rfl rfl ?_
 refine q1 3 2 1 rfl rfl (T_box rfl rfl flat_agg) rfl ?_
 refine q1 6 18 2 rfl rfl (T_alloc D rfl rfl rfl) rfl ?_
 refine k_done rfl ?_
 refine thenK_n ?_
 refine W_seq ?_
 refine W_seq ?_
 refine W_seqK (b' := 98) rfl rfl ?_
 refine q0 8 34 1 rfl rfl (T_fa D (m := 1) rfl rfl rfl rfl rfl rfl) rfl ?_
 refine q0 9 50 2 rfl rfl (T_load_b D rfl rfl rfl rfl rfl rfl) rfl ?_
 refine q0 10 66 3 rfl rfl (T_len D rfl rfl rfl rfl rfl rfl) rfl ?_
 refine q0 11 82 4 rfl rfl (T_cmp rfl rfl rfl rfl) rfl ?_
 refine k_done rfl ?_
 refine thenK_n ?_
 refine W_cond rfl (fun g1 => ?_) (fun g1 => ?_)
 ·have h1 := c_eql_t g1
  refine W_seq ?_
  exfalso; omega
 ·have h1 := c_eql_f g1
  refine W_skip ?_
  refine thenK_n ?_
  refine W_seq ?_
  refine W_seq ?_
  refine W_seqK (b' := 130) rfl rfl ?_
  refine q0 13 98 1 rfl rfl (T_move rfl rfl) rfl ?_
  refine q0 14 114 2 rfl rfl (T_cmp rfl rfl rfl rfl) rfl ?_
  refine k_done rfl ?_
  refine thenK_n ?_
  refine W_cond rfl (fun g2 => ?_) (fun g2 => ?_)
  ·have h2 := c_lss_t g2
   exfalso; omega
  ·have h2 := c_lss_f g2
   refine W_skip ?_
   refine thenK_n ?_
   refine W_seq ?_
   refine W_anyK (b' := 274) rfl rfl rfl ?_
   refine q0 15 130 1 rfl rfl (T_load_bA D (l := [_, _]) rfl rfl rfl rfl rfl rfl rfl) rfl ?_
   refine q0 16 146 2 rfl rfl (T_move rfl rfl) rfl ?_
   refine q0 17 162 3 rfl rfl (T_move rfl rfl) rfl ?_
   refine q0 18 178 4 rfl rfl (T_fa D (m := 0) rfl rfl rfl rfl rfl rfl) rfl ?_
   refine q0 19 194 5 rfl rfl (T_load_b D rfl rfl rfl rfl rfl rfl) rfl ?_
   refine q1 20 210 6 rfl rfl (T_makeZ (x := .tmp 19) (y := .tmp 19) (m := p.words.toNat) (by omega) rfl rfl (fun k1 k2 => T_make D (zx := (0 : Int)) (enc := eU32) rfl k1 k2 rfl rfl rfl rfl (.v rfl (.nil)) rfl (by (try simp only [ty68]); first | assumption | omega | (simp; omega)) (by (try simp only [ty68]); first | assumption | omega | (simp; omega)))) rfl ?_
   refine q1 21 226 7 rfl rfl (T_nils [(5, 1)] (T_build D (l := [_, _, _, _, _, _, _, _, _]) rfl rfl rfl rfl (.cons rfl flat_agg (.cons rfl (flat_v rfl) (.cons rfl (flat_v rfl) (.cons rfl (flat_sl rfl) (.nil))))) rfl rfl) rfl (.inl ⟨rfl, rfl⟩) (.cons (.same _) <| .cons (.same _) <| .cons (.same _) <| .cons (.same _) <| .cons (.same _) <| .cons (.nil rfl) <| .cons (.same _) <| .cons (.same _) <| .cons (.same _) <| .nil) (lv' := .agg [_, _, _, _, _, .r 226, _, _, _]) (upd' := [(226, .row 5 1 (List.map eU8 ([] : List (Int))))]) (nn' := 1) rfl rfl) rfl ?_
   refine q1 22 242 8 rfl rfl (T_box rfl rfl flat_agg) rfl ?_
   refine q0 7 258 9 rfl rfl (T_assign rfl rfl) rfl ?_
   refine k_done rfl ?_
   refine ⟨rfl, ?_⟩
   refine thenK_n ?_
   refine W_seq ?_
   refine W_seqK (b' := 370) rfl rfl ?_
   refine q0 23 274 1 rfl rfl (T_move rfl rfl) rfl ?_
   refine q0 24 290 2 rfl rfl (T_fa D (m := 1) rfl rfl rfl rfl rfl rfl) rfl ?_
   refine q0 25 306 3 rfl rfl (T_load_b D rfl rfl rfl rfl rfl rfl) rfl ?_
   refine q0 26 322 4 rfl rfl (T_len D rfl rfl rfl rfl rfl rfl) rfl ?_
   refine q0 27 338 5 rfl rfl (T_sub64 rfl rfl rfl (by first | assumption | omega | (simp; omega))) rfl ?_
   refine qn 28 354 6 rfl rfl (T_call (lvs := [_, _]) (L := [(1, 242), (2, 1), (3, 210), (4, 226)]) (lv := .tup []) (upd := [(242, .box 107 [.v _, .r 1, .v _, .v _, .r 210, .r 354, .v _, .v _, .v _]), (210, .row 68 1 _), (226, .no), (354, .row 5 1 _)]) (nn := 1) false (funs_all hp hz hfu hbn p.funcs.length ((p.funcs.length : Int) - 1) (by omega) (by omega) (by omega) (rs0 p) (rs0_ok hp hf0) rfl) body77 rfl rfl rfl rfl (.box rfl (.fz rfl (.row rfl (.row rfl (.nil))))) rfl (.inl rfl) rfl rfl rfl) rfl ?_
   refine k_done rfl ?_
   refine thenK_n ?_
   refine W_seq ?_
   refine W_seq ?_
   refine W_seqK (b' := 450) rfl rfl ?_
   refine q0 29 370 1 rfl rfl (T_move rfl rfl) rfl ?_
   refine q0 30 386 2 rfl rfl (T_nilCheck rfl rfl) rfl ?_
   refine q0 31 402 3 rfl rfl (T_fa D (m := 8) rfl rfl rfl rfl rfl rfl) rfl ?_
   refine q0 32 418 4 rfl rfl (T_load_b D rfl rfl rfl rfl rfl rfl) rfl ?_
   refine q0 33 434 5 rfl rfl (T_cmp rfl rfl rfl rfl) rfl ?_
   refine k_done rfl ?_
   refine thenK_n ?_
   refine W_cond rfl (fun g3 => ?_) (fun g3 => ?_)
   ·have h3 := c_eql_t g3
    refine W_seqK (b' := 514) rfl rfl ?_
    refine q0 34 450 1 rfl rfl (T_move rfl rfl) rfl ?_
    refine q0 35 466 2 rfl rfl (T_nilCheck rfl rfl) rfl ?_
    refine q0 36 482 3 rfl rfl (T_fa D (m := 8) rfl rfl rfl rfl rfl rfl) rfl ?_
    refine s1 498 4 rfl rfl (T_stB D (cs' := [_, _, _, _, _, _, _, _, _]) rfl rfl rfl rfl (flat_v rfl) rfl rfl (Nat.le_of_ble_eq_true rfl) rfl) rfl ?_
    refine k_done rfl ?_
    refine thenK_n ?_
    refine W_seq ?_
    refine W_anyK (b' := 754) rfl rfl rfl ?_
    refine q0 37 514 1 rfl rfl (T_move rfl rfl) rfl ?_
    refine q0 38 530 2 rfl rfl (T_nilCheck rfl rfl) rfl ?_
    refine q0 39 546 3 rfl rfl (T_fa D (m := 8) rfl rfl rfl rfl rfl rfl) rfl ?_
    refine q0 40 562 4 rfl rfl (T_load_b D rfl rfl rfl rfl rfl rfl) rfl ?_
    refine q0 41 578 5 rfl rfl (T_move rfl rfl) rfl ?_
    refine q0 42 594 6 rfl rfl (T_nilCheck rfl rfl) rfl ?_
    refine q0 43 610 7 rfl rfl (T_fa D (m := 5) rfl rfl rfl rfl rfl rfl) rfl ?_
    refine q0 44 626 8 rfl rfl (T_load_b D rfl rfl rfl rfl rfl rfl) rfl ?_
    refine q0 45 642 9 rfl rfl (T_convS (xs := _) Try.underlying66 Try.underlying5 Try.underlying9 rfl rfl rfl) rfl ?_
    refine q0 46 658 10 rfl rfl (T_move rfl rfl) rfl ?_
    refine q0 47 674 11 rfl rfl (T_nilCheck rfl rfl) rfl ?_
    refine q0 48 690 12 rfl rfl (T_fa D (m := 7) rfl rfl rfl rfl rfl rfl) rfl ?_
    refine q0 49 706 13 rfl rfl (T_load_b D rfl rfl rfl rfl rfl rfl) rfl ?_
    refine q0 50 722 14 rfl rfl (T_build D (l := [_, _, _]) rfl rfl rfl rfl (.cons rfl (flat_v rfl) (.cons rfl (flat_v rfl) (.cons rfl (flat_v rfl) (.nil)))) rfl rfl) rfl ?_
    refine s1 738 15 rfl rfl (T_stB D (cs' := [_, _, _]) rfl rfl rfl rfl flat_agg rfl rfl (Nat.le_of_ble_eq_true rfl) rfl) rfl ?_
    refine k_done rfl ?_
    refine ⟨rfl, ?_⟩
    refine thenK_n ?_
    refine W_ret ?_
    have hE : runE p inp fuel = 1 := by unfold runE; rw [if_pos (by assumption)]
    exact .mk [] (.inr rfl) (.cellA rfl rfl rfl rfl rfl (.nil)) (by first | rfl | (rw [hE]; first | done | rfl)) (.nil) rfl
   ·have h3 := c_eql_f g3
    refine W_skip ?_
    refine thenK_n ?_
    refine W_seq ?_
    refine W_anyK (b' := 690) rfl rfl rfl ?_
    refine q0 37 450 1 rfl rfl (T_move rfl rfl) rfl ?_
    refine q0 38 466 2 rfl rfl (T_nilCheck rfl rfl) rfl ?_
    refine q0 39 482 3 rfl rfl (T_fa D (m := 8) rfl rfl rfl rfl rfl rfl) rfl ?_
    refine q0 40 498 4 rfl rfl (T_load_b D rfl rfl rfl rfl rfl rfl) rfl ?_
    refine q0 41 514 5 rfl rfl (T_move rfl rfl) rfl ?_
    refine q0 42 530 6 rfl rfl (T_nilCheck rfl rfl) rfl ?_
    refine q0 43 546 7 rfl rfl (T_fa D (m := 5) rfl rfl rfl rfl rfl rfl) rfl ?_
    refine q0 44 562 8 rfl rfl (T_load_b D rfl rfl rfl rfl rfl rfl) rfl ?_
    refine q0 45 578 9 rfl rfl (T_convS (xs := _) Try.underlying66 Try.underlying5 Try.underlying9 rfl rfl rfl) rfl ?_
    refine q0 46 594 10 rfl rfl (T_move rfl rfl) rfl ?_
    refine q0 47 610 11 rfl rfl (T_nilCheck rfl rfl) rfl ?_
    refine q0 48 626 12 rfl rfl (T_fa D (m := 7) rfl rfl rfl rfl rfl rfl) rfl ?_
    refine q0 49 642 13 rfl rfl (T_load_b D rfl rfl rfl rfl rfl rfl) rfl ?_
    refine q0 50 658 14 rfl rfl (T_build D (l := [_, _, _]) rfl rfl rfl rfl (.cons rfl (flat_v rfl) (.cons rfl (flat_v rfl) (.cons rfl (flat_v rfl) (.nil)))) rfl rfl) rfl ?_
    refine s1 674 15 rfl rfl (T_stB D (cs' := [_, _, _]) rfl rfl rfl rfl flat_agg rfl rfl (Nat.le_of_ble_eq_true rfl) rfl) rfl ?_
    refine k_done rfl ?_
    refine ⟨rfl, ?_⟩
    refine thenK_n ?_
    refine W_ret ?_
    have hE : runE p inp fuel = (runS p inp fuel).fin := by unfold runE; rw [if_neg (by assumption)]
    exact .mk [] (.inr rfl) (.cellA rfl rfl rfl rfl rfl (.nil)) (by first | rfl | (rw [hE]; first | done | rfl)) (.nil) rfl
end Lg
end Go.Proofs.Ytpfhmodjjljpjaa

namespace Go.Proofs.Ytpfhmodjjljpjaa
open Go.RowKit
namespace Lg
set_option maxRecDepth 100000
set_option linter.unusedVariables false
set_option linter.unusedSimpArgs false
theorem body34 : (Try.prog.funcs[34]?).map (fun fn => (fn.name == "runtime.NumGoroutine" || fn.body.isNone)) = some false := by kernel_rfl
theorem put_spec (p : GProg) (f : GFn) (h : 0 < p.funcs.length) (hl : p.funcs.length ≤ 1000000) : Spec Try.prog 34 [.agg [.v (.int .i64 p.words), .r 1], .agg [.v (.int .i64 f.regs), .r 2]] 3 [(1, .fz 2 (p.funcs.map eFn)), (2, .fz 5 (f.blocks.map eBlock))] (.agg [.v (.int .i64 p.words), .r 3]) 4 [(3, .row 29 2 ((p.funcs.set (p.funcs.length - 1) f).map eFn))] := by
 have e : ((p.funcs.length : Int) - 1).toNat = p.funcs.length - 1 := by omega
 refine spec_of D (fn := Try.f34) rfl rfl (Nat.le_of_ble_eq_true rfl) ?_
 refine W_seq ?_
 refine W_seqK (b' := 51) rfl rfl ?_
 refine q1 2 3 1 rfl rfl (T_box rfl rfl flat_agg) rfl ?_
 refine q1 3 19 2 rfl rfl (T_box rfl rfl flat_agg) rfl ?_
 refine qn 4 35 3 rfl rfl (T_nilbox [(29, 2)] (T_alloc D rfl rfl rfl) rfl (.cons (.same _) <| .cons (.nil rfl) <| .nil) (upd' := [(35, .box 24 [.v (.int .i64 0), .r 36]), (36, .row 29 2 (List.map eFn ([] : List (GFn))))]) (nn' := 2) rfl rfl) rfl ?_
 refine k_done rfl ?_
 refine thenK_n ?_
 refine W_seq ?_
 refine W_anyK (b' := 195) rfl rfl rfl ?_
 refine q0 6 51 1 rfl rfl (T_fa D (m := 0) rfl rfl rfl rfl rfl rfl) rfl ?_
 refine q0 7 67 2 rfl rfl (T_load_b D rfl rfl rfl rfl rfl rfl) rfl ?_
 refine q1 8 83 3 rfl rfl (T_bs D (ys := []) (enc := eFn) (l := []) rfl rfl rfl rfl rfl rfl (.nil) rfl rfl rfl rfl (.nil) rfl rfl) rfl ?_
 refine q0 9 99 4 rfl rfl (T_fa D (m := 1) rfl rfl rfl rfl rfl rfl) rfl ?_
 refine q0 10 115 5 rfl rfl (T_load_b D rfl rfl rfl rfl rfl rfl) rfl ?_
 refine qn 11 131 6 rfl rfl (T_append D rfl rfl rfl rfl rfl rfl rfl rfl rfl rfl rfl rfl (by (try simp only [ty29]); first | assumption | omega | (simp; omega)) (by (try simp only [ty29]); first | assumption | omega | (simp; omega))) rfl ?_
 refine q0 12 147 7 rfl rfl (T_build D (l := [_, _]) rfl rfl rfl rfl (.cons rfl (flat_v rfl) (.cons rfl (flat_sl rfl) (.nil))) rfl rfl) rfl ?_
 refine qn 5 163 8 rfl rfl (T_nilbox [(29, 2)] (T_alloc D rfl rfl rfl) rfl (.cons (.same _) <| .cons (.nil rfl) <| .nil) (upd' := [(163, .box 24 [.v (.int .i64 0), .r 164]), (164, .row 29 2 (List.map eFn ([] : List (GFn))))]) (nn' := 2) rfl rfl) rfl ?_
 refine s1 179 9 rfl rfl (T_stB D (cs' := [_, _]) rfl rfl rfl rfl flat_agg rfl rfl (Nat.le_of_ble_eq_true rfl) rfl) rfl ?_
 refine k_done rfl ?_
 refine ⟨rfl, ?_⟩
 refine thenK_n ?_
 refine W_seq ?_
 refine W_seqK (b' := 339) rfl rfl ?_
 refine q0 13 195 1 rfl rfl (T_fa D (m := 1) rfl rfl rfl rfl rfl rfl) rfl ?_
 refine q0 14 211 2 rfl rfl (T_load_b D rfl rfl rfl rfl rfl rfl) rfl ?_
 refine q0 15 227 3 rfl rfl (T_fa D (m := 1) rfl rfl rfl rfl rfl rfl) rfl ?_
 refine q0 16 243 4 rfl rfl (T_load_b D rfl rfl rfl rfl rfl rfl) rfl ?_
 refine q0 17 259 5 rfl rfl (T_len D rfl rfl rfl rfl rfl rfl) rfl ?_
 refine q0 18 275 6 rfl rfl (T_sub64 rfl rfl rfl (by first | assumption | omega | (simp; omega))) rfl ?_
 refine q0 19 291 7 rfl rfl (T_load_bA D (l := [_, _]) rfl rfl rfl rfl rfl rfl rfl) rfl ?_
 first | refine q0 20 307 8 rfl rfl (T_indexAddr D rfl rfl rfl rfl rfl rfl rfl rfl (by first | assumption | omega | (simp; omega))) rfl ?_ | refine q0 20 307 8 rfl rfl (T_indexAddrZ D rfl rfl rfl rfl rfl rfl rfl rfl (by first | assumption | omega | (simp; omega)) (by first | assumption | omega | (simp; omega))) rfl ?_
 refine s1 323 9 rfl rfl (T_store_e D (z := _) rfl rfl rfl rfl flat_agg rfl rfl (by first | assumption | omega | (simp; omega)) (.v rfl (.fz rfl (.nil))) rfl (Nat.le_of_ble_eq_true rfl) rfl) rfl ?_
 refine k_done rfl ?_
 refine thenK_n ?_
 refine W_seq ?_
 refine W_seqK (b' := 371) rfl rfl ?_
 refine q0 21 339 1 rfl rfl (T_load_bA D (l := [_, _]) rfl rfl rfl rfl rfl rfl rfl) rfl ?_
 refine s1 355 2 rfl rfl (T_stB D (cs' := [_, _]) rfl rfl rfl rfl flat_agg rfl rfl (Nat.le_of_ble_eq_true rfl) rfl) rfl ?_
 refine k_done rfl ?_
 refine thenK_n ?_
 refine W_ret ?_
 exact .mk [(3, 131)] (.inr rfl) (.cellA rfl rfl rfl rfl rfl (.nil)) (by first | rfl | (simp [e])) (.rowE rfl (.nil) (by first | rfl | (simp [e]))) rfl
end Lg
end Go.Proofs.Ytpfhmodjjljpjaa

namespace Go.Proofs.Ytpfhmodjjljpjaa
open Go.RowKit
namespace Lg
set_option linter.unusedSimpArgs false
set_option linter.unusedVariables false
theorem T_eqS {P : Program} {N b : Nat} {o : Oper} {st : St} {t t' : TypeId} {x y : Operand} {u v : ByteArray} (ho : o.op = .binOp .eql t x y t') (hx : st.ev x = some (.v (.string u))) (hy : st.ev y = some (.v (.string v))) : T P N o b [] st (.v (.bool (u.toList == v.toList))) 0 [] :=
  T_bin ho hx hy (fun w => by simp [eqGuard, binOp, Op.stringOp])
end Lg
end Go.Proofs.Ytpfhmodjjljpjaa

namespace Go.Proofs.Ytpfhmodjjljpjaa
open Go.RowKit
namespace Lg
structure VF (f : GFn) : Prop where
  ne : 0 < f.blocks.length
  ends : ∀ k, k < f.blocks.length → endsB (f.blocks.getD k default) f.blocks.length f.regs = true
theorem withinB_iff {i n : Int} : withinB i n = true ↔ 0 ≤ i ∧ i < n := by
  simp [withinB]
structure Ends (f : GFn) (b : GBlock) : Prop where
  e : (b.fin = 1 ∧ (0 ≤ b.to ∧ b.to < (f.blocks.length : Int)) ∧ b.v = 0 ∧ b.els = 0) ∨ (b.fin = 2 ∧ (0 ≤ b.to ∧ b.to < (f.blocks.length : Int)) ∧ (0 ≤ b.els ∧ b.els < (f.blocks.length : Int)) ∧ 0 ≤ b.v ∧ b.v < f.regs) ∨ (b.fin = 3 ∧ b.v = 0 ∧ b.to = 0 ∧ b.els = 0)
theorem ends_of {f : GFn} {b : GBlock} (h : endsB b f.blocks.length f.regs = true) : Ends f b := by
  unfold endsB at h
  split at h
  · simp only [Bool.and_eq_true, withinB_iff, beq_iff_eq] at h
    exact ⟨.inl ⟨by assumption, h.1.1, h.1.2, h.2⟩⟩
  · split at h
    · simp only [Bool.and_eq_true, withinB_iff] at h
      exact ⟨.inr (.inl ⟨by assumption, h.1.1, h.1.2, h.2⟩)⟩
    · simp only [Bool.and_eq_true, beq_iff_eq] at h
      exact ⟨.inr (.inr ⟨h.1.1.1, h.1.1.2, h.1.2, h.2⟩)⟩
theorem VF.at {f : GFn} (h : VF f) {k : Nat} (hk : k < f.blocks.length) : Ends f (f.blocks.getD k default) := ends_of (h.ends k hk)
theorem Ends.follows {f : GFn} {b : GBlock} (h : Ends f b) {x : Int} (hx : x ∈ follows b) : 0 ≤ x ∧ x < (f.blocks.length : Int) := by
  unfold Lg.follows at hx
  rcases h.e with ⟨h1, h2, _⟩ | ⟨h1, h2, h3, _⟩ | ⟨h1, _⟩
  · rw [if_pos h1] at hx; simp at hx; omega
  · rw [if_neg (by omega), if_pos h1] at hx; simp at hx; omega
  · rw [if_neg (by omega), if_neg (by omega)] at hx; cases hx
theorem VF.inN {f : GFn} (h : VF f) : InN f := fun l hl x hx => by
  obtain ⟨k, hk, rfl⟩ := mem_getD hl
  rw [nextL_length] at hk
  rw [nextL_getD] at hx
  exact (h.at hk).follows hx
def headsL (f : GFn) : List Nat := (List.range f.blocks.length).filter (isHead f)
theorem pathsL_eq (f : GFn) : pathsL f = (headsL f).map (pathAt f) := rfl
theorem heads_lt {f : GFn} {x : Nat} (h : x ∈ headsL f) : x < f.blocks.length ∧ isHead f x = true := by
  obtain ⟨h1, h2⟩ := List.mem_filter.1 h
  exact ⟨by simpa using h1, h2⟩
theorem mem_heads {f : GFn} {x : Nat} (h1 : x < f.blocks.length) (h2 : isHead f x = true) : x ∈ headsL f := List.mem_filter.2 ⟨by simpa using h1, h2⟩
theorem heads_nodup (f : GFn) : (headsL f).Nodup := List.nodup_range.sublist List.filter_sublist
theorem isHead_iff {f : GFn} {x : Nat} : isHead f x = true ↔ (reachL f).getD x default = true ∧ (byL f).getD x default < 0 := by
  simp only [isHead, Bool.and_eq_true, decide_eq_true_eq]
theorem zero_head {f : GFn} (h : VF f) : isHead f 0 = true := by
  rw [isHead_iff]
  refine ⟨(reachL_iff f 0).2 (RF.refl (by omega) (by rw [nextL_length]; have := h.ne; omega) (by omega)), ?_⟩
  rw [byL_getD f h.ne]
  unfold takenAt
  rw [if_neg (fun hc => Nat.lt_irrefl 0 hc.1)]
  omega
theorem heads_zero {f : GFn} (h : VF f) : 0 < (headsL f).length ∧ (headsL f).getD 0 default = 0 := by
  obtain ⟨m, hm⟩ : ∃ m, f.blocks.length = m + 1 := ⟨f.blocks.length - 1, by have := h.ne; omega⟩
  have e : headsL f = 0 :: ((List.range m).map Nat.succ).filter (isHead f) := by
    unfold headsL
    rw [hm, List.range_succ_eq_map, List.filter_cons_of_pos (zero_head h)]
  rw [e]
  exact ⟨by simp, rfl⟩
theorem paths_length (f : GFn) : (pathsL f).length = (headsL f).length := by rw [pathsL_eq, List.length_map]
theorem path_at {f : GFn} (h : VF f) {j : Nat} (hj : j < (headsL f).length) : ∃ p, PathOf f ((headsL f).getD j default) p ∧ (pathsL f).getD j default = ints p := by
  have hm := heads_lt (getD_mem hj)
  obtain ⟨p, hp⟩ := (path_of h.inN hm.1 hm.2).2
  exact ⟨p, hp, by rw [pathsL_eq, getD_map _ _ hj, hp.e]⟩
theorem headOf_ints (p : List Nat) : headOf (ints p) = ((p.getD 0 default : Nat) : Int) := ints_getD p 0
theorem path_head {f : GFn} (h : VF f) {j : Nat} (hj : j < (headsL f).length) : headOf ((pathsL f).getD j default) = (((headsL f).getD j default : Nat) : Int) := by
  obtain ⟨p, hp, e⟩ := path_at h hj
  rw [e, headOf_ints, hp.h]
theorem begins_head {f : GFn} (h : VF f) {j : Nat} (hj : j < (headsL f).length) : begins (pathsL f) (((headsL f).getD j default : Nat) : Int) = (j : Int) := by
  unfold begins
  refine fstIdx_hit (fun p : List Int => p.getD 0 default == (((headsL f).getD j default : Nat) : Int)) _ (by rw [paths_length]; exact hj) (beq_iff_eq.2 (path_head h hj)) (fun i hi => beq_eq_false_iff_ne.2 (fun e => ?_))
  have h1 := path_head h (show i < (headsL f).length by omega)
  have h2 : (((headsL f).getD i default : Nat) : Int) = (((headsL f).getD j default : Nat) : Int) := h1.symm.trans e
  have := nodup_getD (heads_nodup f) (i := i) (j := j) (by omega) hj (by omega)
  omega
theorem begins_of {f : GFn} (h : VF f) {x : Nat} (hx : x < f.blocks.length) (hh : isHead f x = true) : ∃ j, j < (headsL f).length ∧ (headsL f).getD j default = x ∧ begins (pathsL f) (x : Int) = (j : Int) := by
  obtain ⟨j, hj, e⟩ := mem_getD (mem_heads hx hh)
  exact ⟨j, hj, e, by rw [← e]; exact begins_head h hj⟩
theorem reach_step {f : GFn} (h : VF f) {x : Nat} (hx : x < f.blocks.length) (hr : (reachL f).getD x default = true) {y : Int} (hy : y ∈ follows (f.blocks.getD x default)) : y.toNat < f.blocks.length ∧ ((y.toNat : Nat) : Int) = y ∧ (reachL f).getD y.toNat default = true := by
  have h1 := (h.at hx).follows hy
  refine ⟨by omega, by omega, (reachL_iff f _).2 ?_⟩
  exact RF.step ((reachL_iff f x).1 hr) (by rw [nextL_getD]; exact hy) h1.1 (by rw [nextL_length]; exact h1.2) (by omega)
theorem step_cases {f : GFn} (h : VF f) {x : Nat} (hx : x < f.blocks.length) (hr : (reachL f).getD x default = true) {y : Int} (hy : y ∈ follows (f.blocks.getD x default)) : isHead f y.toNat = true ∨ Takes f x y.toNat := by
  obtain ⟨h1, h2, h3⟩ := reach_step h hx hr hy
  by_cases hb : (byL f).getD y.toNat default < 0
  · exact .inl (isHead_iff.2 ⟨h3, hb⟩)
  · have ht := takes_of h.inN h1 hb
    have hm : (x : Int) ∈ (fromL f).getD y.toNat default := (mem_fromL h.inN h1).2 ⟨x, hx, rfl, hr, by rw [h2, nextL_getD]; exact hy⟩
    rw [ht.one] at hm
    have e : x = ((byL f).getD y.toNat default).toNat := by have := List.mem_singleton.1 hm; omega
    exact .inr (by rw [e]; exact ht)
theorem last_head {f : GFn} (h : VF f) {i : Nat} {p : List Nat} (hp : PathOf f i p) {y : Int} (hy : y ∈ follows (f.blocks.getD (lastN p) default)) : y.toNat < f.blocks.length ∧ ((y.toNat : Nat) : Int) = y ∧ isHead f y.toNat = true := by
  have hl : lastN p ∈ p := getD_mem (by have := List.length_pos_iff.2 hp.g.ne; omega)
  obtain ⟨h1, h2, h3⟩ := reach_step h (hp.g.lt _ hl) (hp.g.rch _ hl) hy
  rcases step_cases h (hp.g.lt _ hl) (hp.g.rch _ hl) hy with h4 | h4
  · exact ⟨h1, h2, h4⟩
  · exact absurd h4 (hp.last _)
theorem blk_nat (f : GFn) (x : Nat) : blk f (x : Int) = f.blocks.getD x default := by unfold blk; simp
theorem leads_of {f : GFn} (h : VF f) {i : Nat} {p : List Nat} (hp : PathOf f i p) {y : Int} (hy : y ∈ follows (f.blocks.getD (lastN p) default)) : leads (pathsL f) (begins (pathsL f) y) y = true := by
  obtain ⟨h1, h2, h3⟩ := last_head h hp hy
  obtain ⟨j, hj, e, hb⟩ := begins_of h h1 h3
  rw [h2] at hb
  rw [leads_iff, hb]
  refine ⟨by omega, by rw [paths_length]; omega, ?_⟩
  rw [show ((j : Int)).toNat = j by omega, path_head h hj, e, h2]
theorem chn_ints {f : GFn} {p : List Nat} (hg : Grown f p) : chn f (ints p) := by
  rw [chn_iff]
  intro i hi
  rw [ints_length] at hi
  have ht := hg.link i hi
  rw [ints_getD, ints_getD]
  exact ⟨by rw [blk_nat]; exact ht.fin, by rw [blk_nat]; exact ht.to⟩
theorem tidyG_at {f : GFn} {j : Nat} (hj : j < (headsL f).length) : (tidyG f).blocks.getD j default = newBlock f (pathsL f) ((pathsL f).getD j default) := by
  unfold tidyG
  exact getD_map _ _ (by rw [paths_length]; exact hj)
theorem tidyG_length (f : GFn) : (tidyG f).blocks.length = (headsL f).length := by simp [tidyG, paths_length]
theorem lastOf_path {f : GFn} {i : Nat} {p : List Nat} (hp : PathOf f i p) : blk f (lastOf (ints p)) = f.blocks.getD (lastN p) default := by
  rw [lastOf_ints hp.g.ne, blk_nat]
theorem lastN_mem {f : GFn} {i : Nat} {p : List Nat} (hp : PathOf f i p) : lastN p ∈ p := getD_mem (by have := List.length_pos_iff.2 hp.g.ne; omega)
theorem tidy_holds {f : GFn} (h : VF f) : Holds f (tidyG f) (pathsL f) := by
  refine ⟨by rw [tidyG_length, paths_length], by rw [paths_length]; have := (heads_zero h).1; omega, rfl, fun p hp => ?_, ?_, fun j hj => ?_⟩
  · have h1 := path_in h.inN hp
    exact ⟨List.length_pos_iff.1 (by omega), h1.2.2⟩
  · rw [path_head h (heads_zero h).1, (heads_zero h).2]; rfl
  · rw [paths_length] at hj
    obtain ⟨p, hp, e⟩ := path_at h hj
    rw [tidyG_at hj, e]
    refine ⟨chn_ints hp.g, rfl, ?_⟩
    have hE := h.at (hp.g.lt _ (lastN_mem hp))
    unfold endOk newBlock
    simp only
    rw [lastOf_path hp]
    refine ⟨trivial, trivial, ?_⟩
    rcases hE.e with ⟨h1, h2, h3, h4⟩ | ⟨h1, h2, h3, h4⟩ | ⟨h1, h2, h3, h4⟩
    · rw [if_pos h1, if_neg (by omega), if_neg (by omega), h4]
      exact ⟨leads_of h hp (by unfold follows; rw [if_pos h1]; simp), rfl⟩
    · rw [if_neg (by omega), if_pos h1, if_neg (by omega), if_pos h1]
      exact ⟨leads_of h hp (by unfold follows; rw [if_neg (by omega), if_pos h1]; simp), leads_of h hp (by unfold follows; rw [if_neg (by omega), if_pos h1]; simp)⟩
    · rw [if_neg (by omega), if_neg (by omega), if_pos h1, if_neg (by omega)]
      exact ⟨h3.symm, h4.symm⟩
theorem tidy_follows {f : GFn} (h : VF f) {j : Nat} (hj : j < (headsL f).length) {p : List Nat} (hp : PathOf f ((headsL f).getD j default) p) (e : (pathsL f).getD j default = ints p) :
    follows ((tidyG f).blocks.getD j default) = (follows (f.blocks.getD (lastN p) default)).map (begins (pathsL f)) := by
  rw [tidyG_at hj, e]
  have hE := h.at (hp.g.lt _ (lastN_mem hp))
  unfold follows newBlock
  simp only
  rw [lastOf_path hp]
  rcases hE.e with ⟨h1, _⟩ | ⟨h1, _⟩ | ⟨h1, _⟩
  · rw [if_pos h1, if_pos h1, if_neg (by omega)]; rfl
  · rw [if_neg (by omega), if_pos h1, if_neg (by omega), if_pos h1, if_neg (by omega), if_pos h1]; rfl
  · rw [if_neg (by omega), if_neg (by omega), if_neg (by omega), if_neg (by omega)]; rfl
theorem begins_inj {f : GFn} (h : VF f) {x y : Nat} (hx : x < f.blocks.length) (hxh : isHead f x = true) (hy : y < f.blocks.length) (hyh : isHead f y = true) (e : begins (pathsL f) (x : Int) = begins (pathsL f) (y : Int)) : x = y := by
  obtain ⟨j, _, e1, b1⟩ := begins_of h hx hxh
  obtain ⟨j', _, e2, b2⟩ := begins_of h hy hyh
  have : j = j' := by omega
  rw [← e1, ← e2, this]
theorem on_path {f : GFn} {i : Nat} {p : List Nat} (hp : PathOf f i p) {x : Nat} (hx : x ∈ p) : x = lastN p ∨ ∃ y ∈ p, Takes f x y := by
  obtain ⟨k, hk, rfl⟩ := mem_getD hx
  by_cases hl : k + 1 < p.length
  · exact .inr ⟨_, getD_mem hl, hp.g.link k hl⟩
  · left; unfold lastN; rw [show p.length - 1 = k by omega]
theorem head_on_path {f : GFn} (h : VF f) {i : Nat} {p : List Nat} (hp : PathOf f i p) {x : Nat} (hx : x ∈ p) (hh : isHead f x = true) : x = i := by
  obtain ⟨k, hk, rfl⟩ := mem_getD hx
  cases k with
  | zero => exact hp.h
  | succ k => exact absurd (hp.g.link k hk) (byL_neg (hp.g.lt _ hx) (isHead_iff.1 hh).2 h.inN _)
theorem takes_follows {f : GFn} {x y : Nat} (h : Takes f x y) : follows (f.blocks.getD x default) = [(y : Int)] := by
  unfold follows; rw [if_pos h.fin, h.to]
theorem reached_on {f : GFn} (h : VF f) {x : Nat} (hx : RF (nextL f) (-1) 0 x) : ∃ j p, j < (headsL f).length ∧ PathOf f ((headsL f).getD j default) p ∧ (pathsL f).getD j default = ints p ∧ x ∈ p ∧ RF (nextL (tidyG f)) (-1) 0 j := by
  have hg : (nextL (tidyG f)).length = (headsL f).length := by rw [nextL_length, tidyG_length]
  induction hx with
  | refl h0 h1 h2 =>
    obtain ⟨z0, z1⟩ := heads_zero h
    obtain ⟨p, hp, e⟩ := path_at h z0
    refine ⟨0, p, z0, hp, e, ?_, RF.refl (by omega) (by rw [hg]; omega) (by omega)⟩
    have h3 := hp.h
    rw [z1] at h3
    show 0 ∈ p
    rw [← h3]
    exact getD_mem (List.length_pos_iff.2 hp.g.ne)
  | @step x y hr hy h0 h1 h2 ih =>
    obtain ⟨j, p, hj, hp, e, hxp, hrg⟩ := ih
    have hxl := hp.g.lt x hxp
    have hxr := hp.g.rch x hxp
    rw [nextL_getD] at hy
    rcases step_cases h hxl hxr hy with hh | ht
    · obtain ⟨y1, y2, y3⟩ := reach_step h hxl hxr hy
      obtain ⟨j2, hj2, e2, hb2⟩ := begins_of h y1 hh
      obtain ⟨p2, hp2, ep2⟩ := path_at h hj2
      have hlast : x = lastN p := by
        rcases on_path hp hxp with hl | ⟨z, hz, ht⟩
        · exact hl
        · exfalso
          rw [takes_follows ht] at hy
          have e3 : y.toNat = z := by simp at hy; omega
          rw [e3] at hh
          exact byL_neg ht.kn (isHead_iff.1 hh).2 h.inN _ ht
      refine ⟨j2, p2, hj2, hp2, ep2, ?_, ?_⟩
      · have h3 := hp2.h
        rw [e2] at h3
        rw [← h3]
        exact getD_mem (List.length_pos_iff.2 hp2.g.ne)
      · have h4 : (j2 : Int) ∈ (nextL (tidyG f)).getD j default := by
          rw [nextL_getD, tidy_follows h hj hp e, ← hlast, List.mem_map]
          exact ⟨y, hy, by rw [← y2]; exact hb2⟩
        have := RF.step hrg h4 (by omega) (by rw [hg]; omega) (by omega)
        simpa using this
    · refine ⟨j, p, hj, hp, e, ?_, hrg⟩
      rcases on_path hp hxp with hl | ⟨z, hz, ht'⟩
      · rw [hl] at ht; exact absurd ht (hp.last _)
      · rw [ht.uniq ht']; exact hz
theorem tidy_reached {f : GFn} (h : VF f) {k : Nat} (hk : k < (headsL f).length) : RF (nextL (tidyG f)) (-1) 0 k := by
  have hm := heads_lt (getD_mem hk)
  obtain ⟨j, p, hj, hp, e, hx, hr⟩ := reached_on h ((reachL_iff f _).1 (isHead_iff.1 hm.2).1)
  have h1 := head_on_path h hp hx hm.2
  have := nodup_getD (heads_nodup f) hk hj h1
  rw [this]; exact hr
def srcs (next : List (List Int)) (k : Nat) (m : Nat) : List Int := (List.range m).flatMap (fun j => List.replicate ((next.getD j default).count (k : Int)) (j : Int))
theorem mem_srcs {next : List (List Int)} {k m : Nat} {x : Int} : x ∈ srcs next k m ↔ ∃ j : Nat, j < m ∧ x = (j : Int) ∧ (k : Int) ∈ next.getD j default := by
  unfold srcs
  rw [List.mem_flatMap]
  constructor
  · rintro ⟨j, h1, h2⟩
    obtain ⟨h3, h4⟩ := List.mem_replicate.1 h2
    exact ⟨j, by simpa using h1, h4, List.count_pos_iff.1 (by omega)⟩
  · rintro ⟨j, h1, h2, h3⟩
    exact ⟨j, by simpa using h1, List.mem_replicate.2 ⟨by have := List.count_pos_iff.2 h3; omega, h2⟩⟩
theorem flatMap_one {g : Nat → List Int} {l : Nat} {z : List Int} : ∀ (n : Nat), l < n → g l = z → (∀ i, i < n → i ≠ l → g i = []) → (List.range n).flatMap g = z
  | 0, h, _, _ => by omega
  | n + 1, h, hl, hz => by
    rw [List.range_succ, List.flatMap_append]
    have hsing : [n].flatMap g = g n := by simp
    rw [hsing]
    by_cases e : l = n
    · have : (List.range n).flatMap g = [] := by
        rw [List.flatMap_eq_nil_iff]
        intro i hi
        exact hz i (by have := List.mem_range.1 hi; omega) (by have := List.mem_range.1 hi; omega)
      rw [this, ← e, hl]; rfl
    · rw [flatMap_one n (by omega) hl (fun i hi hne => hz i (by omega) hne), hz n (by omega) (by omega), List.append_nil]
theorem tidy_most {f : GFn} (h : VF f) {k : Nat} (hk : k < (headsL f).length) (hk0 : 0 < k) : srcs (nextL (tidyG f)) k (headsL f).length ≠ [] ∧ ∀ j : Nat, srcs (nextL (tidyG f)) k (headsL f).length = [(j : Int)] → j ≠ k → ((tidyG f).blocks.getD j default).fin = 1 → False := by
  constructor
  · intro he
    have hr := tidy_reached h hk
    cases hr with
    | @step x y hx hy h0 h1 h2 =>
      have hm : (x : Int) ∈ srcs (nextL (tidyG f)) y.toNat (headsL f).length := mem_srcs.2 ⟨x, by have := hx.lt; rw [nextL_length, tidyG_length] at this; exact this, rfl, by rw [show ((y.toNat : Nat) : Int) = y by omega]; exact hy⟩
      rw [he] at hm
      cases hm
    | refl => omega
  · intro j hs hjk hfin
    have hjm : (j : Int) ∈ srcs (nextL (tidyG f)) k (headsL f).length := by rw [hs]; simp
    obtain ⟨j', hj, ej, hkf⟩ := mem_srcs.1 hjm
    have ej' : j = j' := by omega
    subst ej'
    obtain ⟨p, hp, e⟩ := path_at h hj
    rw [nextL_getD, tidy_follows h hj hp e, List.mem_map] at hkf
    obtain ⟨y, hy, hby⟩ := hkf
    obtain ⟨y1, y2, y3⟩ := last_head h hp hy
    have hhk := heads_lt (getD_mem hk)
    have eH : y.toNat = (headsL f).getD k default := begins_inj h y1 y3 hhk.1 hhk.2 (by rw [y2, hby, begins_head h hk])
    have hll := hp.g.lt _ (lastN_mem hp)
    have hlr := hp.g.rch _ (lastN_mem hp)
    have hlfin : (f.blocks.getD (lastN p) default).fin = 1 := by
      rw [tidyG_at hj, e] at hfin
      unfold newBlock at hfin
      simp only at hfin
      rwa [lastOf_path hp] at hfin
    have hlfol : follows (f.blocks.getD (lastN p) default) = [y] := by
      have h8 := hy
      unfold follows at h8 ⊢
      rw [if_pos hlfin] at h8 ⊢
      rw [List.mem_singleton.1 h8]
    have hlne : lastN p ≠ (headsL f).getD k default := fun e2 => by
      have h5 := head_on_path h hp (lastN_mem hp) (by rw [e2]; exact hhk.2)
      have h6 := nodup_getD (heads_nodup f) hj hk (h5.symm.trans e2)
      exact hjk h6
    have hone : (fromL f).getD ((headsL f).getD k default) default = [((lastN p : Nat) : Int)] := by
      rw [fromL_getD h.inN hhk.1]
      refine flatMap_one (l := lastN p) _ hll ?_ (fun x hx hne => ?_)
      · rw [if_pos hlr, nextL_getD, hlfol, ← eH, y2]
        simp
      · split
        · rename_i hxr
          have hnm : ¬ (((headsL f).getD k default : Nat) : Int) ∈ (nextL f).getD x default := fun hm => by
            rw [nextL_getD] at hm
            obtain ⟨j2, p2, hj2, hp2, e2, hx2, _⟩ := reached_on h ((reachL_iff f x).1 hxr)
            have hlast : x = lastN p2 := by
              rcases on_path hp2 hx2 with hl | ⟨z, hz, ht⟩
              · exact hl
              · exfalso
                rw [takes_follows ht] at hm
                have e3 : (headsL f).getD k default = z := by have := List.mem_singleton.1 hm; omega
                have hh := hhk.2
                rw [e3] at hh
                exact byL_neg ht.kn (isHead_iff.1 hh).2 h.inN _ ht
            have hm2 : (j2 : Int) ∈ srcs (nextL (tidyG f)) k (headsL f).length := mem_srcs.2 ⟨j2, hj2, rfl, by
              rw [nextL_getD, tidy_follows h hj2 hp2 e2, List.mem_map, ← hlast]
              exact ⟨_, hm, begins_head h hk⟩⟩
            rw [hs] at hm2
            have e4 : j2 = j := by simp at hm2; omega
            subst e4
            have e5 : ints p2 = ints p := e2.symm.trans e
            have e6 : lastN p2 = lastN p := by
              have h7 := lastOf_ints hp2.g.ne
              rw [e5, lastOf_ints hp.g.ne] at h7
              omega
            exact hne (hlast.trans e6)
          rw [List.count_eq_zero.2 hnm]
          rfl
        · rfl
    have hby2 : (byL f).getD ((headsL f).getD k default) default = ((lastN p : Nat) : Int) := by
      rw [byL_getD f hhk.1]
      unfold takenAt
      rw [hone]
      refine if_pos ⟨?_, (isHead_iff.1 hhk.2).1, rfl, ?_, ?_⟩
      · rcases Nat.eq_zero_or_pos ((headsL f).getD k default) with h0 | h0
        · exfalso
          have := nodup_getD (heads_nodup f) hk (heads_zero h).1 (h0.trans (heads_zero h).2.symm)
          omega
        · exact h0
      · show ¬ ((lastN p : Nat) : Int) = _
        omega
      · show (blk f ((lastN p : Nat) : Int)).fin = 1
        rw [blk_nat]; exact hlfin
    have := (isHead_iff.1 hhk.2).2
    omega
end Lg
end Go.Proofs.Ytpfhmodjjljpjaa

namespace Go.Proofs.Ytpfhmodjjljpjaa
open Go.RowKit
namespace Lg
set_option maxRecDepth 100000
set_option linter.unusedVariables false
set_option linter.unusedSimpArgs false
theorem body125 : (Try.prog.funcs[125]?).map (fun fn => (fn.name == "runtime.NumGoroutine" || fn.body.isNone)) = some false := by kernel_rfl
theorem within_spec (i n : Int) : Spec Try.prog 125 [.v (.int .i64 i), .v (.int .i64 n)] 1 [] (.v (.bool (withinB i n))) 1 [] := by
 refine spec_of D (fn := Try.f125) rfl rfl (Nat.le_of_ble_eq_true rfl) ?_
 refine W_seq ?_
 refine W_seqK (b' := 17) rfl rfl ?_
 refine q0 4 1 1 rfl rfl (T_assign rfl rfl) rfl ?_
 refine k_done rfl ?_
 refine thenK_n ?_
 refine W_seq ?_
 refine W_seqK (b' := 145) rfl rfl ?_
 refine q0 5 17 1 rfl rfl (T_move rfl rfl) rfl ?_
 refine q0 6 33 2 rfl rfl (T_cmp rfl rfl rfl rfl) rfl ?_
 refine q0 7 49 3 rfl rfl (T_move rfl rfl) rfl ?_
 refine k_split (d := 7) rfl (fun g1 => ?_) (fun g1 => ?_)
 ·have h1 := c_geq_t g1
  refine k_op0 (d := 8) (b := 65) (j' := 4) rfl rfl rfl rfl (g_tt rfl rfl rfl g1) (T_move rfl rfl) rfl ?_
  refine k_op0 (d := 9) (b := 81) (j' := 5) rfl rfl rfl rfl (g_tt rfl rfl rfl g1) (T_move rfl rfl) rfl ?_
  refine k_op0 (d := 10) (b := 97) (j' := 6) rfl rfl rfl rfl (g_tt rfl rfl rfl g1) (T_cmp rfl rfl rfl rfl) rfl ?_
  refine q0 11 113 7 rfl rfl (T_pick_t rfl rfl rfl g1) rfl ?_
  refine q0 4 129 8 rfl rfl (T_assign rfl rfl) rfl ?_
  refine k_done rfl ?_
  refine thenK_n ?_
  refine W_ret ?_
  exact .mk [] (.inr rfl) (.tmp rfl (.nil)) (by first | rfl | (simp only [resLV, LV.ren, LV.v.injEq, Value.bool.injEq]; unfold withinB; rw [decide_eq_true (by omega)]; rfl) | (simp only [resLV, LV.ren, LV.v.injEq, Value.bool.injEq]; unfold withinB; rw [decide_eq_false (p := 0 ≤ i) (by omega)]; rfl)) (.nil) rfl
 ·have h1 := c_geq_f g1
  refine k_no (d := 8) (j' := 4) rfl rfl rfl (g_tf rfl rfl rfl g1) ?_
  refine k_no (d := 9) (j' := 5) rfl rfl rfl (g_tf rfl rfl rfl g1) ?_
  refine k_no (d := 10) (j' := 6) rfl rfl rfl (g_tf rfl rfl rfl g1) ?_
  refine q0 11 113 7 rfl rfl (T_pick_f rfl rfl rfl g1) rfl ?_
  refine q0 4 129 8 rfl rfl (T_assign rfl rfl) rfl ?_
  refine k_done rfl ?_
  refine thenK_n ?_
  refine W_ret ?_
  exact .mk [] (.inr rfl) (.tmp rfl (.nil)) (by first | rfl | (simp only [resLV, LV.ren, LV.v.injEq, Value.bool.injEq]; unfold withinB; rw [decide_eq_true (by omega)]; rfl) | (simp only [resLV, LV.ren, LV.v.injEq, Value.bool.injEq]; unfold withinB; rw [decide_eq_false (p := 0 ≤ i) (by omega)]; rfl)) (.nil) rfl
theorem body86 : (Try.prog.funcs[86]?).map (fun fn => (fn.name == "runtime.NumGoroutine" || fn.body.isNone)) = some false := by kernel_rfl
theorem sets_spec (t : GTac) : Spec Try.prog 86 [.agg [.v (.int .i64 t.op), .v (.int .i64 t.d), .v (.int .i64 t.a), .v (.int .i64 t.b), .v (.int .i64 t.k), .v (.int .i64 t.base), .v (.int .i64 t.size), .v (.int .u32 t.n)]] 1 [] (.v (.int .i64 (setsT t))) 1 [] := by
 refine spec_of D (fn := Try.f86) rfl rfl (Nat.le_of_ble_eq_true rfl) ?_
 refine W_seq ?_
 refine W_seqK (b' := 33) rfl rfl ?_
 refine q1 1 1 1 rfl rfl (T_box rfl rfl flat_agg) rfl ?_
 refine q0 2 17 2 rfl rfl (T_assign rfl rfl) rfl ?_
 refine k_done rfl ?_
 refine thenK_n ?_
 refine W_seq ?_
 refine W_seq ?_
 refine W_seqK (b' := 65) rfl rfl ?_
 refine q0 3 33 1 rfl rfl (T_fa D (m := 0) rfl rfl rfl rfl rfl rfl) rfl ?_
 refine q0 4 49 2 rfl rfl (T_load_b D rfl rfl rfl rfl rfl rfl) rfl ?_
 refine k_done rfl ?_
 refine thenK_n ?_
 refine W_block ?_
 refine W_seq ?_
 refine W_seq ?_
 refine W_seqK (b' := 97) rfl rfl ?_
 refine q0 6 65 1 rfl rfl (T_cmp rfl rfl rfl rfl) rfl ?_
 refine q0 5 81 2 rfl rfl (T_assign rfl rfl) rfl ?_
 refine k_done rfl ?_
 refine thenK_n ?_
 refine W_cond rfl (fun g1 => ?_) (fun g1 => ?_)
 ·have h1 := c_eql_t g1
  refine W_skip ?_
  refine thenK_n ?_
  refine W_cond rfl (fun g2 => ?_) (fun g2 => ?_)
  ·skip
   refine W_seq ?_
   refine W_seqK (b' := 145) rfl rfl ?_
   refine q0 12 97 1 rfl rfl (T_fa D (m := 1) rfl rfl rfl rfl rfl rfl) rfl ?_
   refine q0 13 113 2 rfl rfl (T_load_b D rfl rfl rfl rfl rfl rfl) rfl ?_
   refine q0 2 129 3 rfl rfl (T_assign rfl rfl) rfl ?_
   refine k_done rfl ?_
   refine thenK_n ?_
   refine W_ret ?_
   refine blockK_r ?_
   refine thenK_r ?_
   exact .mk [] (.inr rfl) (.tmp rfl (.nil)) (by first | (simp only [resLV, LV.ren, LV.v.injEq, Value.int.injEq, true_and]; unfold setsT; rw [setsOp_t (by omega)]; rfl) | (simp only [resLV, LV.ren, LV.v.injEq, Value.int.injEq, true_and]; unfold setsT; rw [setsOp_f (by omega)]; rfl)) (.nil) rfl
  ·exact absurd (g2.symm.trans g1) (by decide)
 ·have h1 := c_eql_f g1
  refine W_seq ?_
  refine W_seqK (b' := 129) rfl rfl ?_
  refine q0 7 97 1 rfl rfl (T_cmp rfl rfl rfl rfl) rfl ?_
  refine q0 5 113 2 rfl rfl (T_assign rfl rfl) rfl ?_
  refine k_done rfl ?_
  refine thenK_n ?_
  refine W_cond rfl (fun g3 => ?_) (fun g3 => ?_)
  ·have h3 := c_eql_t g3
   refine W_skip ?_
   refine thenK_n ?_
   refine W_cond rfl (fun g4 => ?_) (fun g4 => ?_)
   ·skip
    refine W_seq ?_
    refine W_seqK (b' := 177) rfl rfl ?_
    refine q0 12 129 1 rfl rfl (T_fa D (m := 1) rfl rfl rfl rfl rfl rfl) rfl ?_
    refine q0 13 145 2 rfl rfl (T_load_b D rfl rfl rfl rfl rfl rfl) rfl ?_
    refine q0 2 161 3 rfl rfl (T_assign rfl rfl) rfl ?_
    refine k_done rfl ?_
    refine thenK_n ?_
    refine W_ret ?_
    refine blockK_r ?_
    refine thenK_r ?_
    exact .mk [] (.inr rfl) (.tmp rfl (.nil)) (by first | (simp only [resLV, LV.ren, LV.v.injEq, Value.int.injEq, true_and]; unfold setsT; rw [setsOp_t (by omega)]; rfl) | (simp only [resLV, LV.ren, LV.v.injEq, Value.int.injEq, true_and]; unfold setsT; rw [setsOp_f (by omega)]; rfl)) (.nil) rfl
   ·exact absurd (g4.symm.trans g3) (by decide)
  ·have h3 := c_eql_f g3
   refine W_seq ?_
   refine W_seqK (b' := 161) rfl rfl ?_
   refine q0 8 129 1 rfl rfl (T_cmp rfl rfl rfl rfl) rfl ?_
   refine q0 5 145 2 rfl rfl (T_assign rfl rfl) rfl ?_
   refine k_done rfl ?_
   refine thenK_n ?_
   refine W_cond rfl (fun g5 => ?_) (fun g5 => ?_)
   ·have h5 := c_eql_t g5
    refine W_skip ?_
    refine thenK_n ?_
    refine W_cond rfl (fun g6 => ?_) (fun g6 => ?_)
    ·skip
     refine W_seq ?_
     refine W_seqK (b' := 209) rfl rfl ?_
     refine q0 12 161 1 rfl rfl (T_fa D (m := 1) rfl rfl rfl rfl rfl rfl) rfl ?_
     refine q0 13 177 2 rfl rfl (T_load_b D rfl rfl rfl rfl rfl rfl) rfl ?_
     refine q0 2 193 3 rfl rfl (T_assign rfl rfl) rfl ?_
     refine k_done rfl ?_
     refine thenK_n ?_
     refine W_ret ?_
     refine blockK_r ?_
     refine thenK_r ?_
     exact .mk [] (.inr rfl) (.tmp rfl (.nil)) (by first | (simp only [resLV, LV.ren, LV.v.injEq, Value.int.injEq, true_and]; unfold setsT; rw [setsOp_t (by omega)]; rfl) | (simp only [resLV, LV.ren, LV.v.injEq, Value.int.injEq, true_and]; unfold setsT; rw [setsOp_f (by omega)]; rfl)) (.nil) rfl
    ·exact absurd (g6.symm.trans g5) (by decide)
   ·have h5 := c_eql_f g5
    refine W_seq ?_
    refine W_seqK (b' := 193) rfl rfl ?_
    refine q0 9 161 1 rfl rfl (T_cmp rfl rfl rfl rfl) rfl ?_
    refine q0 5 177 2 rfl rfl (T_assign rfl rfl) rfl ?_
    refine k_done rfl ?_
    refine thenK_n ?_
    refine W_cond rfl (fun g7 => ?_) (fun g7 => ?_)
    ·have h7 := c_eql_t g7
     refine W_skip ?_
     refine thenK_n ?_
     refine W_cond rfl (fun g8 => ?_) (fun g8 => ?_)
     ·skip
      refine W_seq ?_
      refine W_seqK (b' := 241) rfl rfl ?_
      refine q0 12 193 1 rfl rfl (T_fa D (m := 1) rfl rfl rfl rfl rfl rfl) rfl ?_
      refine q0 13 209 2 rfl rfl (T_load_b D rfl rfl rfl rfl rfl rfl) rfl ?_
      refine q0 2 225 3 rfl rfl (T_assign rfl rfl) rfl ?_
      refine k_done rfl ?_
      refine thenK_n ?_
      refine W_ret ?_
      refine blockK_r ?_
      refine thenK_r ?_
      exact .mk [] (.inr rfl) (.tmp rfl (.nil)) (by first | (simp only [resLV, LV.ren, LV.v.injEq, Value.int.injEq, true_and]; unfold setsT; rw [setsOp_t (by omega)]; rfl) | (simp only [resLV, LV.ren, LV.v.injEq, Value.int.injEq, true_and]; unfold setsT; rw [setsOp_f (by omega)]; rfl)) (.nil) rfl
     ·exact absurd (g8.symm.trans g7) (by decide)
    ·have h7 := c_eql_f g7
     refine W_seq ?_
     refine W_seqK (b' := 225) rfl rfl ?_
     refine q0 10 193 1 rfl rfl (T_cmp rfl rfl rfl rfl) rfl ?_
     refine q0 5 209 2 rfl rfl (T_assign rfl rfl) rfl ?_
     refine k_done rfl ?_
     refine thenK_n ?_
     refine W_cond rfl (fun g9 => ?_) (fun g9 => ?_)
     ·have h9 := c_eql_t g9
      refine W_skip ?_
      refine thenK_n ?_
      refine W_cond rfl (fun g10 => ?_) (fun g10 => ?_)
      ·skip
       refine W_seq ?_
       refine W_seqK (b' := 273) rfl rfl ?_
       refine q0 12 225 1 rfl rfl (T_fa D (m := 1) rfl rfl rfl rfl rfl rfl) rfl ?_
       refine q0 13 241 2 rfl rfl (T_load_b D rfl rfl rfl rfl rfl rfl) rfl ?_
       refine q0 2 257 3 rfl rfl (T_assign rfl rfl) rfl ?_
       refine k_done rfl ?_
       refine thenK_n ?_
       refine W_ret ?_
       refine blockK_r ?_
       refine thenK_r ?_
       exact .mk [] (.inr rfl) (.tmp rfl (.nil)) (by first | (simp only [resLV, LV.ren, LV.v.injEq, Value.int.injEq, true_and]; unfold setsT; rw [setsOp_t (by omega)]; rfl) | (simp only [resLV, LV.ren, LV.v.injEq, Value.int.injEq, true_and]; unfold setsT; rw [setsOp_f (by omega)]; rfl)) (.nil) rfl
      ·exact absurd (g10.symm.trans g9) (by decide)
     ·have h9 := c_eql_f g9
      refine W_seqK (b' := 257) rfl rfl ?_
      refine q0 11 225 1 rfl rfl (T_cmp rfl rfl rfl rfl) rfl ?_
      refine q0 5 241 2 rfl rfl (T_assign rfl rfl) rfl ?_
      refine k_done rfl ?_
      refine thenK_n ?_
      refine W_cond rfl (fun g11 => ?_) (fun g11 => ?_)
      ·have h11 := c_eql_t g11
       refine W_seq ?_
       refine W_seqK (b' := 305) rfl rfl ?_
       refine q0 12 257 1 rfl rfl (T_fa D (m := 1) rfl rfl rfl rfl rfl rfl) rfl ?_
       refine q0 13 273 2 rfl rfl (T_load_b D rfl rfl rfl rfl rfl rfl) rfl ?_
       refine q0 2 289 3 rfl rfl (T_assign rfl rfl) rfl ?_
       refine k_done rfl ?_
       refine thenK_n ?_
       refine W_ret ?_
       refine blockK_r ?_
       refine thenK_r ?_
       exact .mk [] (.inr rfl) (.tmp rfl (.nil)) (by first | (simp only [resLV, LV.ren, LV.v.injEq, Value.int.injEq, true_and]; unfold setsT; rw [setsOp_t (by omega)]; rfl) | (simp only [resLV, LV.ren, LV.v.injEq, Value.int.injEq, true_and]; unfold setsT; rw [setsOp_f (by omega)]; rfl)) (.nil) rfl
      ·have h11 := c_eql_f g11
       refine W_skip ?_
       refine blockK_n ?_
       refine thenK_n ?_
       refine W_seq ?_
       refine W_seqK (b' := 273) rfl rfl ?_
       refine q0 2 257 1 rfl rfl (T_assign rfl rfl) rfl ?_
       refine k_done rfl ?_
       refine thenK_n ?_
       refine W_ret ?_
       exact .mk [] (.inr rfl) (.tmp rfl (.nil)) (by first | (simp only [resLV, LV.ren, LV.v.injEq, Value.int.injEq, true_and]; unfold setsT; rw [setsOp_t (by omega)]; rfl) | (simp only [resLV, LV.ren, LV.v.injEq, Value.int.injEq, true_and]; unfold setsT; rw [setsOp_f (by omega)]; rfl)) (.nil) rfl
theorem body60 : (Try.prog.funcs[60]?).map (fun fn => (fn.name == "runtime.NumGoroutine" || fn.body.isNone)) = some false := by kernel_rfl
theorem uses_spec (t : GTac) : Spec Try.prog 60 [.agg [.v (.int .i64 t.op), .v (.int .i64 t.d), .v (.int .i64 t.a), .v (.int .i64 t.b), .v (.int .i64 t.k), .v (.int .i64 t.base), .v (.int .i64 t.size), .v (.int .u32 t.n)]] 1 [] (.r 1) 2 [(1, .row 3 1 ((usesT t).map eI))] := by
 refine spec_of D (fn := Try.f60) rfl rfl (Nat.le_of_ble_eq_true rfl) ?_
 refine W_seq ?_
 refine W_seqK (b' := 33) rfl rfl ?_
 refine q1 1 1 1 rfl rfl (T_box rfl rfl flat_agg) rfl ?_
 refine q1 2 17 2 rfl rfl (T_nils [(3, 1)] (T_assign rfl rfl) rfl (.inr ⟨rfl, rfl⟩) (.cons (.nil rfl) .nil) (lv' := .r 17) (upd' := [(17, .row 3 1 (List.map eI ([] : List (Int))))]) (nn' := 1) rfl rfl) rfl ?_
 refine k_done rfl ?_
 refine thenK_n ?_
 refine W_seq ?_
 refine W_seq ?_
 refine W_seqK (b' := 65) rfl rfl ?_
 refine q0 3 33 1 rfl rfl (T_fa D (m := 0) rfl rfl rfl rfl rfl rfl) rfl ?_
 refine q0 4 49 2 rfl rfl (T_load_b D rfl rfl rfl rfl rfl rfl) rfl ?_
 refine k_done rfl ?_
 refine thenK_n ?_
 refine W_block ?_
 refine W_seq ?_
 refine W_seq ?_
 refine W_seqK (b' := 97) rfl rfl ?_
 refine q0 6 65 1 rfl rfl (T_cmp rfl rfl rfl rfl) rfl ?_
 refine q0 5 81 2 rfl rfl (T_assign rfl rfl) rfl ?_
 refine k_done rfl ?_
 refine thenK_n ?_
 refine W_cond rfl (fun g1 => ?_) (fun g1 => ?_)
 ·have h1 := c_eql_t g1
  refine W_skip ?_
  refine thenK_n ?_
  refine W_cond rfl (fun g2 => ?_) (fun g2 => ?_)
  ·skip
   refine W_seq ?_
   refine W_seqK (b' := 161) rfl rfl ?_
   refine q0 10 97 1 rfl rfl (T_fa D (m := 2) rfl rfl rfl rfl rfl rfl) rfl ?_
   refine q0 11 113 2 rfl rfl (T_load_b D rfl rfl rfl rfl rfl rfl) rfl ?_
   refine q1 12 129 3 rfl rfl (T_bs D (ys := [_]) (enc := eI) (l := [_]) rfl rfl rfl rfl rfl rfl (.cons rfl (flat_v rfl) (.nil)) rfl rfl rfl rfl (.v rfl (.nil)) rfl rfl) rfl ?_
   refine q0 2 145 4 rfl rfl (T_assign rfl rfl) rfl ?_
   refine k_done rfl ?_
   refine thenK_n ?_
   refine W_ret ?_
   refine blockK_r ?_
   refine thenK_r ?_
   exact .mk [(1, 129)] (.inr rfl) (.tmp rfl (.nil)) rfl (.rowE rfl (.nil) (by first | (unfold usesT; rw [if_pos (by omega)]; done) | (unfold usesT; rw [if_pos (by omega)]; rfl) | (unfold usesT; rw [if_neg (by omega), if_pos (by omega)]; done) | (unfold usesT; rw [if_neg (by omega), if_neg (by omega)]; done))) rfl
  ·exact absurd (g2.symm.trans g1) (by decide)
 ·have h1 := c_eql_f g1
  refine W_seq ?_
  refine W_seqK (b' := 129) rfl rfl ?_
  refine q0 7 97 1 rfl rfl (T_cmp rfl rfl rfl rfl) rfl ?_
  refine q0 5 113 2 rfl rfl (T_assign rfl rfl) rfl ?_
  refine k_done rfl ?_
  refine thenK_n ?_
  refine W_cond rfl (fun g3 => ?_) (fun g3 => ?_)
  ·have h3 := c_eql_t g3
   refine W_skip ?_
   refine thenK_n ?_
   refine W_cond rfl (fun g4 => ?_) (fun g4 => ?_)
   ·skip
    refine W_seq ?_
    refine W_seqK (b' := 193) rfl rfl ?_
    refine q0 10 129 1 rfl rfl (T_fa D (m := 2) rfl rfl rfl rfl rfl rfl) rfl ?_
    refine q0 11 145 2 rfl rfl (T_load_b D rfl rfl rfl rfl rfl rfl) rfl ?_
    refine q1 12 161 3 rfl rfl (T_bs D (ys := [_]) (enc := eI) (l := [_]) rfl rfl rfl rfl rfl rfl (.cons rfl (flat_v rfl) (.nil)) rfl rfl rfl rfl (.v rfl (.nil)) rfl rfl) rfl ?_
    refine q0 2 177 4 rfl rfl (T_assign rfl rfl) rfl ?_
    refine k_done rfl ?_
    refine thenK_n ?_
    refine W_ret ?_
    refine blockK_r ?_
    refine thenK_r ?_
    exact .mk [(1, 161)] (.inr rfl) (.tmp rfl (.nil)) rfl (.rowE rfl (.nil) (by first | (unfold usesT; rw [if_pos (by omega)]; done) | (unfold usesT; rw [if_pos (by omega)]; rfl) | (unfold usesT; rw [if_neg (by omega), if_pos (by omega)]; done) | (unfold usesT; rw [if_neg (by omega), if_neg (by omega)]; done))) rfl
   ·exact absurd (g4.symm.trans g3) (by decide)
  ·have h3 := c_eql_f g3
   refine W_seq ?_
   refine W_seqK (b' := 161) rfl rfl ?_
   refine q0 8 129 1 rfl rfl (T_cmp rfl rfl rfl rfl) rfl ?_
   refine q0 5 145 2 rfl rfl (T_assign rfl rfl) rfl ?_
   refine k_done rfl ?_
   refine thenK_n ?_
   refine W_cond rfl (fun g5 => ?_) (fun g5 => ?_)
   ·have h5 := c_eql_t g5
    refine W_skip ?_
    refine thenK_n ?_
    refine W_cond rfl (fun g6 => ?_) (fun g6 => ?_)
    ·skip
     refine W_seq ?_
     refine W_seqK (b' := 225) rfl rfl ?_
     refine q0 10 161 1 rfl rfl (T_fa D (m := 2) rfl rfl rfl rfl rfl rfl) rfl ?_
     refine q0 11 177 2 rfl rfl (T_load_b D rfl rfl rfl rfl rfl rfl) rfl ?_
     refine q1 12 193 3 rfl rfl (T_bs D (ys := [_]) (enc := eI) (l := [_]) rfl rfl rfl rfl rfl rfl (.cons rfl (flat_v rfl) (.nil)) rfl rfl rfl rfl (.v rfl (.nil)) rfl rfl) rfl ?_
     refine q0 2 209 4 rfl rfl (T_assign rfl rfl) rfl ?_
     refine k_done rfl ?_
     refine thenK_n ?_
     refine W_ret ?_
     refine blockK_r ?_
     refine thenK_r ?_
     exact .mk [(1, 193)] (.inr rfl) (.tmp rfl (.nil)) rfl (.rowE rfl (.nil) (by first | (unfold usesT; rw [if_pos (by omega)]; done) | (unfold usesT; rw [if_pos (by omega)]; rfl) | (unfold usesT; rw [if_neg (by omega), if_pos (by omega)]; done) | (unfold usesT; rw [if_neg (by omega), if_neg (by omega)]; done))) rfl
    ·exact absurd (g6.symm.trans g5) (by decide)
   ·have h5 := c_eql_f g5
    refine W_seqK (b' := 193) rfl rfl ?_
    refine q0 9 161 1 rfl rfl (T_cmp rfl rfl rfl rfl) rfl ?_
    refine q0 5 177 2 rfl rfl (T_assign rfl rfl) rfl ?_
    refine k_done rfl ?_
    refine thenK_n ?_
    refine W_cond rfl (fun g7 => ?_) (fun g7 => ?_)
    ·have h7 := c_eql_t g7
     refine W_seq ?_
     refine W_seqK (b' := 257) rfl rfl ?_
     refine q0 10 193 1 rfl rfl (T_fa D (m := 2) rfl rfl rfl rfl rfl rfl) rfl ?_
     refine q0 11 209 2 rfl rfl (T_load_b D rfl rfl rfl rfl rfl rfl) rfl ?_
     refine q1 12 225 3 rfl rfl (T_bs D (ys := [_]) (enc := eI) (l := [_]) rfl rfl rfl rfl rfl rfl (.cons rfl (flat_v rfl) (.nil)) rfl rfl rfl rfl (.v rfl (.nil)) rfl rfl) rfl ?_
     refine q0 2 241 4 rfl rfl (T_assign rfl rfl) rfl ?_
     refine k_done rfl ?_
     refine thenK_n ?_
     refine W_ret ?_
     refine blockK_r ?_
     refine thenK_r ?_
     exact .mk [(1, 225)] (.inr rfl) (.tmp rfl (.nil)) rfl (.rowE rfl (.nil) (by first | (unfold usesT; rw [if_pos (by omega)]; done) | (unfold usesT; rw [if_pos (by omega)]; rfl) | (unfold usesT; rw [if_neg (by omega), if_pos (by omega)]; done) | (unfold usesT; rw [if_neg (by omega), if_neg (by omega)]; done))) rfl
    ·have h7 := c_eql_f g7
     refine W_seq ?_
     refine W_seq ?_
     refine W_seqK (b' := 225) rfl rfl ?_
     refine q0 14 193 1 rfl rfl (T_cmp rfl rfl rfl rfl) rfl ?_
     refine q0 13 209 2 rfl rfl (T_assign rfl rfl) rfl ?_
     refine k_done rfl ?_
     refine thenK_n ?_
     refine W_cond rfl (fun g8 => ?_) (fun g8 => ?_)
     ·have h8 := c_eql_t g8
      refine W_skip ?_
      refine thenK_n ?_
      refine W_cond rfl (fun g9 => ?_) (fun g9 => ?_)
      ·skip
       refine W_seq ?_
       refine W_seqK (b' := 321) rfl rfl ?_
       refine q0 16 225 1 rfl rfl (T_fa D (m := 2) rfl rfl rfl rfl rfl rfl) rfl ?_
       refine q0 17 241 2 rfl rfl (T_load_b D rfl rfl rfl rfl rfl rfl) rfl ?_
       refine q0 18 257 3 rfl rfl (T_fa D (m := 3) rfl rfl rfl rfl rfl rfl) rfl ?_
       refine q0 19 273 4 rfl rfl (T_load_b D rfl rfl rfl rfl rfl rfl) rfl ?_
       refine q1 20 289 5 rfl rfl (T_bs D (ys := [_, _]) (enc := eI) (l := [_, _]) rfl rfl rfl rfl rfl rfl (.cons rfl (flat_v rfl) (.cons rfl (flat_v rfl) (.nil))) rfl rfl rfl rfl (.v rfl (.v rfl (.nil))) rfl rfl) rfl ?_
       refine q0 2 305 6 rfl rfl (T_assign rfl rfl) rfl ?_
       refine k_done rfl ?_
       refine thenK_n ?_
       refine W_ret ?_
       refine blockK_r ?_
       refine thenK_r ?_
       exact .mk [(1, 289)] (.inr rfl) (.tmp rfl (.nil)) rfl (.rowE rfl (.nil) (by first | (unfold usesT; rw [if_pos (by omega)]; done) | (unfold usesT; rw [if_pos (by omega)]; rfl) | (unfold usesT; rw [if_neg (by omega), if_pos (by omega)]; done) | (unfold usesT; rw [if_neg (by omega), if_neg (by omega)]; done))) rfl
      ·exact absurd (g9.symm.trans g8) (by decide)
     ·have h8 := c_eql_f g8
      refine W_seqK (b' := 257) rfl rfl ?_
      refine q0 15 225 1 rfl rfl (T_cmp rfl rfl rfl rfl) rfl ?_
      refine q0 13 241 2 rfl rfl (T_assign rfl rfl) rfl ?_
      refine k_done rfl ?_
      refine thenK_n ?_
      refine W_cond rfl (fun g10 => ?_) (fun g10 => ?_)
      ·have h10 := c_eql_t g10
       refine W_seq ?_
       refine W_seqK (b' := 353) rfl rfl ?_
       refine q0 16 257 1 rfl rfl (T_fa D (m := 2) rfl rfl rfl rfl rfl rfl) rfl ?_
       refine q0 17 273 2 rfl rfl (T_load_b D rfl rfl rfl rfl rfl rfl) rfl ?_
       refine q0 18 289 3 rfl rfl (T_fa D (m := 3) rfl rfl rfl rfl rfl rfl) rfl ?_
       refine q0 19 305 4 rfl rfl (T_load_b D rfl rfl rfl rfl rfl rfl) rfl ?_
       refine q1 20 321 5 rfl rfl (T_bs D (ys := [_, _]) (enc := eI) (l := [_, _]) rfl rfl rfl rfl rfl rfl (.cons rfl (flat_v rfl) (.cons rfl (flat_v rfl) (.nil))) rfl rfl rfl rfl (.v rfl (.v rfl (.nil))) rfl rfl) rfl ?_
       refine q0 2 337 6 rfl rfl (T_assign rfl rfl) rfl ?_
       refine k_done rfl ?_
       refine thenK_n ?_
       refine W_ret ?_
       refine blockK_r ?_
       refine thenK_r ?_
       exact .mk [(1, 321)] (.inr rfl) (.tmp rfl (.nil)) rfl (.rowE rfl (.nil) (by first | (unfold usesT; rw [if_pos (by omega)]; done) | (unfold usesT; rw [if_pos (by omega)]; rfl) | (unfold usesT; rw [if_neg (by omega), if_pos (by omega)]; done) | (unfold usesT; rw [if_neg (by omega), if_neg (by omega)]; done))) rfl
      ·have h10 := c_eql_f g10
       refine W_skip ?_
       refine blockK_n ?_
       refine thenK_n ?_
       refine W_seq ?_
       refine W_seqK (b' := 273) rfl rfl ?_
       refine q1 2 257 1 rfl rfl (T_nils [(3, 1)] (T_assign rfl rfl) rfl (.inr ⟨rfl, rfl⟩) (.cons (.nil rfl) .nil) (lv' := .r 257) (upd' := [(257, .row 3 1 (List.map eI ([] : List (Int))))]) (nn' := 1) rfl rfl) rfl ?_
       refine k_done rfl ?_
       refine thenK_n ?_
       refine W_ret ?_
       exact .mk [(1, 257)] (.inr rfl) (.tmp rfl (.nil)) rfl (.rowE rfl (.nil) (by first | (unfold usesT; rw [if_pos (by omega)]; done) | (unfold usesT; rw [if_pos (by omega)]; rfl) | (unfold usesT; rw [if_neg (by omega), if_pos (by omega)]; done) | (unfold usesT; rw [if_neg (by omega), if_neg (by omega)]; done))) rfl
theorem body87 : (Try.prog.funcs[87]?).map (fun fn => (fn.name == "runtime.NumGoroutine" || fn.body.isNone)) = some false := by kernel_rfl
theorem ends_spec (b : GBlock) (n r : Int) : Spec Try.prog 87 [.agg [.r 1, .v (.int .i64 b.fin), .v (.int .i64 b.v), .v (.int .i64 b.to), .v (.int .i64 b.els)], .v (.int .i64 n), .v (.int .i64 r)] 2 [(1, .fz 8 (b.ins.map eTac))] (.v (.bool (endsB b n r))) 2 [] := by
 refine spec_of D (fn := Try.f87) rfl rfl (Nat.le_of_ble_eq_true rfl) ?_
 refine W_seq ?_
 refine W_seqK (b' := 34) rfl rfl ?_
 refine q1 3 2 1 rfl rfl (T_box rfl rfl flat_agg) rfl ?_
 refine q0 6 18 2 rfl rfl (T_assign rfl rfl) rfl ?_
 refine k_done rfl ?_
 refine thenK_n ?_
 refine W_seq ?_
 refine W_seq ?_
 refine W_seqK (b' := 66) rfl rfl ?_
 refine q0 7 34 1 rfl rfl (T_fa D (m := 1) rfl rfl rfl rfl rfl rfl) rfl ?_
 refine q0 8 50 2 rfl rfl (T_load_b D rfl rfl rfl rfl rfl rfl) rfl ?_
 refine k_done rfl ?_
 refine thenK_n ?_
 refine W_block ?_
 refine W_seq ?_
 refine W_seqK (b' := 98) rfl rfl ?_
 refine q0 10 66 1 rfl rfl (T_cmp rfl rfl rfl rfl) rfl ?_
 refine q0 9 82 2 rfl rfl (T_assign rfl rfl) rfl ?_
 refine k_done rfl ?_
 refine thenK_n ?_
 refine W_cond rfl (fun g1 => ?_) (fun g1 => ?_)
 ·have h1 := c_eql_t g1
  refine W_seq ?_
  refine W_seqK (b' := 338) rfl rfl ?_
  refine q0 11 98 1 rfl rfl (T_fa D (m := 3) rfl rfl rfl rfl rfl rfl) rfl ?_
  refine q0 12 114 2 rfl rfl (T_load_b D rfl rfl rfl rfl rfl rfl) rfl ?_
  refine q0 13 130 3 rfl rfl (T_move rfl rfl) rfl ?_
  refine q0 14 146 4 rfl rfl (T_callV (lvs := [_, _]) (L := []) (within_spec _ _) body125 rfl rfl rfl rfl (.nil) rfl) rfl ?_
  refine q0 15 162 5 rfl rfl (T_move rfl rfl) rfl ?_
  refine k_split (d := 15) rfl (fun g2 => ?_) (fun g2 => ?_)
  ·have h2 := g2; (try simp only [cmpB, decide_eq_true_eq, decide_eq_false_iff_not, beq_iff_eq, beq_eq_false_iff_ne, bne_iff_ne, ne_eq, bne_eq_false_iff_eq, Bool.not_eq_true', Bool.not_eq_false', Int.not_lt, Int.not_le] at h2)
   refine k_op0 (d := 16) (b := 178) (j' := 6) rfl rfl rfl rfl (g_tt rfl rfl rfl g2) (T_fa D (m := 2) rfl rfl rfl rfl rfl rfl) rfl ?_
   refine k_op0 (d := 17) (b := 194) (j' := 7) rfl rfl rfl rfl (g_tt rfl rfl rfl g2) (T_load_b D rfl rfl rfl rfl rfl rfl) rfl ?_
   refine k_op0 (d := 18) (b := 210) (j' := 8) rfl rfl rfl rfl (g_tt rfl rfl rfl g2) (T_cmp rfl rfl rfl rfl) rfl ?_
   refine q0 19 226 9 rfl rfl (T_pick_t rfl rfl rfl g2) rfl ?_
   refine q0 20 242 10 rfl rfl (T_move rfl rfl) rfl ?_
   refine k_split (d := 20) rfl (fun g3 => ?_) (fun g3 => ?_)
   ·have h3 := c_eql_t g3
    refine k_op0 (d := 21) (b := 258) (j' := 11) rfl rfl rfl rfl (g_tt rfl rfl rfl g3) (T_fa D (m := 4) rfl rfl rfl rfl rfl rfl) rfl ?_
    refine k_op0 (d := 22) (b := 274) (j' := 12) rfl rfl rfl rfl (g_tt rfl rfl rfl g3) (T_load_b D rfl rfl rfl rfl rfl rfl) rfl ?_
    refine k_op0 (d := 23) (b := 290) (j' := 13) rfl rfl rfl rfl (g_tt rfl rfl rfl g3) (T_cmp rfl rfl rfl rfl) rfl ?_
    refine q0 24 306 14 rfl rfl (T_pick_t rfl rfl rfl g3) rfl ?_
    refine q0 6 322 15 rfl rfl (T_assign rfl rfl) rfl ?_
    refine k_done rfl ?_
    refine thenK_n ?_
    refine W_ret ?_
    refine blockK_r ?_
    refine thenK_r ?_
    exact .mk [] (.inr rfl) (.tmp rfl (.nil)) (by first | (simp only [resLV, LV.ren, LV.v.injEq, Value.bool.injEq]; unfold endsB; rw [if_pos (by omega)]; simp [*, cmpB]; done) | (simp only [resLV, LV.ren, LV.v.injEq, Value.bool.injEq]; unfold endsB; rw [if_neg (by omega), if_pos (by omega)]; simp [*, cmpB]; done) | (simp only [resLV, LV.ren, LV.v.injEq, Value.bool.injEq]; unfold endsB; rw [if_neg (by omega), if_neg (by omega)]; simp [*, cmpB]; done)) (.nil) rfl
   ·have h3 := c_eql_f g3
    refine k_no (d := 21) (j' := 11) rfl rfl rfl (g_tf rfl rfl rfl g3) ?_
    refine k_no (d := 22) (j' := 12) rfl rfl rfl (g_tf rfl rfl rfl g3) ?_
    refine k_no (d := 23) (j' := 13) rfl rfl rfl (g_tf rfl rfl rfl g3) ?_
    refine q0 24 306 14 rfl rfl (T_pick_f rfl rfl rfl g3) rfl ?_
    refine q0 6 322 15 rfl rfl (T_assign rfl rfl) rfl ?_
    refine k_done rfl ?_
    refine thenK_n ?_
    refine W_ret ?_
    refine blockK_r ?_
    refine thenK_r ?_
    exact .mk [] (.inr rfl) (.tmp rfl (.nil)) (by first | (simp only [resLV, LV.ren, LV.v.injEq, Value.bool.injEq]; unfold endsB; rw [if_pos (by omega)]; simp [*, cmpB]; done) | (simp only [resLV, LV.ren, LV.v.injEq, Value.bool.injEq]; unfold endsB; rw [if_neg (by omega), if_pos (by omega)]; simp [*, cmpB]; done) | (simp only [resLV, LV.ren, LV.v.injEq, Value.bool.injEq]; unfold endsB; rw [if_neg (by omega), if_neg (by omega)]; simp [*, cmpB]; done)) (.nil) rfl
  ·have h2 := g2; (try simp only [cmpB, decide_eq_true_eq, decide_eq_false_iff_not, beq_iff_eq, beq_eq_false_iff_ne, bne_iff_ne, ne_eq, bne_eq_false_iff_eq, Bool.not_eq_true', Bool.not_eq_false', Int.not_lt, Int.not_le] at h2)
   refine k_no (d := 16) (j' := 6) rfl rfl rfl (g_tf rfl rfl rfl g2) ?_
   refine k_no (d := 17) (j' := 7) rfl rfl rfl (g_tf rfl rfl rfl g2) ?_
   refine k_no (d := 18) (j' := 8) rfl rfl rfl (g_tf rfl rfl rfl g2) ?_
   refine q0 19 226 9 rfl rfl (T_pick_f rfl rfl rfl g2) rfl ?_
   refine q0 20 242 10 rfl rfl (T_move rfl rfl) rfl ?_
   refine k_no (d := 21) (j' := 11) rfl rfl rfl (g_tf rfl rfl rfl rfl) ?_
   refine k_no (d := 22) (j' := 12) rfl rfl rfl (g_tf rfl rfl rfl rfl) ?_
   refine k_no (d := 23) (j' := 13) rfl rfl rfl (g_tf rfl rfl rfl rfl) ?_
   refine q0 24 306 14 rfl rfl (T_pick_f rfl rfl rfl rfl) rfl ?_
   refine q0 6 322 15 rfl rfl (T_assign rfl rfl) rfl ?_
   refine k_done rfl ?_
   refine thenK_n ?_
   refine W_ret ?_
   refine blockK_r ?_
   refine thenK_r ?_
   exact .mk [] (.inr rfl) (.tmp rfl (.nil)) (by first | (simp only [resLV, LV.ren, LV.v.injEq, Value.bool.injEq]; unfold endsB; rw [if_pos (by omega)]; simp [*, cmpB]; done) | (simp only [resLV, LV.ren, LV.v.injEq, Value.bool.injEq]; unfold endsB; rw [if_neg (by omega), if_pos (by omega)]; simp [*, cmpB]; done) | (simp only [resLV, LV.ren, LV.v.injEq, Value.bool.injEq]; unfold endsB; rw [if_neg (by omega), if_neg (by omega)]; simp [*, cmpB]; done)) (.nil) rfl
 ·have h1 := c_eql_f g1
  refine W_seq ?_
  refine W_seqK (b' := 130) rfl rfl ?_
  refine q0 26 98 1 rfl rfl (T_cmp rfl rfl rfl rfl) rfl ?_
  refine q0 25 114 2 rfl rfl (T_assign rfl rfl) rfl ?_
  refine k_done rfl ?_
  refine thenK_n ?_
  refine W_cond rfl (fun g4 => ?_) (fun g4 => ?_)
  ·have h4 := c_eql_t g4
   refine W_seq ?_
   refine W_seqK (b' := 402) rfl rfl ?_
   refine q0 27 130 1 rfl rfl (T_fa D (m := 3) rfl rfl rfl rfl rfl rfl) rfl ?_
   refine q0 28 146 2 rfl rfl (T_load_b D rfl rfl rfl rfl rfl rfl) rfl ?_
   refine q0 29 162 3 rfl rfl (T_move rfl rfl) rfl ?_
   refine q0 30 178 4 rfl rfl (T_callV (lvs := [_, _]) (L := []) (within_spec _ _) body125 rfl rfl rfl rfl (.nil) rfl) rfl ?_
   refine q0 31 194 5 rfl rfl (T_move rfl rfl) rfl ?_
   refine k_split (d := 31) rfl (fun g5 => ?_) (fun g5 => ?_)
   ·have h5 := g5; (try simp only [cmpB, decide_eq_true_eq, decide_eq_false_iff_not, beq_iff_eq, beq_eq_false_iff_ne, bne_iff_ne, ne_eq, bne_eq_false_iff_eq, Bool.not_eq_true', Bool.not_eq_false', Int.not_lt, Int.not_le] at h5)
    refine k_op0 (d := 32) (b := 210) (j' := 6) rfl rfl rfl rfl (g_tt rfl rfl rfl g5) (T_fa D (m := 4) rfl rfl rfl rfl rfl rfl) rfl ?_
    refine k_op0 (d := 33) (b := 226) (j' := 7) rfl rfl rfl rfl (g_tt rfl rfl rfl g5) (T_load_b D rfl rfl rfl rfl rfl rfl) rfl ?_
    refine k_op0 (d := 34) (b := 242) (j' := 8) rfl rfl rfl rfl (g_tt rfl rfl rfl g5) (T_move rfl rfl) rfl ?_
    refine k_op0 (d := 35) (b := 258) (j' := 9) rfl rfl rfl rfl (g_tt rfl rfl rfl g5) (T_callV (lvs := [_, _]) (L := []) (within_spec _ _) body125 rfl rfl rfl rfl (.nil) rfl) rfl ?_
    refine q0 36 274 10 rfl rfl (T_pick_t rfl rfl rfl g5) rfl ?_
    refine q0 37 290 11 rfl rfl (T_move rfl rfl) rfl ?_
    refine k_split (d := 37) rfl (fun g6 => ?_) (fun g6 => ?_)
    ·have h6 := g6; (try simp only [cmpB, decide_eq_true_eq, decide_eq_false_iff_not, beq_iff_eq, beq_eq_false_iff_ne, bne_iff_ne, ne_eq, bne_eq_false_iff_eq, Bool.not_eq_true', Bool.not_eq_false', Int.not_lt, Int.not_le] at h6)
     refine k_op0 (d := 38) (b := 306) (j' := 12) rfl rfl rfl rfl (g_tt rfl rfl rfl g6) (T_fa D (m := 2) rfl rfl rfl rfl rfl rfl) rfl ?_
     refine k_op0 (d := 39) (b := 322) (j' := 13) rfl rfl rfl rfl (g_tt rfl rfl rfl g6) (T_load_b D rfl rfl rfl rfl rfl rfl) rfl ?_
     refine k_op0 (d := 40) (b := 338) (j' := 14) rfl rfl rfl rfl (g_tt rfl rfl rfl g6) (T_move rfl rfl) rfl ?_
     refine k_op0 (d := 41) (b := 354) (j' := 15) rfl rfl rfl rfl (g_tt rfl rfl rfl g6) (T_callV (lvs := [_, _]) (L := []) (within_spec _ _) body125 rfl rfl rfl rfl (.nil) rfl) rfl ?_
     refine q0 42 370 16 rfl rfl (T_pick_t rfl rfl rfl g6) rfl ?_
     refine q0 6 386 17 rfl rfl (T_assign rfl rfl) rfl ?_
     refine k_done rfl ?_
     refine thenK_n ?_
     refine W_ret ?_
     refine blockK_r ?_
     refine thenK_r ?_
     exact .mk [] (.inr rfl) (.tmp rfl (.nil)) (by first | (simp only [resLV, LV.ren, LV.v.injEq, Value.bool.injEq]; unfold endsB; rw [if_pos (by omega)]; simp [*, cmpB]; done) | (simp only [resLV, LV.ren, LV.v.injEq, Value.bool.injEq]; unfold endsB; rw [if_neg (by omega), if_pos (by omega)]; simp [*, cmpB]; done) | (simp only [resLV, LV.ren, LV.v.injEq, Value.bool.injEq]; unfold endsB; rw [if_neg (by omega), if_neg (by omega)]; simp [*, cmpB]; done)) (.nil) rfl
    ·have h6 := g6; (try simp only [cmpB, decide_eq_true_eq, decide_eq_false_iff_not, beq_iff_eq, beq_eq_false_iff_ne, bne_iff_ne, ne_eq, bne_eq_false_iff_eq, Bool.not_eq_true', Bool.not_eq_false', Int.not_lt, Int.not_le] at h6)
     refine k_no (d := 38) (j' := 12) rfl rfl rfl (g_tf rfl rfl rfl g6) ?_
     refine k_no (d := 39) (j' := 13) rfl rfl rfl (g_tf rfl rfl rfl g6) ?_
     refine k_no (d := 40) (j' := 14) rfl rfl rfl (g_tf rfl rfl rfl g6) ?_
     refine k_no (d := 41) (j' := 15) rfl rfl rfl (g_tf rfl rfl rfl g6) ?_
     refine q0 42 370 16 rfl rfl (T_pick_f rfl rfl rfl g6) rfl ?_
     refine q0 6 386 17 rfl rfl (T_assign rfl rfl) rfl ?_
     refine k_done rfl ?_
     refine thenK_n ?_
     refine W_ret ?_
     refine blockK_r ?_
     refine thenK_r ?_
     exact .mk [] (.inr rfl) (.tmp rfl (.nil)) (by first | (simp only [resLV, LV.ren, LV.v.injEq, Value.bool.injEq]; unfold endsB; rw [if_pos (by omega)]; simp [*, cmpB]; done) | (simp only [resLV, LV.ren, LV.v.injEq, Value.bool.injEq]; unfold endsB; rw [if_neg (by omega), if_pos (by omega)]; simp [*, cmpB]; done) | (simp only [resLV, LV.ren, LV.v.injEq, Value.bool.injEq]; unfold endsB; rw [if_neg (by omega), if_neg (by omega)]; simp [*, cmpB]; done)) (.nil) rfl
   ·have h5 := g5; (try simp only [cmpB, decide_eq_true_eq, decide_eq_false_iff_not, beq_iff_eq, beq_eq_false_iff_ne, bne_iff_ne, ne_eq, bne_eq_false_iff_eq, Bool.not_eq_true', Bool.not_eq_false', Int.not_lt, Int.not_le] at h5)
    refine k_no (d := 32) (j' := 6) rfl rfl rfl (g_tf rfl rfl rfl g5) ?_
    refine k_no (d := 33) (j' := 7) rfl rfl rfl (g_tf rfl rfl rfl g5) ?_
    refine k_no (d := 34) (j' := 8) rfl rfl rfl (g_tf rfl rfl rfl g5) ?_
    refine k_no (d := 35) (j' := 9) rfl rfl rfl (g_tf rfl rfl rfl g5) ?_
    refine q0 36 274 10 rfl rfl (T_pick_f rfl rfl rfl g5) rfl ?_
    refine q0 37 290 11 rfl rfl (T_move rfl rfl) rfl ?_
    refine k_no (d := 38) (j' := 12) rfl rfl rfl (g_tf rfl rfl rfl rfl) ?_
    refine k_no (d := 39) (j' := 13) rfl rfl rfl (g_tf rfl rfl rfl rfl) ?_
    refine k_no (d := 40) (j' := 14) rfl rfl rfl (g_tf rfl rfl rfl rfl) ?_
    refine k_no (d := 41) (j' := 15) rfl rfl rfl (g_tf rfl rfl rfl rfl) ?_
    refine q0 42 370 16 rfl rfl (T_pick_f rfl rfl rfl rfl) rfl ?_
    refine q0 6 386 17 rfl rfl (T_assign rfl rfl) rfl ?_
    refine k_done rfl ?_
    refine thenK_n ?_
    refine W_ret ?_
    refine blockK_r ?_
    refine thenK_r ?_
    exact .mk [] (.inr rfl) (.tmp rfl (.nil)) (by first | (simp only [resLV, LV.ren, LV.v.injEq, Value.bool.injEq]; unfold endsB; rw [if_pos (by omega)]; simp [*, cmpB]; done) | (simp only [resLV, LV.ren, LV.v.injEq, Value.bool.injEq]; unfold endsB; rw [if_neg (by omega), if_pos (by omega)]; simp [*, cmpB]; done) | (simp only [resLV, LV.ren, LV.v.injEq, Value.bool.injEq]; unfold endsB; rw [if_neg (by omega), if_neg (by omega)]; simp [*, cmpB]; done)) (.nil) rfl
  ·have h4 := c_eql_f g4
   refine W_skip ?_
   refine blockK_n ?_
   refine thenK_n ?_
   refine W_seq ?_
   refine W_seqK (b' := 434) rfl rfl ?_
   refine q0 43 130 1 rfl rfl (T_fa D (m := 1) rfl rfl rfl rfl rfl rfl) rfl ?_
   refine q0 44 146 2 rfl rfl (T_load_b D rfl rfl rfl rfl rfl rfl) rfl ?_
   refine q0 45 162 3 rfl rfl (T_cmp rfl rfl rfl rfl) rfl ?_
   refine q0 46 178 4 rfl rfl (T_move rfl rfl) rfl ?_
   refine k_split (d := 46) rfl (fun g7 => ?_) (fun g7 => ?_)
   ·have h7 := c_eql_t g7
    refine k_op0 (d := 47) (b := 194) (j' := 5) rfl rfl rfl rfl (g_tt rfl rfl rfl g7) (T_fa D (m := 2) rfl rfl rfl rfl rfl rfl) rfl ?_
    refine k_op0 (d := 48) (b := 210) (j' := 6) rfl rfl rfl rfl (g_tt rfl rfl rfl g7) (T_load_b D rfl rfl rfl rfl rfl rfl) rfl ?_
    refine k_op0 (d := 49) (b := 226) (j' := 7) rfl rfl rfl rfl (g_tt rfl rfl rfl g7) (T_cmp rfl rfl rfl rfl) rfl ?_
    refine q0 50 242 8 rfl rfl (T_pick_t rfl rfl rfl g7) rfl ?_
    refine q0 51 258 9 rfl rfl (T_move rfl rfl) rfl ?_
    refine k_split (d := 51) rfl (fun g8 => ?_) (fun g8 => ?_)
    ·have h8 := c_eql_t g8
     refine k_op0 (d := 52) (b := 274) (j' := 10) rfl rfl rfl rfl (g_tt rfl rfl rfl g8) (T_fa D (m := 3) rfl rfl rfl rfl rfl rfl) rfl ?_
     refine k_op0 (d := 53) (b := 290) (j' := 11) rfl rfl rfl rfl (g_tt rfl rfl rfl g8) (T_load_b D rfl rfl rfl rfl rfl rfl) rfl ?_
     refine k_op0 (d := 54) (b := 306) (j' := 12) rfl rfl rfl rfl (g_tt rfl rfl rfl g8) (T_cmp rfl rfl rfl rfl) rfl ?_
     refine q0 55 322 13 rfl rfl (T_pick_t rfl rfl rfl g8) rfl ?_
     refine q0 56 338 14 rfl rfl (T_move rfl rfl) rfl ?_
     refine k_split (d := 56) rfl (fun g9 => ?_) (fun g9 => ?_)
     ·have h9 := c_eql_t g9
      refine k_op0 (d := 57) (b := 354) (j' := 15) rfl rfl rfl rfl (g_tt rfl rfl rfl g9) (T_fa D (m := 4) rfl rfl rfl rfl rfl rfl) rfl ?_
      refine k_op0 (d := 58) (b := 370) (j' := 16) rfl rfl rfl rfl (g_tt rfl rfl rfl g9) (T_load_b D rfl rfl rfl rfl rfl rfl) rfl ?_
      refine k_op0 (d := 59) (b := 386) (j' := 17) rfl rfl rfl rfl (g_tt rfl rfl rfl g9) (T_cmp rfl rfl rfl rfl) rfl ?_
      refine q0 60 402 18 rfl rfl (T_pick_t rfl rfl rfl g9) rfl ?_
      refine q0 6 418 19 rfl rfl (T_assign rfl rfl) rfl ?_
      refine k_done rfl ?_
      refine thenK_n ?_
      refine W_ret ?_
      exact .mk [] (.inr rfl) (.tmp rfl (.nil)) (by first | (simp only [resLV, LV.ren, LV.v.injEq, Value.bool.injEq]; unfold endsB; rw [if_pos (by omega)]; simp [*, cmpB]; done) | (simp only [resLV, LV.ren, LV.v.injEq, Value.bool.injEq]; unfold endsB; rw [if_neg (by omega), if_pos (by omega)]; simp [*, cmpB]; done) | (simp only [resLV, LV.ren, LV.v.injEq, Value.bool.injEq]; unfold endsB; rw [if_neg (by omega), if_neg (by omega)]; simp [*, cmpB]; done)) (.nil) rfl
     ·have h9 := c_eql_f g9
      refine k_no (d := 57) (j' := 15) rfl rfl rfl (g_tf rfl rfl rfl g9) ?_
      refine k_no (d := 58) (j' := 16) rfl rfl rfl (g_tf rfl rfl rfl g9) ?_
      refine k_no (d := 59) (j' := 17) rfl rfl rfl (g_tf rfl rfl rfl g9) ?_
      refine q0 60 402 18 rfl rfl (T_pick_f rfl rfl rfl g9) rfl ?_
      refine q0 6 418 19 rfl rfl (T_assign rfl rfl) rfl ?_
      refine k_done rfl ?_
      refine thenK_n ?_
      refine W_ret ?_
      exact .mk [] (.inr rfl) (.tmp rfl (.nil)) (by first | (simp only [resLV, LV.ren, LV.v.injEq, Value.bool.injEq]; unfold endsB; rw [if_pos (by omega)]; simp [*, cmpB]; done) | (simp only [resLV, LV.ren, LV.v.injEq, Value.bool.injEq]; unfold endsB; rw [if_neg (by omega), if_pos (by omega)]; simp [*, cmpB]; done) | (simp only [resLV, LV.ren, LV.v.injEq, Value.bool.injEq]; unfold endsB; rw [if_neg (by omega), if_neg (by omega)]; simp [*, cmpB]; done)) (.nil) rfl
    ·have h8 := c_eql_f g8
     refine k_no (d := 52) (j' := 10) rfl rfl rfl (g_tf rfl rfl rfl g8) ?_
     refine k_no (d := 53) (j' := 11) rfl rfl rfl (g_tf rfl rfl rfl g8) ?_
     refine k_no (d := 54) (j' := 12) rfl rfl rfl (g_tf rfl rfl rfl g8) ?_
     refine q0 55 322 13 rfl rfl (T_pick_f rfl rfl rfl g8) rfl ?_
     refine q0 56 338 14 rfl rfl (T_move rfl rfl) rfl ?_
     refine k_no (d := 57) (j' := 15) rfl rfl rfl (g_tf rfl rfl rfl rfl) ?_
     refine k_no (d := 58) (j' := 16) rfl rfl rfl (g_tf rfl rfl rfl rfl) ?_
     refine k_no (d := 59) (j' := 17) rfl rfl rfl (g_tf rfl rfl rfl rfl) ?_
     refine q0 60 402 18 rfl rfl (T_pick_f rfl rfl rfl rfl) rfl ?_
     refine q0 6 418 19 rfl rfl (T_assign rfl rfl) rfl ?_
     refine k_done rfl ?_
     refine thenK_n ?_
     refine W_ret ?_
     exact .mk [] (.inr rfl) (.tmp rfl (.nil)) (by first | (simp only [resLV, LV.ren, LV.v.injEq, Value.bool.injEq]; unfold endsB; rw [if_pos (by omega)]; simp [*, cmpB]; done) | (simp only [resLV, LV.ren, LV.v.injEq, Value.bool.injEq]; unfold endsB; rw [if_neg (by omega), if_pos (by omega)]; simp [*, cmpB]; done) | (simp only [resLV, LV.ren, LV.v.injEq, Value.bool.injEq]; unfold endsB; rw [if_neg (by omega), if_neg (by omega)]; simp [*, cmpB]; done)) (.nil) rfl
   ·have h7 := c_eql_f g7
    refine k_no (d := 47) (j' := 5) rfl rfl rfl (g_tf rfl rfl rfl g7) ?_
    refine k_no (d := 48) (j' := 6) rfl rfl rfl (g_tf rfl rfl rfl g7) ?_
    refine k_no (d := 49) (j' := 7) rfl rfl rfl (g_tf rfl rfl rfl g7) ?_
    refine q0 50 242 8 rfl rfl (T_pick_f rfl rfl rfl g7) rfl ?_
    refine q0 51 258 9 rfl rfl (T_move rfl rfl) rfl ?_
    refine k_no (d := 52) (j' := 10) rfl rfl rfl (g_tf rfl rfl rfl rfl) ?_
    refine k_no (d := 53) (j' := 11) rfl rfl rfl (g_tf rfl rfl rfl rfl) ?_
    refine k_no (d := 54) (j' := 12) rfl rfl rfl (g_tf rfl rfl rfl rfl) ?_
    refine q0 55 322 13 rfl rfl (T_pick_f rfl rfl rfl rfl) rfl ?_
    refine q0 56 338 14 rfl rfl (T_move rfl rfl) rfl ?_
    refine k_no (d := 57) (j' := 15) rfl rfl rfl (g_tf rfl rfl rfl rfl) ?_
    refine k_no (d := 58) (j' := 16) rfl rfl rfl (g_tf rfl rfl rfl rfl) ?_
    refine k_no (d := 59) (j' := 17) rfl rfl rfl (g_tf rfl rfl rfl rfl) ?_
    refine q0 60 402 18 rfl rfl (T_pick_f rfl rfl rfl rfl) rfl ?_
    refine q0 6 418 19 rfl rfl (T_assign rfl rfl) rfl ?_
    refine k_done rfl ?_
    refine thenK_n ?_
    refine W_ret ?_
    exact .mk [] (.inr rfl) (.tmp rfl (.nil)) (by first | (simp only [resLV, LV.ren, LV.v.injEq, Value.bool.injEq]; unfold endsB; rw [if_pos (by omega)]; simp [*, cmpB]; done) | (simp only [resLV, LV.ren, LV.v.injEq, Value.bool.injEq]; unfold endsB; rw [if_neg (by omega), if_pos (by omega)]; simp [*, cmpB]; done) | (simp only [resLV, LV.ren, LV.v.injEq, Value.bool.injEq]; unfold endsB; rw [if_neg (by omega), if_neg (by omega)]; simp [*, cmpB]; done)) (.nil) rfl
end Lg
end Go.Proofs.Ytpfhmodjjljpjaa

namespace Go.Proofs.Ytpfhmodjjljpjaa
open Go.RowKit
namespace Lg
set_option maxRecDepth 100000
set_option linter.unusedVariables false
set_option linter.unusedSimpArgs false
theorem body88 : (Try.prog.funcs[88]?).map (fun fn => (fn.name == "runtime.NumGoroutine" || fn.body.isNone)) = some false := by kernel_rfl
theorem fits_spec (t : GTac) (f regs words : Int) (hw : -4611686018427387904 ≤ words ∧ words ≤ 4611686018427387904) : Spec Try.prog 88 [.agg [.v (.int .i64 t.op), .v (.int .i64 t.d), .v (.int .i64 t.a), .v (.int .i64 t.b), .v (.int .i64 t.k), .v (.int .i64 t.base), .v (.int .i64 t.size), .v (.int .u32 t.n)], .v (.int .i64 f), .v (.int .i64 regs), .v (.int .i64 words)] 1 [] (.v (.bool (fitsB t f regs words))) 1 [] := by
 refine spec_of D (fn := Try.f88) rfl rfl (Nat.le_of_ble_eq_true rfl) ?_
 refine W_seq ?_
 refine W_seqK (b' := 33) rfl rfl ?_
 refine q1 4 1 1 rfl rfl (T_box rfl rfl flat_agg) rfl ?_
 refine q0 8 17 2 rfl rfl (T_assign rfl rfl) rfl ?_
 refine k_done rfl ?_
 refine thenK_n ?_
 refine W_seq ?_
 refine W_seq ?_
 refine W_seqK (b' := 161) rfl rfl ?_
 refine q0 12 33 1 rfl rfl (T_fa D (m := 0) rfl rfl rfl rfl rfl rfl) rfl ?_
 refine q0 13 49 2 rfl rfl (T_load_b D rfl rfl rfl rfl rfl rfl) rfl ?_
 refine q0 14 65 3 rfl rfl (T_cmp rfl rfl rfl rfl) rfl ?_
 refine q0 15 81 4 rfl rfl (T_move rfl rfl) rfl ?_
 refine k_split (d := 15) rfl (fun g1 => ?_) (fun g1 => ?_)
 ·have h1 := c_lss_t g1
  refine k_no (d := 16) (j' := 5) rfl rfl rfl (g_ft rfl rfl rfl g1) ?_
  refine k_no (d := 17) (j' := 6) rfl rfl rfl (g_ft rfl rfl rfl g1) ?_
  refine k_no (d := 18) (j' := 7) rfl rfl rfl (g_ft rfl rfl rfl g1) ?_
  refine q0 19 145 8 rfl rfl (T_pick_t rfl rfl rfl g1) rfl ?_
  refine k_done rfl ?_
  refine thenK_n ?_
  refine W_cond rfl (fun g2 => ?_) (fun g2 => ?_)
  ·skip
   refine W_seq ?_
   refine W_seqK (b' := 177) rfl rfl ?_
   refine q0 8 161 1 rfl rfl (T_assign rfl rfl) rfl ?_
   refine k_done rfl ?_
   refine thenK_n ?_
   refine W_ret ?_
   refine thenK_r ?_
   exact .mk [] (.inr rfl) (.tmp rfl (.nil)) (by first | rfl | (simp only [resLV, LV.ren, LV.v.injEq, Value.bool.injEq]; refine fits_no (fun hF => ?_); obtain ⟨a1, a2, a3, a4, a5, a6, a7, a8⟩ := hF; first | omega | (have k4 := a4 (by omega); omega) | (have k6 := a6 (by omega); omega) | exact absurd ((a2 (by assumption)).symm.trans (by assumption : _ = false)) (by decide) | exact absurd ((a5 (by omega)).symm.trans (by assumption : _ = false)) (by decide) | exact absurd ((a7 (by omega)).symm.trans (by assumption : _ = false)) (by decide) | exact absurd ((a3 _ (getD_mem (i := j) (by omega))).symm.trans (by assumption : _ = false)) (by decide)) | (simp only [resLV, LV.ren, LV.v.injEq, Value.bool.injEq]; exact fits_fin hj18 (fun _ => by omega) (fun _ => by first | assumption | (exfalso; omega)) (fun _ => by omega) (fun _ => by first | assumption | (exfalso; omega)) (by first | exact (if_pos (by omega)).symm | exact (if_neg (by omega)).symm) (by first | exact (if_pos (by omega)).symm | exact (if_neg (by omega)).symm) (by first | exact (if_pos (by omega)).symm | exact (if_neg (by omega)).symm) (by first | exact (if_pos (by omega)).symm | exact (if_neg (by omega)).symm))) (.nil) rfl
  ·exact absurd (g2.symm.trans rfl) (by decide)
 ·have h1 := c_lss_f g1
  refine k_op0 (d := 16) (b := 97) (j' := 5) rfl rfl rfl rfl (g_ff rfl rfl rfl g1) (T_fa D (m := 0) rfl rfl rfl rfl rfl rfl) rfl ?_
  refine k_op0 (d := 17) (b := 113) (j' := 6) rfl rfl rfl rfl (g_ff rfl rfl rfl g1) (T_load_b D rfl rfl rfl rfl rfl rfl) rfl ?_
  refine k_op0 (d := 18) (b := 129) (j' := 7) rfl rfl rfl rfl (g_ff rfl rfl rfl g1) (T_cmp rfl rfl rfl rfl) rfl ?_
  refine q0 19 145 8 rfl rfl (T_pick_f rfl rfl rfl g1) rfl ?_
  refine k_done rfl ?_
  refine thenK_n ?_
  refine W_cond rfl (fun g3 => ?_) (fun g3 => ?_)
  ·have h3 := c_gtr_t g3
   refine W_seq ?_
   refine W_seqK (b' := 177) rfl rfl ?_
   refine q0 8 161 1 rfl rfl (T_assign rfl rfl) rfl ?_
   refine k_done rfl ?_
   refine thenK_n ?_
   refine W_ret ?_
   refine thenK_r ?_
   exact .mk [] (.inr rfl) (.tmp rfl (.nil)) (by first | rfl | (simp only [resLV, LV.ren, LV.v.injEq, Value.bool.injEq]; refine fits_no (fun hF => ?_); obtain ⟨a1, a2, a3, a4, a5, a6, a7, a8⟩ := hF; first | omega | (have k4 := a4 (by omega); omega) | (have k6 := a6 (by omega); omega) | exact absurd ((a2 (by assumption)).symm.trans (by assumption : _ = false)) (by decide) | exact absurd ((a5 (by omega)).symm.trans (by assumption : _ = false)) (by decide) | exact absurd ((a7 (by omega)).symm.trans (by assumption : _ = false)) (by decide) | exact absurd ((a3 _ (getD_mem (i := j) (by omega))).symm.trans (by assumption : _ = false)) (by decide)) | (simp only [resLV, LV.ren, LV.v.injEq, Value.bool.injEq]; exact fits_fin hj18 (fun _ => by omega) (fun _ => by first | assumption | (exfalso; omega)) (fun _ => by omega) (fun _ => by first | assumption | (exfalso; omega)) (by first | exact (if_pos (by omega)).symm | exact (if_neg (by omega)).symm) (by first | exact (if_pos (by omega)).symm | exact (if_neg (by omega)).symm) (by first | exact (if_pos (by omega)).symm | exact (if_neg (by omega)).symm) (by first | exact (if_pos (by omega)).symm | exact (if_neg (by omega)).symm))) (.nil) rfl
  ·have h3 := c_gtr_f g3
   refine W_skip ?_
   refine thenK_n ?_
   refine W_seq ?_
   refine W_seqK (b' := 241) rfl rfl ?_
   refine q0 20 161 1 rfl rfl (T_fa D (m := 0) rfl rfl rfl rfl rfl rfl) rfl ?_
   refine q0 21 177 2 rfl rfl (T_load_b D rfl rfl rfl rfl rfl rfl) rfl ?_
   refine q0 22 193 3 rfl rfl (T_build D (l := [_, _, _, _, _, _, _, _]) rfl rfl rfl rfl (.cons rfl (flat_v rfl) (.nil)) rfl rfl) rfl ?_
   refine q1 9 209 4 rfl rfl (T_alloc D rfl rfl rfl) rfl ?_
   refine s1 225 5 rfl rfl (T_stB D (cs' := [_, _, _, _, _, _, _, _]) rfl rfl rfl rfl flat_agg rfl rfl (Nat.le_of_ble_eq_true rfl) rfl) rfl ?_
   refine k_done rfl ?_
   refine thenK_n ?_
   refine W_join (ι := Unit) 3 (fun _u => ⟨[(1, .v (.int .i64 f)), (2, .v (.int .i64 regs)), (3, .v (.int .i64 words)), (4, .p 1 0), (9, .p 2 0)], [(1, .box 70 [.v (.int .i64 t.op), .v (.int .i64 t.d), .v (.int .i64 t.a), .v (.int .i64 t.b), .v (.int .i64 t.k), .v (.int .i64 t.base), .v (.int .i64 t.size), .v (.int .u32 t.n)]), (2, .box 70 [.v (.int .i64 t.op), .v (.int .i64 (if setsOp t.op = true then t.d else 0)), .v (.int .i64 0), .v (.int .i64 0), .v (.int .i64 0), .v (.int .i64 0), .v (.int .i64 0), .v (.int .u32 0)])]⟩) (fun _ => (1 ≤ t.op ∧ t.op ≤ 10) ∧ (setsOp t.op = true → withinB t.d regs = true)) ?_ (fun _u hj8 => ?_)
   ·skip
    refine W_join (ι := Unit) 3 (fun _u => ⟨[(1, .v (.int .i64 f)), (2, .v (.int .i64 regs)), (3, .v (.int .i64 words)), (4, .p 1 0), (9, .p 2 0), (55, .v (.bool (setsOp t.op)))], [(1, .box 70 [.v (.int .i64 t.op), .v (.int .i64 t.d), .v (.int .i64 t.a), .v (.int .i64 t.b), .v (.int .i64 t.k), .v (.int .i64 t.base), .v (.int .i64 t.size), .v (.int .u32 t.n)]), (2, .box 70 [.v (.int .i64 t.op), .v (.int .i64 0), .v (.int .i64 0), .v (.int .i64 0), .v (.int .i64 0), .v (.int .i64 0), .v (.int .i64 0), .v (.int .u32 0)])]⟩) (fun _ => 1 ≤ t.op ∧ t.op ≤ 10) ?_ (fun _u hj5 => ?_)
    ·skip
     refine W_seqK (b' := 769) rfl rfl ?_
     refine q0 23 241 1 rfl rfl (T_load_bA D (l := [_, _, _, _, _, _, _, _]) rfl rfl rfl rfl rfl rfl rfl) rfl ?_
     refine q0 24 257 2 rfl rfl (T_callV (lvs := [_]) (L := []) (sets_spec _) body86 rfl rfl rfl rfl (.nil) rfl) rfl ?_
     refine q0 25 273 3 rfl rfl (T_cmp rfl rfl rfl rfl) rfl ?_
     refine q0 26 289 4 rfl rfl (T_move rfl rfl) rfl ?_
     refine k_split (d := 26) rfl (fun g4 => ?_) (fun g4 => ?_)
     ·have h4 := c_geq_t g4
      refine k_no (d := 27) (j' := 5) rfl rfl rfl (g_ft rfl rfl rfl g4) ?_
      refine k_no (d := 28) (j' := 6) rfl rfl rfl (g_ft rfl rfl rfl g4) ?_
      refine k_no (d := 29) (j' := 7) rfl rfl rfl (g_ft rfl rfl rfl g4) ?_
      refine q0 30 353 8 rfl rfl (T_pick_t rfl rfl rfl g4) rfl ?_
      refine q0 31 369 9 rfl rfl (T_move rfl rfl) rfl ?_
      refine k_no (d := 32) (j' := 10) rfl rfl rfl (g_ft rfl rfl rfl rfl) ?_
      refine k_no (d := 33) (j' := 11) rfl rfl rfl (g_ft rfl rfl rfl rfl) ?_
      refine k_no (d := 34) (j' := 12) rfl rfl rfl (g_ft rfl rfl rfl rfl) ?_
      refine q0 35 433 13 rfl rfl (T_pick_t rfl rfl rfl rfl) rfl ?_
      refine q0 36 449 14 rfl rfl (T_move rfl rfl) rfl ?_
      refine k_no (d := 37) (j' := 15) rfl rfl rfl (g_ft rfl rfl rfl rfl) ?_
      refine k_no (d := 38) (j' := 16) rfl rfl rfl (g_ft rfl rfl rfl rfl) ?_
      refine k_no (d := 39) (j' := 17) rfl rfl rfl (g_ft rfl rfl rfl rfl) ?_
      refine q0 40 513 18 rfl rfl (T_pick_t rfl rfl rfl rfl) rfl ?_
      refine q0 41 529 19 rfl rfl (T_move rfl rfl) rfl ?_
      refine k_no (d := 42) (j' := 20) rfl rfl rfl (g_ft rfl rfl rfl rfl) ?_
      refine k_no (d := 43) (j' := 21) rfl rfl rfl (g_ft rfl rfl rfl rfl) ?_
      refine k_no (d := 44) (j' := 22) rfl rfl rfl (g_ft rfl rfl rfl rfl) ?_
      refine q0 45 593 23 rfl rfl (T_pick_t rfl rfl rfl rfl) rfl ?_
      refine q0 46 609 24 rfl rfl (T_move rfl rfl) rfl ?_
      refine k_no (d := 47) (j' := 25) rfl rfl rfl (g_ft rfl rfl rfl rfl) ?_
      refine k_no (d := 48) (j' := 26) rfl rfl rfl (g_ft rfl rfl rfl rfl) ?_
      refine k_no (d := 49) (j' := 27) rfl rfl rfl (g_ft rfl rfl rfl rfl) ?_
      refine q0 50 673 28 rfl rfl (T_pick_t rfl rfl rfl rfl) rfl ?_
      refine q0 51 689 29 rfl rfl (T_move rfl rfl) rfl ?_
      refine k_no (d := 52) (j' := 30) rfl rfl rfl (g_ft rfl rfl rfl rfl) ?_
      refine k_no (d := 53) (j' := 31) rfl rfl rfl (g_ft rfl rfl rfl rfl) ?_
      refine k_no (d := 54) (j' := 32) rfl rfl rfl (g_ft rfl rfl rfl rfl) ?_
      refine q0 55 753 33 rfl rfl (T_pick_t rfl rfl rfl rfl) rfl ?_
      refine k_done rfl ?_
      refine thenK_n ?_
      refine ⟨(), by (try dsimp only); omega, ?_⟩
      exact ⟨[(1, 1), (2, 209)], .eq rfl (.eq rfl (.eq rfl (.same rfl rfl (.same rfl rfl (.eq rfl (.nil) (by first | rfl | (rw [setsOp_t (by omega)]; done) | (rw [setsT_ge (by assumption)]; done) | (by_cases h8 : t.op = 8; (rw [setsOp_t (by omega)]; simp [cmpB, h8]); (rw [setsOp_f (by omega)]; simp [cmpB, h8])))))) (by first | rfl | (rw [setsOp_t (by omega)]; done) | (rw [setsT_ge (by assumption)]; done) | (by_cases h8 : t.op = 8; (rw [setsOp_t (by omega)]; simp [cmpB, h8]); (rw [setsOp_f (by omega)]; simp [cmpB, h8])))) (by first | rfl | (rw [setsOp_t (by omega)]; done) | (rw [setsT_ge (by assumption)]; done) | (by_cases h8 : t.op = 8; (rw [setsOp_t (by omega)]; simp [cmpB, h8]); (rw [setsOp_f (by omega)]; simp [cmpB, h8])))) (by first | rfl | (rw [setsOp_t (by omega)]; done) | (rw [setsT_ge (by assumption)]; done) | (by_cases h8 : t.op = 8; (rw [setsOp_t (by omega)]; simp [cmpB, h8]); (rw [setsOp_f (by omega)]; simp [cmpB, h8]))), .box (by first | rfl | (rw [setsOp_t (by omega)]; done) | (rw [setsT_ge (by assumption)]; done) | (by_cases h8 : t.op = 8; (rw [setsOp_t (by omega)]; simp [cmpB, h8]); (rw [setsOp_f (by omega)]; simp [cmpB, h8]))) (.box (by first | rfl | (rw [setsOp_t (by omega)]; done) | (rw [setsT_ge (by assumption)]; done) | (by_cases h8 : t.op = 8; (rw [setsOp_t (by omega)]; simp [cmpB, h8]); (rw [setsOp_f (by omega)]; simp [cmpB, h8]))) (.nil)), rfl⟩
     ·have h4 := c_geq_f g4
      refine k_op0 (d := 27) (b := 305) (j' := 5) rfl rfl rfl rfl (g_ff rfl rfl rfl g4) (T_fa D (m := 0) rfl rfl rfl rfl rfl rfl) rfl ?_
      refine k_op0 (d := 28) (b := 321) (j' := 6) rfl rfl rfl rfl (g_ff rfl rfl rfl g4) (T_load_b D rfl rfl rfl rfl rfl rfl) rfl ?_
      refine k_op0 (d := 29) (b := 337) (j' := 7) rfl rfl rfl rfl (g_ff rfl rfl rfl g4) (T_cmp rfl rfl rfl rfl) rfl ?_
      refine q0 30 353 8 rfl rfl (T_pick_f rfl rfl rfl g4) rfl ?_
      refine q0 31 369 9 rfl rfl (T_move rfl rfl) rfl ?_
      refine k_split (d := 31) rfl (fun g5 => ?_) (fun g5 => ?_)
      ·have h5 := c_eql_t g5
       refine k_no (d := 32) (j' := 10) rfl rfl rfl (g_ft rfl rfl rfl g5) ?_
       refine k_no (d := 33) (j' := 11) rfl rfl rfl (g_ft rfl rfl rfl g5) ?_
       refine k_no (d := 34) (j' := 12) rfl rfl rfl (g_ft rfl rfl rfl g5) ?_
       refine q0 35 433 13 rfl rfl (T_pick_t rfl rfl rfl g5) rfl ?_
       refine q0 36 449 14 rfl rfl (T_move rfl rfl) rfl ?_
       refine k_no (d := 37) (j' := 15) rfl rfl rfl (g_ft rfl rfl rfl rfl) ?_
       refine k_no (d := 38) (j' := 16) rfl rfl rfl (g_ft rfl rfl rfl rfl) ?_
       refine k_no (d := 39) (j' := 17) rfl rfl rfl (g_ft rfl rfl rfl rfl) ?_
       refine q0 40 513 18 rfl rfl (T_pick_t rfl rfl rfl rfl) rfl ?_
       refine q0 41 529 19 rfl rfl (T_move rfl rfl) rfl ?_
       refine k_no (d := 42) (j' := 20) rfl rfl rfl (g_ft rfl rfl rfl rfl) ?_
       refine k_no (d := 43) (j' := 21) rfl rfl rfl (g_ft rfl rfl rfl rfl) ?_
       refine k_no (d := 44) (j' := 22) rfl rfl rfl (g_ft rfl rfl rfl rfl) ?_
       refine q0 45 593 23 rfl rfl (T_pick_t rfl rfl rfl rfl) rfl ?_
       refine q0 46 609 24 rfl rfl (T_move rfl rfl) rfl ?_
       refine k_no (d := 47) (j' := 25) rfl rfl rfl (g_ft rfl rfl rfl rfl) ?_
       refine k_no (d := 48) (j' := 26) rfl rfl rfl (g_ft rfl rfl rfl rfl) ?_
       refine k_no (d := 49) (j' := 27) rfl rfl rfl (g_ft rfl rfl rfl rfl) ?_
       refine q0 50 673 28 rfl rfl (T_pick_t rfl rfl rfl rfl) rfl ?_
       refine q0 51 689 29 rfl rfl (T_move rfl rfl) rfl ?_
       refine k_no (d := 52) (j' := 30) rfl rfl rfl (g_ft rfl rfl rfl rfl) ?_
       refine k_no (d := 53) (j' := 31) rfl rfl rfl (g_ft rfl rfl rfl rfl) ?_
       refine k_no (d := 54) (j' := 32) rfl rfl rfl (g_ft rfl rfl rfl rfl) ?_
       refine q0 55 753 33 rfl rfl (T_pick_t rfl rfl rfl rfl) rfl ?_
       refine k_done rfl ?_
       refine thenK_n ?_
       refine ⟨(), by (try dsimp only); omega, ?_⟩
       exact ⟨[(1, 1), (2, 209)], .eq rfl (.eq rfl (.eq rfl (.same rfl rfl (.same rfl rfl (.eq rfl (.nil) (by first | rfl | (rw [setsOp_t (by omega)]; done) | (rw [setsT_ge (by assumption)]; done) | (by_cases h8 : t.op = 8; (rw [setsOp_t (by omega)]; simp [cmpB, h8]); (rw [setsOp_f (by omega)]; simp [cmpB, h8])))))) (by first | rfl | (rw [setsOp_t (by omega)]; done) | (rw [setsT_ge (by assumption)]; done) | (by_cases h8 : t.op = 8; (rw [setsOp_t (by omega)]; simp [cmpB, h8]); (rw [setsOp_f (by omega)]; simp [cmpB, h8])))) (by first | rfl | (rw [setsOp_t (by omega)]; done) | (rw [setsT_ge (by assumption)]; done) | (by_cases h8 : t.op = 8; (rw [setsOp_t (by omega)]; simp [cmpB, h8]); (rw [setsOp_f (by omega)]; simp [cmpB, h8])))) (by first | rfl | (rw [setsOp_t (by omega)]; done) | (rw [setsT_ge (by assumption)]; done) | (by_cases h8 : t.op = 8; (rw [setsOp_t (by omega)]; simp [cmpB, h8]); (rw [setsOp_f (by omega)]; simp [cmpB, h8]))), .box (by first | rfl | (rw [setsOp_t (by omega)]; done) | (rw [setsT_ge (by assumption)]; done) | (by_cases h8 : t.op = 8; (rw [setsOp_t (by omega)]; simp [cmpB, h8]); (rw [setsOp_f (by omega)]; simp [cmpB, h8]))) (.box (by first | rfl | (rw [setsOp_t (by omega)]; done) | (rw [setsT_ge (by assumption)]; done) | (by_cases h8 : t.op = 8; (rw [setsOp_t (by omega)]; simp [cmpB, h8]); (rw [setsOp_f (by omega)]; simp [cmpB, h8]))) (.nil)), rfl⟩
      ·have h5 := c_eql_f g5
       refine k_op0 (d := 32) (b := 385) (j' := 10) rfl rfl rfl rfl (g_ff rfl rfl rfl g5) (T_fa D (m := 0) rfl rfl rfl rfl rfl rfl) rfl ?_
       refine k_op0 (d := 33) (b := 401) (j' := 11) rfl rfl rfl rfl (g_ff rfl rfl rfl g5) (T_load_b D rfl rfl rfl rfl rfl rfl) rfl ?_
       refine k_op0 (d := 34) (b := 417) (j' := 12) rfl rfl rfl rfl (g_ff rfl rfl rfl g5) (T_cmp rfl rfl rfl rfl) rfl ?_
       refine q0 35 433 13 rfl rfl (T_pick_f rfl rfl rfl g5) rfl ?_
       refine q0 36 449 14 rfl rfl (T_move rfl rfl) rfl ?_
       refine k_split (d := 36) rfl (fun g6 => ?_) (fun g6 => ?_)
       ·have h6 := c_eql_t g6
        refine k_no (d := 37) (j' := 15) rfl rfl rfl (g_ft rfl rfl rfl g6) ?_
        refine k_no (d := 38) (j' := 16) rfl rfl rfl (g_ft rfl rfl rfl g6) ?_
        refine k_no (d := 39) (j' := 17) rfl rfl rfl (g_ft rfl rfl rfl g6) ?_
        refine q0 40 513 18 rfl rfl (T_pick_t rfl rfl rfl g6) rfl ?_
        refine q0 41 529 19 rfl rfl (T_move rfl rfl) rfl ?_
        refine k_no (d := 42) (j' := 20) rfl rfl rfl (g_ft rfl rfl rfl rfl) ?_
        refine k_no (d := 43) (j' := 21) rfl rfl rfl (g_ft rfl rfl rfl rfl) ?_
        refine k_no (d := 44) (j' := 22) rfl rfl rfl (g_ft rfl rfl rfl rfl) ?_
        refine q0 45 593 23 rfl rfl (T_pick_t rfl rfl rfl rfl) rfl ?_
        refine q0 46 609 24 rfl rfl (T_move rfl rfl) rfl ?_
        refine k_no (d := 47) (j' := 25) rfl rfl rfl (g_ft rfl rfl rfl rfl) ?_
        refine k_no (d := 48) (j' := 26) rfl rfl rfl (g_ft rfl rfl rfl rfl) ?_
        refine k_no (d := 49) (j' := 27) rfl rfl rfl (g_ft rfl rfl rfl rfl) ?_
        refine q0 50 673 28 rfl rfl (T_pick_t rfl rfl rfl rfl) rfl ?_
        refine q0 51 689 29 rfl rfl (T_move rfl rfl) rfl ?_
        refine k_no (d := 52) (j' := 30) rfl rfl rfl (g_ft rfl rfl rfl rfl) ?_
        refine k_no (d := 53) (j' := 31) rfl rfl rfl (g_ft rfl rfl rfl rfl) ?_
        refine k_no (d := 54) (j' := 32) rfl rfl rfl (g_ft rfl rfl rfl rfl) ?_
        refine q0 55 753 33 rfl rfl (T_pick_t rfl rfl rfl rfl) rfl ?_
        refine k_done rfl ?_
        refine thenK_n ?_
        refine ⟨(), by (try dsimp only); omega, ?_⟩
        exact ⟨[(1, 1), (2, 209)], .eq rfl (.eq rfl (.eq rfl (.same rfl rfl (.same rfl rfl (.eq rfl (.nil) (by first | rfl | (rw [setsOp_t (by omega)]; done) | (rw [setsT_ge (by assumption)]; done) | (by_cases h8 : t.op = 8; (rw [setsOp_t (by omega)]; simp [cmpB, h8]); (rw [setsOp_f (by omega)]; simp [cmpB, h8])))))) (by first | rfl | (rw [setsOp_t (by omega)]; done) | (rw [setsT_ge (by assumption)]; done) | (by_cases h8 : t.op = 8; (rw [setsOp_t (by omega)]; simp [cmpB, h8]); (rw [setsOp_f (by omega)]; simp [cmpB, h8])))) (by first | rfl | (rw [setsOp_t (by omega)]; done) | (rw [setsT_ge (by assumption)]; done) | (by_cases h8 : t.op = 8; (rw [setsOp_t (by omega)]; simp [cmpB, h8]); (rw [setsOp_f (by omega)]; simp [cmpB, h8])))) (by first | rfl | (rw [setsOp_t (by omega)]; done) | (rw [setsT_ge (by assumption)]; done) | (by_cases h8 : t.op = 8; (rw [setsOp_t (by omega)]; simp [cmpB, h8]); (rw [setsOp_f (by omega)]; simp [cmpB, h8]))), .box (by first | rfl | (rw [setsOp_t (by omega)]; done) | (rw [setsT_ge (by assumption)]; done) | (by_cases h8 : t.op = 8; (rw [setsOp_t (by omega)]; simp [cmpB, h8]); (rw [setsOp_f (by omega)]; simp [cmpB, h8]))) (.box (by first | rfl | (rw [setsOp_t (by omega)]; done) | (rw [setsT_ge (by assumption)]; done) | (by_cases h8 : t.op = 8; (rw [setsOp_t (by omega)]; simp [cmpB, h8]); (rw [setsOp_f (by omega)]; simp [cmpB, h8]))) (.nil)), rfl⟩
       ·have h6 := c_eql_f g6
        refine k_op0 (d := 37) (b := 465) (j' := 15) rfl rfl rfl rfl (g_ff rfl rfl rfl g6) (T_fa D (m := 0) rfl rfl rfl rfl rfl rfl) rfl ?_
        refine k_op0 (d := 38) (b := 481) (j' := 16) rfl rfl rfl rfl (g_ff rfl rfl rfl g6) (T_load_b D rfl rfl rfl rfl rfl rfl) rfl ?_
        refine k_op0 (d := 39) (b := 497) (j' := 17) rfl rfl rfl rfl (g_ff rfl rfl rfl g6) (T_cmp rfl rfl rfl rfl) rfl ?_
        refine q0 40 513 18 rfl rfl (T_pick_f rfl rfl rfl g6) rfl ?_
        refine q0 41 529 19 rfl rfl (T_move rfl rfl) rfl ?_
        refine k_split (d := 41) rfl (fun g7 => ?_) (fun g7 => ?_)
        ·have h7 := c_eql_t g7
         refine k_no (d := 42) (j' := 20) rfl rfl rfl (g_ft rfl rfl rfl g7) ?_
         refine k_no (d := 43) (j' := 21) rfl rfl rfl (g_ft rfl rfl rfl g7) ?_
         refine k_no (d := 44) (j' := 22) rfl rfl rfl (g_ft rfl rfl rfl g7) ?_
         refine q0 45 593 23 rfl rfl (T_pick_t rfl rfl rfl g7) rfl ?_
         refine q0 46 609 24 rfl rfl (T_move rfl rfl) rfl ?_
         refine k_no (d := 47) (j' := 25) rfl rfl rfl (g_ft rfl rfl rfl rfl) ?_
         refine k_no (d := 48) (j' := 26) rfl rfl rfl (g_ft rfl rfl rfl rfl) ?_
         refine k_no (d := 49) (j' := 27) rfl rfl rfl (g_ft rfl rfl rfl rfl) ?_
         refine q0 50 673 28 rfl rfl (T_pick_t rfl rfl rfl rfl) rfl ?_
         refine q0 51 689 29 rfl rfl (T_move rfl rfl) rfl ?_
         refine k_no (d := 52) (j' := 30) rfl rfl rfl (g_ft rfl rfl rfl rfl) ?_
         refine k_no (d := 53) (j' := 31) rfl rfl rfl (g_ft rfl rfl rfl rfl) ?_
         refine k_no (d := 54) (j' := 32) rfl rfl rfl (g_ft rfl rfl rfl rfl) ?_
         refine q0 55 753 33 rfl rfl (T_pick_t rfl rfl rfl rfl) rfl ?_
         refine k_done rfl ?_
         refine thenK_n ?_
         refine ⟨(), by (try dsimp only); omega, ?_⟩
         exact ⟨[(1, 1), (2, 209)], .eq rfl (.eq rfl (.eq rfl (.same rfl rfl (.same rfl rfl (.eq rfl (.nil) (by first | rfl | (rw [setsOp_t (by omega)]; done) | (rw [setsT_ge (by assumption)]; done) | (by_cases h8 : t.op = 8; (rw [setsOp_t (by omega)]; simp [cmpB, h8]); (rw [setsOp_f (by omega)]; simp [cmpB, h8])))))) (by first | rfl | (rw [setsOp_t (by omega)]; done) | (rw [setsT_ge (by assumption)]; done) | (by_cases h8 : t.op = 8; (rw [setsOp_t (by omega)]; simp [cmpB, h8]); (rw [setsOp_f (by omega)]; simp [cmpB, h8])))) (by first | rfl | (rw [setsOp_t (by omega)]; done) | (rw [setsT_ge (by assumption)]; done) | (by_cases h8 : t.op = 8; (rw [setsOp_t (by omega)]; simp [cmpB, h8]); (rw [setsOp_f (by omega)]; simp [cmpB, h8])))) (by first | rfl | (rw [setsOp_t (by omega)]; done) | (rw [setsT_ge (by assumption)]; done) | (by_cases h8 : t.op = 8; (rw [setsOp_t (by omega)]; simp [cmpB, h8]); (rw [setsOp_f (by omega)]; simp [cmpB, h8]))), .box (by first | rfl | (rw [setsOp_t (by omega)]; done) | (rw [setsT_ge (by assumption)]; done) | (by_cases h8 : t.op = 8; (rw [setsOp_t (by omega)]; simp [cmpB, h8]); (rw [setsOp_f (by omega)]; simp [cmpB, h8]))) (.box (by first | rfl | (rw [setsOp_t (by omega)]; done) | (rw [setsT_ge (by assumption)]; done) | (by_cases h8 : t.op = 8; (rw [setsOp_t (by omega)]; simp [cmpB, h8]); (rw [setsOp_f (by omega)]; simp [cmpB, h8]))) (.nil)), rfl⟩
        ·have h7 := c_eql_f g7
         refine k_op0 (d := 42) (b := 545) (j' := 20) rfl rfl rfl rfl (g_ff rfl rfl rfl g7) (T_fa D (m := 0) rfl rfl rfl rfl rfl rfl) rfl ?_
         refine k_op0 (d := 43) (b := 561) (j' := 21) rfl rfl rfl rfl (g_ff rfl rfl rfl g7) (T_load_b D rfl rfl rfl rfl rfl rfl) rfl ?_
         refine k_op0 (d := 44) (b := 577) (j' := 22) rfl rfl rfl rfl (g_ff rfl rfl rfl g7) (T_cmp rfl rfl rfl rfl) rfl ?_
         refine q0 45 593 23 rfl rfl (T_pick_f rfl rfl rfl g7) rfl ?_
         refine q0 46 609 24 rfl rfl (T_move rfl rfl) rfl ?_
         refine k_split (d := 46) rfl (fun g8 => ?_) (fun g8 => ?_)
         ·have h8 := c_eql_t g8
          refine k_no (d := 47) (j' := 25) rfl rfl rfl (g_ft rfl rfl rfl g8) ?_
          refine k_no (d := 48) (j' := 26) rfl rfl rfl (g_ft rfl rfl rfl g8) ?_
          refine k_no (d := 49) (j' := 27) rfl rfl rfl (g_ft rfl rfl rfl g8) ?_
          refine q0 50 673 28 rfl rfl (T_pick_t rfl rfl rfl g8) rfl ?_
          refine q0 51 689 29 rfl rfl (T_move rfl rfl) rfl ?_
          refine k_no (d := 52) (j' := 30) rfl rfl rfl (g_ft rfl rfl rfl rfl) ?_
          refine k_no (d := 53) (j' := 31) rfl rfl rfl (g_ft rfl rfl rfl rfl) ?_
          refine k_no (d := 54) (j' := 32) rfl rfl rfl (g_ft rfl rfl rfl rfl) ?_
          refine q0 55 753 33 rfl rfl (T_pick_t rfl rfl rfl rfl) rfl ?_
          refine k_done rfl ?_
          refine thenK_n ?_
          refine ⟨(), by (try dsimp only); omega, ?_⟩
          exact ⟨[(1, 1), (2, 209)], .eq rfl (.eq rfl (.eq rfl (.same rfl rfl (.same rfl rfl (.eq rfl (.nil) (by first | rfl | (rw [setsOp_t (by omega)]; done) | (rw [setsT_ge (by assumption)]; done) | (by_cases h8 : t.op = 8; (rw [setsOp_t (by omega)]; simp [cmpB, h8]); (rw [setsOp_f (by omega)]; simp [cmpB, h8])))))) (by first | rfl | (rw [setsOp_t (by omega)]; done) | (rw [setsT_ge (by assumption)]; done) | (by_cases h8 : t.op = 8; (rw [setsOp_t (by omega)]; simp [cmpB, h8]); (rw [setsOp_f (by omega)]; simp [cmpB, h8])))) (by first | rfl | (rw [setsOp_t (by omega)]; done) | (rw [setsT_ge (by assumption)]; done) | (by_cases h8 : t.op = 8; (rw [setsOp_t (by omega)]; simp [cmpB, h8]); (rw [setsOp_f (by omega)]; simp [cmpB, h8])))) (by first | rfl | (rw [setsOp_t (by omega)]; done) | (rw [setsT_ge (by assumption)]; done) | (by_cases h8 : t.op = 8; (rw [setsOp_t (by omega)]; simp [cmpB, h8]); (rw [setsOp_f (by omega)]; simp [cmpB, h8]))), .box (by first | rfl | (rw [setsOp_t (by omega)]; done) | (rw [setsT_ge (by assumption)]; done) | (by_cases h8 : t.op = 8; (rw [setsOp_t (by omega)]; simp [cmpB, h8]); (rw [setsOp_f (by omega)]; simp [cmpB, h8]))) (.box (by first | rfl | (rw [setsOp_t (by omega)]; done) | (rw [setsT_ge (by assumption)]; done) | (by_cases h8 : t.op = 8; (rw [setsOp_t (by omega)]; simp [cmpB, h8]); (rw [setsOp_f (by omega)]; simp [cmpB, h8]))) (.nil)), rfl⟩
         ·have h8 := c_eql_f g8
          refine k_op0 (d := 47) (b := 625) (j' := 25) rfl rfl rfl rfl (g_ff rfl rfl rfl g8) (T_fa D (m := 0) rfl rfl rfl rfl rfl rfl) rfl ?_
          refine k_op0 (d := 48) (b := 641) (j' := 26) rfl rfl rfl rfl (g_ff rfl rfl rfl g8) (T_load_b D rfl rfl rfl rfl rfl rfl) rfl ?_
          refine k_op0 (d := 49) (b := 657) (j' := 27) rfl rfl rfl rfl (g_ff rfl rfl rfl g8) (T_cmp rfl rfl rfl rfl) rfl ?_
          refine q0 50 673 28 rfl rfl (T_pick_f rfl rfl rfl g8) rfl ?_
          refine q0 51 689 29 rfl rfl (T_move rfl rfl) rfl ?_
          refine k_split (d := 51) rfl (fun g9 => ?_) (fun g9 => ?_)
          ·have h9 := c_eql_t g9
           refine k_no (d := 52) (j' := 30) rfl rfl rfl (g_ft rfl rfl rfl g9) ?_
           refine k_no (d := 53) (j' := 31) rfl rfl rfl (g_ft rfl rfl rfl g9) ?_
           refine k_no (d := 54) (j' := 32) rfl rfl rfl (g_ft rfl rfl rfl g9) ?_
           refine q0 55 753 33 rfl rfl (T_pick_t rfl rfl rfl g9) rfl ?_
           refine k_done rfl ?_
           refine thenK_n ?_
           refine ⟨(), by (try dsimp only); omega, ?_⟩
           exact ⟨[(1, 1), (2, 209)], .eq rfl (.eq rfl (.eq rfl (.same rfl rfl (.same rfl rfl (.eq rfl (.nil) (by first | rfl | (rw [setsOp_t (by omega)]; done) | (rw [setsT_ge (by assumption)]; done) | (by_cases h8 : t.op = 8; (rw [setsOp_t (by omega)]; simp [cmpB, h8]); (rw [setsOp_f (by omega)]; simp [cmpB, h8])))))) (by first | rfl | (rw [setsOp_t (by omega)]; done) | (rw [setsT_ge (by assumption)]; done) | (by_cases h8 : t.op = 8; (rw [setsOp_t (by omega)]; simp [cmpB, h8]); (rw [setsOp_f (by omega)]; simp [cmpB, h8])))) (by first | rfl | (rw [setsOp_t (by omega)]; done) | (rw [setsT_ge (by assumption)]; done) | (by_cases h8 : t.op = 8; (rw [setsOp_t (by omega)]; simp [cmpB, h8]); (rw [setsOp_f (by omega)]; simp [cmpB, h8])))) (by first | rfl | (rw [setsOp_t (by omega)]; done) | (rw [setsT_ge (by assumption)]; done) | (by_cases h8 : t.op = 8; (rw [setsOp_t (by omega)]; simp [cmpB, h8]); (rw [setsOp_f (by omega)]; simp [cmpB, h8]))), .box (by first | rfl | (rw [setsOp_t (by omega)]; done) | (rw [setsT_ge (by assumption)]; done) | (by_cases h8 : t.op = 8; (rw [setsOp_t (by omega)]; simp [cmpB, h8]); (rw [setsOp_f (by omega)]; simp [cmpB, h8]))) (.box (by first | rfl | (rw [setsOp_t (by omega)]; done) | (rw [setsT_ge (by assumption)]; done) | (by_cases h8 : t.op = 8; (rw [setsOp_t (by omega)]; simp [cmpB, h8]); (rw [setsOp_f (by omega)]; simp [cmpB, h8]))) (.nil)), rfl⟩
          ·have h9 := c_eql_f g9
           refine k_op0 (d := 52) (b := 705) (j' := 30) rfl rfl rfl rfl (g_ff rfl rfl rfl g9) (T_fa D (m := 0) rfl rfl rfl rfl rfl rfl) rfl ?_
           refine k_op0 (d := 53) (b := 721) (j' := 31) rfl rfl rfl rfl (g_ff rfl rfl rfl g9) (T_load_b D rfl rfl rfl rfl rfl rfl) rfl ?_
           refine k_op0 (d := 54) (b := 737) (j' := 32) rfl rfl rfl rfl (g_ff rfl rfl rfl g9) (T_cmp rfl rfl rfl rfl) rfl ?_
           refine q0 55 753 33 rfl rfl (T_pick_f rfl rfl rfl g9) rfl ?_
           refine k_done rfl ?_
           refine thenK_n ?_
           refine ⟨(), by (try dsimp only); omega, ?_⟩
           exact ⟨[(1, 1), (2, 209)], .eq rfl (.eq rfl (.eq rfl (.same rfl rfl (.same rfl rfl (.eq rfl (.nil) (by first | rfl | (rw [setsOp_t (by omega)]; done) | (rw [setsT_ge (by assumption)]; done) | (by_cases h8 : t.op = 8; (rw [setsOp_t (by omega)]; simp [cmpB, h8]); (rw [setsOp_f (by omega)]; simp [cmpB, h8])))))) (by first | rfl | (rw [setsOp_t (by omega)]; done) | (rw [setsT_ge (by assumption)]; done) | (by_cases h8 : t.op = 8; (rw [setsOp_t (by omega)]; simp [cmpB, h8]); (rw [setsOp_f (by omega)]; simp [cmpB, h8])))) (by first | rfl | (rw [setsOp_t (by omega)]; done) | (rw [setsT_ge (by assumption)]; done) | (by_cases h8 : t.op = 8; (rw [setsOp_t (by omega)]; simp [cmpB, h8]); (rw [setsOp_f (by omega)]; simp [cmpB, h8])))) (by first | rfl | (rw [setsOp_t (by omega)]; done) | (rw [setsT_ge (by assumption)]; done) | (by_cases h8 : t.op = 8; (rw [setsOp_t (by omega)]; simp [cmpB, h8]); (rw [setsOp_f (by omega)]; simp [cmpB, h8]))), .box (by first | rfl | (rw [setsOp_t (by omega)]; done) | (rw [setsT_ge (by assumption)]; done) | (by_cases h8 : t.op = 8; (rw [setsOp_t (by omega)]; simp [cmpB, h8]); (rw [setsOp_f (by omega)]; simp [cmpB, h8]))) (.box (by first | rfl | (rw [setsOp_t (by omega)]; done) | (rw [setsT_ge (by assumption)]; done) | (by_cases h8 : t.op = 8; (rw [setsOp_t (by omega)]; simp [cmpB, h8]); (rw [setsOp_f (by omega)]; simp [cmpB, h8]))) (.nil)), rfl⟩
    refine W_cond rfl (fun g10 => ?_) (fun g10 => ?_)
    ·have h10 := g10; (try simp only [cmpB, decide_eq_true_eq, decide_eq_false_iff_not, beq_iff_eq, beq_eq_false_iff_ne, bne_iff_ne, ne_eq, bne_eq_false_iff_eq, Bool.not_eq_true', Bool.not_eq_false', Int.not_lt, Int.not_le] at h10)
     refine W_seq ?_
     refine W_seqK (b' := 67) rfl rfl ?_
     refine q0 56 3 1 rfl rfl (T_fa D (m := 1) rfl rfl rfl rfl rfl rfl) rfl ?_
     refine q0 57 19 2 rfl rfl (T_load_b D rfl rfl rfl rfl rfl rfl) rfl ?_
     refine q0 58 35 3 rfl rfl (T_fa D (m := 1) rfl rfl rfl rfl rfl rfl) rfl ?_
     refine s1 51 4 rfl rfl (T_stB D (cs' := [_, _, _, _, _, _, _, _]) rfl rfl rfl rfl (flat_v rfl) rfl rfl (Nat.le_of_ble_eq_true rfl) rfl) rfl ?_
     refine k_done rfl ?_
     refine thenK_n ?_
     refine W_seq ?_
     refine W_seqK (b' := 147) rfl rfl ?_
     refine q0 59 67 1 rfl rfl (T_fa D (m := 1) rfl rfl rfl rfl rfl rfl) rfl ?_
     refine q0 60 83 2 rfl rfl (T_load_b D rfl rfl rfl rfl rfl rfl) rfl ?_
     refine q0 61 99 3 rfl rfl (T_move rfl rfl) rfl ?_
     refine q0 62 115 4 rfl rfl (T_callV (lvs := [_, _]) (L := []) (within_spec _ _) body125 rfl rfl rfl rfl (.nil) rfl) rfl ?_
     refine q0 63 131 5 rfl rfl (T_not rfl rfl) rfl ?_
     refine k_done rfl ?_
     refine thenK_n ?_
     refine W_cond rfl (fun g11 => ?_) (fun g11 => ?_)
     ·have h11 := g11; (try simp only [cmpB, decide_eq_true_eq, decide_eq_false_iff_not, beq_iff_eq, beq_eq_false_iff_ne, bne_iff_ne, ne_eq, bne_eq_false_iff_eq, Bool.not_eq_true', Bool.not_eq_false', Int.not_lt, Int.not_le] at h11)
      refine W_seq ?_
      refine W_seqK (b' := 163) rfl rfl ?_
      refine q0 8 147 1 rfl rfl (T_assign rfl rfl) rfl ?_
      refine k_done rfl ?_
      refine thenK_n ?_
      refine W_ret ?_
      refine thenK_r ?_
      exact .mk [] (.inr rfl) (.tmp rfl (.nil)) (by first | rfl | (simp only [resLV, LV.ren, LV.v.injEq, Value.bool.injEq]; refine fits_no (fun hF => ?_); obtain ⟨a1, a2, a3, a4, a5, a6, a7, a8⟩ := hF; first | omega | (have k4 := a4 (by omega); omega) | (have k6 := a6 (by omega); omega) | exact absurd ((a2 (by assumption)).symm.trans (by assumption : _ = false)) (by decide) | exact absurd ((a5 (by omega)).symm.trans (by assumption : _ = false)) (by decide) | exact absurd ((a7 (by omega)).symm.trans (by assumption : _ = false)) (by decide) | exact absurd ((a3 _ (getD_mem (i := j) (by omega))).symm.trans (by assumption : _ = false)) (by decide)) | (simp only [resLV, LV.ren, LV.v.injEq, Value.bool.injEq]; exact fits_fin hj18 (fun _ => by omega) (fun _ => by first | assumption | (exfalso; omega)) (fun _ => by omega) (fun _ => by first | assumption | (exfalso; omega)) (by first | exact (if_pos (by omega)).symm | exact (if_neg (by omega)).symm) (by first | exact (if_pos (by omega)).symm | exact (if_neg (by omega)).symm) (by first | exact (if_pos (by omega)).symm | exact (if_neg (by omega)).symm) (by first | exact (if_pos (by omega)).symm | exact (if_neg (by omega)).symm))) (.nil) rfl
     ·have h11 := g11; (try simp only [cmpB, decide_eq_true_eq, decide_eq_false_iff_not, beq_iff_eq, beq_eq_false_iff_ne, bne_iff_ne, ne_eq, bne_eq_false_iff_eq, Bool.not_eq_true', Bool.not_eq_false', Int.not_lt, Int.not_le] at h11)
      refine W_skip ?_
      refine thenK_n ?_
      refine ⟨(), by (try dsimp only); exact ⟨hj5, fun hs => by first | assumption | exact absurd (hs.symm.trans (by assumption : _ = false)) (by decide)⟩, ?_⟩
      exact ⟨[(1, 1), (2, 2)], .eq rfl (.eq rfl (.eq rfl (.same rfl rfl (.same rfl rfl (.nil))) (by first | rfl | (rw [if_pos (by assumption)]; first | done | rfl) | (rw [if_neg (fun hs => absurd (hs.symm.trans (by assumption : _ = false)) (by decide))]; first | done | rfl))) (by first | rfl | (rw [if_pos (by assumption)]; first | done | rfl) | (rw [if_neg (fun hs => absurd (hs.symm.trans (by assumption : _ = false)) (by decide))]; first | done | rfl))) (by first | rfl | (rw [if_pos (by assumption)]; first | done | rfl) | (rw [if_neg (fun hs => absurd (hs.symm.trans (by assumption : _ = false)) (by decide))]; first | done | rfl)), .box (by first | rfl | (rw [if_pos (by assumption)]; first | done | rfl) | (rw [if_neg (fun hs => absurd (hs.symm.trans (by assumption : _ = false)) (by decide))]; first | done | rfl)) (.box (by first | rfl | (rw [if_pos (by assumption)]; first | done | rfl) | (rw [if_neg (fun hs => absurd (hs.symm.trans (by assumption : _ = false)) (by decide))]; first | done | rfl)) (.nil)), rfl⟩
    ·have h10 := g10; (try simp only [cmpB, decide_eq_true_eq, decide_eq_false_iff_not, beq_iff_eq, beq_eq_false_iff_ne, bne_iff_ne, ne_eq, bne_eq_false_iff_eq, Bool.not_eq_true', Bool.not_eq_false', Int.not_lt, Int.not_le] at h10)
     refine W_skip ?_
     refine thenK_n ?_
     refine ⟨(), by (try dsimp only); exact ⟨hj5, fun hs => by first | assumption | exact absurd (hs.symm.trans (by assumption : _ = false)) (by decide)⟩, ?_⟩
     exact ⟨[(1, 1), (2, 2)], .eq rfl (.eq rfl (.eq rfl (.same rfl rfl (.same rfl rfl (.nil))) (by first | rfl | (rw [if_pos (by assumption)]; first | done | rfl) | (rw [if_neg (fun hs => absurd (hs.symm.trans (by assumption : _ = false)) (by decide))]; first | done | rfl))) (by first | rfl | (rw [if_pos (by assumption)]; first | done | rfl) | (rw [if_neg (fun hs => absurd (hs.symm.trans (by assumption : _ = false)) (by decide))]; first | done | rfl))) (by first | rfl | (rw [if_pos (by assumption)]; first | done | rfl) | (rw [if_neg (fun hs => absurd (hs.symm.trans (by assumption : _ = false)) (by decide))]; first | done | rfl)), .box (by first | rfl | (rw [if_pos (by assumption)]; first | done | rfl) | (rw [if_neg (fun hs => absurd (hs.symm.trans (by assumption : _ = false)) (by decide))]; first | done | rfl)) (.box (by first | rfl | (rw [if_pos (by assumption)]; first | done | rfl) | (rw [if_neg (fun hs => absurd (hs.symm.trans (by assumption : _ = false)) (by decide))]; first | done | rfl)) (.nil)), rfl⟩
   refine W_seq ?_
   refine W_seqK (b' := 51) rfl rfl ?_
   refine q0 64 3 1 rfl rfl (T_load_bA D (l := [_, _, _, _, _, _, _, _]) rfl rfl rfl rfl rfl rfl rfl) rfl ?_
   refine q1 65 19 2 rfl rfl (T_callR (lvs := [_]) (L := []) (keep := false) (uses_spec _) body60 rfl rfl rfl rfl (.nil) rfl (.inl rfl) rfl) rfl ?_
   refine q0 10 35 3 rfl rfl (T_assign rfl rfl) rfl ?_
   refine k_done rfl ?_
   refine thenK_n ?_
   refine W_seq ?_
   refine W_seq ?_
   refine W_seqK (b' := 67) rfl rfl ?_
   refine q0 11 51 1 rfl rfl (T_assign rfl rfl) rfl ?_
   refine k_done rfl ?_
   refine thenK_n ?_
   refine W_block ?_
   refine W_loop (ι := Nat) 4 (fun j => ⟨[(1, .v (.int .i64 f)), (2, .v (.int .i64 regs)), (3, .v (.int .i64 words)), (4, .p 1 0), (9, .p 2 0), (10, .r 3), (11, .v (.int .i64 (j : Int)))], [(1, .box 70 [.v (.int .i64 t.op), .v (.int .i64 t.d), .v (.int .i64 t.a), .v (.int .i64 t.b), .v (.int .i64 t.k), .v (.int .i64 t.base), .v (.int .i64 t.size), .v (.int .u32 t.n)]), (2, .box 70 [.v (.int .i64 t.op), .v (.int .i64 (if setsOp t.op = true then t.d else 0)), .v (.int .i64 0), .v (.int .i64 0), .v (.int .i64 0), .v (.int .i64 0), .v (.int .i64 0), .v (.int .u32 0)]), (3, .row 3 1 ((usesT t).map eI))]⟩) (fun j => j ≤ (usesT t).length ∧ ∀ i, i < j → withinB ((usesT t).getD i default) regs = true) (fun j => (usesT t).length - j) (0) (by exact ⟨Nat.zero_le _, fun i h => absurd h (Nat.not_lt_zero _)⟩) ?_ (fun j hJ => ?_)
   ·exact ⟨[(1, 1), (2, 2), (3, 19)], .eq rfl (.eq rfl (.eq rfl (.same rfl rfl (.same rfl rfl (.same rfl rfl (.eq rfl (.nil) (by first | rfl | simp))))) (by first | rfl | simp)) (by first | rfl | simp)) (by first | rfl | simp), .box (by first | rfl | simp) (.box (by first | rfl | simp) (.rowE rfl (.nil) (by first | rfl | simp))), rfl⟩
   have hul := usesT_le t
   refine W_seq ?_
   refine W_seq ?_
   refine W_seqK (b' := 68) rfl rfl ?_
   refine q0 66 4 1 rfl rfl (T_move rfl rfl) rfl ?_
   refine q0 67 20 2 rfl rfl (T_move rfl rfl) rfl ?_
   refine q0 68 36 3 rfl rfl (T_len D rfl rfl rfl rfl rfl rfl) rfl ?_
   refine q0 69 52 4 rfl rfl (T_cmp rfl rfl rfl rfl) rfl ?_
   refine k_done rfl ?_
   refine thenK_n ?_
   refine W_cond rfl (fun g12 => ?_) (fun g12 => ?_)
   ·have h12 := c_lss_t g12
    refine W_skip ?_
    refine thenK_n ?_
    refine W_seq ?_
    refine W_block ?_
    refine W_seq ?_
    refine W_seqK (b' := 180) rfl rfl ?_
    refine q0 72 68 1 rfl rfl (T_move rfl rfl) rfl ?_
    refine q0 73 84 2 rfl rfl (T_move rfl rfl) rfl ?_
    first | refine q0 74 100 3 rfl rfl (T_indexAddr D rfl rfl rfl rfl rfl rfl rfl rfl (by first | assumption | omega | (simp; omega))) rfl ?_ | refine q0 74 100 3 rfl rfl (T_indexAddrZ D rfl rfl rfl rfl rfl rfl rfl rfl (by first | assumption | omega | (simp; omega)) (by first | assumption | omega | (simp; omega))) rfl ?_
    refine q0 75 116 4 rfl rfl (T_ldE D (lv := .v _) (nn := 0) (upd := []) rfl rfl rfl rfl rfl (by first | assumption | omega | (simp; omega)) rfl rfl rfl rfl) rfl ?_
    refine q0 76 132 5 rfl rfl (T_move rfl rfl) rfl ?_
    refine q0 77 148 6 rfl rfl (T_callV (lvs := [_, _]) (L := []) (within_spec _ _) body125 rfl rfl rfl rfl (.nil) rfl) rfl ?_
    refine q0 78 164 7 rfl rfl (T_not rfl rfl) rfl ?_
    refine k_done rfl ?_
    refine thenK_n ?_
    refine W_cond rfl (fun g13 => ?_) (fun g13 => ?_)
    ·have h13 := g13; (try simp only [cmpB, decide_eq_true_eq, decide_eq_false_iff_not, beq_iff_eq, beq_eq_false_iff_ne, bne_iff_ne, ne_eq, bne_eq_false_iff_eq, Bool.not_eq_true', Bool.not_eq_false', Int.not_lt, Int.not_le] at h13)
     refine W_seq ?_
     refine W_seqK (b' := 196) rfl rfl ?_
     refine q0 8 180 1 rfl rfl (T_assign rfl rfl) rfl ?_
     refine k_done rfl ?_
     refine thenK_n ?_
     refine W_ret ?_
     refine blockK_r ?_
     refine thenK_r ?_
     refine thenK_r ?_
     refine blockK_r ?_
     refine thenK_r ?_
     exact .mk [] (.inr rfl) (.tmp rfl (.nil)) (by first | rfl | (simp only [resLV, LV.ren, LV.v.injEq, Value.bool.injEq]; refine fits_no (fun hF => ?_); obtain ⟨a1, a2, a3, a4, a5, a6, a7, a8⟩ := hF; first | omega | (have k4 := a4 (by omega); omega) | (have k6 := a6 (by omega); omega) | exact absurd ((a2 (by assumption)).symm.trans (by assumption : _ = false)) (by decide) | exact absurd ((a5 (by omega)).symm.trans (by assumption : _ = false)) (by decide) | exact absurd ((a7 (by omega)).symm.trans (by assumption : _ = false)) (by decide) | exact absurd ((a3 _ (getD_mem (i := j) (by omega))).symm.trans (by assumption : _ = false)) (by decide)) | (simp only [resLV, LV.ren, LV.v.injEq, Value.bool.injEq]; exact fits_fin hj18 (fun _ => by omega) (fun _ => by first | assumption | (exfalso; omega)) (fun _ => by omega) (fun _ => by first | assumption | (exfalso; omega)) (by first | exact (if_pos (by omega)).symm | exact (if_neg (by omega)).symm) (by first | exact (if_pos (by omega)).symm | exact (if_neg (by omega)).symm) (by first | exact (if_pos (by omega)).symm | exact (if_neg (by omega)).symm) (by first | exact (if_pos (by omega)).symm | exact (if_neg (by omega)).symm))) (.nil) rfl
    ·have h13 := g13; (try simp only [cmpB, decide_eq_true_eq, decide_eq_false_iff_not, beq_iff_eq, beq_eq_false_iff_ne, bne_iff_ne, ne_eq, bne_eq_false_iff_eq, Bool.not_eq_true', Bool.not_eq_false', Int.not_lt, Int.not_le] at h13)
     refine W_skip ?_
     refine blockK_n ?_
     refine thenK_n ?_
     refine W_seqK (b' := 228) rfl rfl ?_
     refine q0 70 180 1 rfl rfl (T_move rfl rfl) rfl ?_
     refine q0 71 196 2 rfl rfl (T_add64 rfl rfl rfl (by first | assumption | omega | (simp; omega))) rfl ?_
     refine q0 11 212 3 rfl rfl (T_assign rfl rfl) rfl ?_
     refine k_done rfl ?_
     refine thenK_n ?_
     refine ⟨j + 1, by (try dsimp only); exact ⟨by omega, fun i hi => by rcases Nat.lt_or_ge i j with h | h; exact hJ.2 i h; rw [show i = j by omega]; assumption⟩, by (try dsimp only); omega, ?_⟩
     exact ⟨[(1, 1), (2, 2), (3, 3)], .eq rfl (.eq rfl (.eq rfl (.same rfl rfl (.same rfl rfl (.same rfl rfl (.eq rfl (.nil) (by first | rfl | simp))))) rfl) rfl) rfl, .box (by first | rfl | simp) (.box (by first | rfl | simp) (.rowE rfl (.nil) (by first | rfl | simp))), rfl⟩
   ·have h12 := c_lss_f g12
    refine W_exit ?_
    refine thenK_e ?_
    refine thenK_e ?_
    refine blockK_hit ?_
    refine thenK_n ?_
    refine W_join (ι := Unit) 4 (fun _u => ⟨[(1, .v (.int .i64 f)), (3, .v (.int .i64 words)), (4, .p 1 0), (9, .p 2 0), (10, .r 3)], [(1, .box 70 [.v (.int .i64 t.op), .v (.int .i64 t.d), .v (.int .i64 t.a), .v (.int .i64 t.b), .v (.int .i64 t.k), .v (.int .i64 t.base), .v (.int .i64 t.size), .v (.int .u32 t.n)]), (2, .box 70 [.v (.int .i64 t.op), .v (.int .i64 (if setsOp t.op = true then t.d else 0)), .v (.int .i64 (if 0 < (usesT t).length then t.a else 0)), .v (.int .i64 0), .v (.int .i64 0), .v (.int .i64 0), .v (.int .i64 0), .v (.int .u32 0)]), (3, .row 3 1 ((usesT t).map eI))]⟩) (fun _ => (1 ≤ t.op ∧ t.op ≤ 10) ∧ (setsOp t.op = true → withinB t.d regs = true) ∧ (∀ u ∈ usesT t, withinB u regs = true)) ?_ (fun _u hj16 => ?_)
    ·skip
     refine W_seq ?_
     refine W_seqK (b' := 116) rfl rfl ?_
     refine q0 79 68 1 rfl rfl (T_move rfl rfl) rfl ?_
     refine q0 80 84 2 rfl rfl (T_len D rfl rfl rfl rfl rfl rfl) rfl ?_
     refine q0 81 100 3 rfl rfl (T_cmp rfl rfl rfl rfl) rfl ?_
     refine k_done rfl ?_
     refine thenK_n ?_
     refine W_cond rfl (fun g14 => ?_) (fun g14 => ?_)
     ·have h14 := c_gtr_t g14
      refine W_seqK (b' := 180) rfl rfl ?_
      refine q0 82 116 1 rfl rfl (T_fa D (m := 2) rfl rfl rfl rfl rfl rfl) rfl ?_
      refine q0 83 132 2 rfl rfl (T_load_b D rfl rfl rfl rfl rfl rfl) rfl ?_
      refine q0 84 148 3 rfl rfl (T_fa D (m := 2) rfl rfl rfl rfl rfl rfl) rfl ?_
      refine s1 164 4 rfl rfl (T_stB D (cs' := [_, _, _, _, _, _, _, _]) rfl rfl rfl rfl (flat_v rfl) rfl rfl (Nat.le_of_ble_eq_true rfl) rfl) rfl ?_
      refine k_done rfl ?_
      refine thenK_n ?_
      refine ⟨(), by (try dsimp only); exact ⟨hj8.1, hj8.2, fun u hu => by obtain ⟨i, hi, rfl⟩ := mem_getD hu; exact hJ.2 i (by omega)⟩, ?_⟩
      exact ⟨[(1, 1), (2, 2), (3, 3)], .eq rfl (.eq rfl (.same rfl rfl (.same rfl rfl (.same rfl rfl (.nil)))) (by first | rfl | (rw [if_pos (show 0 < (usesT t).length by omega)]; first | done | rfl) | (rw [if_neg (show ¬ 0 < (usesT t).length by omega)]; first | done | rfl))) (by first | rfl | (rw [if_pos (show 0 < (usesT t).length by omega)]; first | done | rfl) | (rw [if_neg (show ¬ 0 < (usesT t).length by omega)]; first | done | rfl)), .box (by first | rfl | (rw [if_pos (show 0 < (usesT t).length by omega)]; first | done | rfl) | (rw [if_neg (show ¬ 0 < (usesT t).length by omega)]; first | done | rfl)) (.box (by first | rfl | (rw [if_pos (show 0 < (usesT t).length by omega)]; first | done | rfl) | (rw [if_neg (show ¬ 0 < (usesT t).length by omega)]; first | done | rfl)) (.rowE rfl (.nil) (by first | rfl | (rw [if_pos (show 0 < (usesT t).length by omega)]; first | done | rfl) | (rw [if_neg (show ¬ 0 < (usesT t).length by omega)]; first | done | rfl)))), rfl⟩
     ·have h14 := c_gtr_f g14
      refine W_skip ?_
      refine thenK_n ?_
      refine ⟨(), by (try dsimp only); exact ⟨hj8.1, hj8.2, fun u hu => by obtain ⟨i, hi, rfl⟩ := mem_getD hu; exact hJ.2 i (by omega)⟩, ?_⟩
      exact ⟨[(1, 1), (2, 2), (3, 3)], .eq rfl (.eq rfl (.same rfl rfl (.same rfl rfl (.same rfl rfl (.nil)))) (by first | rfl | (rw [if_pos (show 0 < (usesT t).length by omega)]; first | done | rfl) | (rw [if_neg (show ¬ 0 < (usesT t).length by omega)]; first | done | rfl))) (by first | rfl | (rw [if_pos (show 0 < (usesT t).length by omega)]; first | done | rfl) | (rw [if_neg (show ¬ 0 < (usesT t).length by omega)]; first | done | rfl)), .box (by first | rfl | (rw [if_pos (show 0 < (usesT t).length by omega)]; first | done | rfl) | (rw [if_neg (show ¬ 0 < (usesT t).length by omega)]; first | done | rfl)) (.box (by first | rfl | (rw [if_pos (show 0 < (usesT t).length by omega)]; first | done | rfl) | (rw [if_neg (show ¬ 0 < (usesT t).length by omega)]; first | done | rfl)) (.rowE rfl (.nil) (by first | rfl | (rw [if_pos (show 0 < (usesT t).length by omega)]; first | done | rfl) | (rw [if_neg (show ¬ 0 < (usesT t).length by omega)]; first | done | rfl)))), rfl⟩
    refine W_join (ι := Unit) 3 (fun _u => ⟨[(1, .v (.int .i64 f)), (3, .v (.int .i64 words)), (4, .p 1 0), (9, .p 2 0)], [(1, .box 70 [.v (.int .i64 t.op), .v (.int .i64 t.d), .v (.int .i64 t.a), .v (.int .i64 t.b), .v (.int .i64 t.k), .v (.int .i64 t.base), .v (.int .i64 t.size), .v (.int .u32 t.n)]), (2, .box 70 [.v (.int .i64 t.op), .v (.int .i64 (if setsOp t.op = true then t.d else 0)), .v (.int .i64 (if 0 < (usesT t).length then t.a else 0)), .v (.int .i64 (if 1 < (usesT t).length then t.b else 0)), .v (.int .i64 0), .v (.int .i64 0), .v (.int .i64 0), .v (.int .u32 0)])]⟩) (fun _ => (1 ≤ t.op ∧ t.op ≤ 10) ∧ (setsOp t.op = true → withinB t.d regs = true) ∧ (∀ u ∈ usesT t, withinB u regs = true)) ?_ (fun _u hj18 => ?_)
    ·skip
     refine W_seq ?_
     refine W_seqK (b' := 52) rfl rfl ?_
     refine q0 85 4 1 rfl rfl (T_move rfl rfl) rfl ?_
     refine q0 86 20 2 rfl rfl (T_len D rfl rfl rfl rfl rfl rfl) rfl ?_
     refine q0 87 36 3 rfl rfl (T_cmp rfl rfl rfl rfl) rfl ?_
     refine k_done rfl ?_
     refine thenK_n ?_
     refine W_cond rfl (fun g15 => ?_) (fun g15 => ?_)
     ·have h15 := c_gtr_t g15
      refine W_seqK (b' := 116) rfl rfl ?_
      refine q0 88 52 1 rfl rfl (T_fa D (m := 3) rfl rfl rfl rfl rfl rfl) rfl ?_
      refine q0 89 68 2 rfl rfl (T_load_b D rfl rfl rfl rfl rfl rfl) rfl ?_
      refine q0 90 84 3 rfl rfl (T_fa D (m := 3) rfl rfl rfl rfl rfl rfl) rfl ?_
      refine s1 100 4 rfl rfl (T_stB D (cs' := [_, _, _, _, _, _, _, _]) rfl rfl rfl rfl (flat_v rfl) rfl rfl (Nat.le_of_ble_eq_true rfl) rfl) rfl ?_
      refine k_done rfl ?_
      refine thenK_n ?_
      refine ⟨(), by (try dsimp only); exact hj16, ?_⟩
      exact ⟨[(1, 1), (2, 2)], .eq rfl (.eq rfl (.same rfl rfl (.same rfl rfl (.nil))) (by first | rfl | (rw [if_pos (show 1 < (usesT t).length by omega)]; first | done | rfl) | (rw [if_neg (show ¬ 1 < (usesT t).length by omega)]; first | done | rfl))) (by first | rfl | (rw [if_pos (show 1 < (usesT t).length by omega)]; first | done | rfl) | (rw [if_neg (show ¬ 1 < (usesT t).length by omega)]; first | done | rfl)), .box (by first | rfl | (rw [if_pos (show 1 < (usesT t).length by omega)]; first | done | rfl) | (rw [if_neg (show ¬ 1 < (usesT t).length by omega)]; first | done | rfl)) (.box (by first | rfl | (rw [if_pos (show 1 < (usesT t).length by omega)]; first | done | rfl) | (rw [if_neg (show ¬ 1 < (usesT t).length by omega)]; first | done | rfl)) (.nil)), rfl⟩
     ·have h15 := c_gtr_f g15
      refine W_skip ?_
      refine thenK_n ?_
      refine ⟨(), by (try dsimp only); exact hj16, ?_⟩
      exact ⟨[(1, 1), (2, 2)], .eq rfl (.eq rfl (.same rfl rfl (.same rfl rfl (.nil))) (by first | rfl | (rw [if_pos (show 1 < (usesT t).length by omega)]; first | done | rfl) | (rw [if_neg (show ¬ 1 < (usesT t).length by omega)]; first | done | rfl))) (by first | rfl | (rw [if_pos (show 1 < (usesT t).length by omega)]; first | done | rfl) | (rw [if_neg (show ¬ 1 < (usesT t).length by omega)]; first | done | rfl)), .box (by first | rfl | (rw [if_pos (show 1 < (usesT t).length by omega)]; first | done | rfl) | (rw [if_neg (show ¬ 1 < (usesT t).length by omega)]; first | done | rfl)) (.box (by first | rfl | (rw [if_pos (show 1 < (usesT t).length by omega)]; first | done | rfl) | (rw [if_neg (show ¬ 1 < (usesT t).length by omega)]; first | done | rfl)) (.nil)), rfl⟩
    refine W_seq ?_
    refine W_seq ?_
    refine W_seqK (b' := 35) rfl rfl ?_
    refine q0 91 3 1 rfl rfl (T_fa D (m := 0) rfl rfl rfl rfl rfl rfl) rfl ?_
    refine q0 92 19 2 rfl rfl (T_load_b D rfl rfl rfl rfl rfl rfl) rfl ?_
    refine k_done rfl ?_
    refine thenK_n ?_
    refine W_block ?_
    refine W_seq ?_
    refine W_seqK (b' := 67) rfl rfl ?_
    refine q0 94 35 1 rfl rfl (T_cmp rfl rfl rfl rfl) rfl ?_
    refine q0 93 51 2 rfl rfl (T_assign rfl rfl) rfl ?_
    refine k_done rfl ?_
    refine thenK_n ?_
    refine W_cond rfl (fun g16 => ?_) (fun g16 => ?_)
    ·have h16 := c_eql_t g16
     refine W_seqK (b' := 131) rfl rfl ?_
     refine q0 95 67 1 rfl rfl (T_fa D (m := 7) rfl rfl rfl rfl rfl rfl) rfl ?_
     refine q0 96 83 2 rfl rfl (T_load_b D rfl rfl rfl rfl rfl rfl) rfl ?_
     refine q0 97 99 3 rfl rfl (T_fa D (m := 7) rfl rfl rfl rfl rfl rfl) rfl ?_
     refine s1 115 4 rfl rfl (T_stB D (cs' := [_, _, _, _, _, _, _, _]) rfl rfl rfl rfl (flat_v rfl) rfl rfl (Nat.le_of_ble_eq_true rfl) rfl) rfl ?_
     refine k_done rfl ?_
     refine blockK_n ?_
     refine thenK_n ?_
     refine W_seq ?_
     refine W_seqK (b' := 195) rfl rfl ?_
     refine q0 163 131 1 rfl rfl (T_load_bA D (l := [_, _, _, _, _, _, _, _]) rfl rfl rfl rfl rfl rfl rfl) rfl ?_
     refine q0 164 147 2 rfl rfl (T_load_bA D (l := [_, _, _, _, _, _, _, _]) rfl rfl rfl rfl rfl rfl rfl) rfl ?_
     refine q0 165 163 3 rfl rfl (T_eqTac8 t rfl rfl rfl) rfl ?_
     refine q0 8 179 4 rfl rfl (T_assign rfl rfl) rfl ?_
     refine k_done rfl ?_
     refine thenK_n ?_
     refine W_ret ?_
     exact .mk [] (.inr rfl) (.tmp rfl (.nil)) (by first | rfl | (simp only [resLV, LV.ren, LV.v.injEq, Value.bool.injEq]; refine fits_no (fun hF => ?_); obtain ⟨a1, a2, a3, a4, a5, a6, a7, a8⟩ := hF; first | omega | (have k4 := a4 (by omega); omega) | (have k6 := a6 (by omega); omega) | exact absurd ((a2 (by assumption)).symm.trans (by assumption : _ = false)) (by decide) | exact absurd ((a5 (by omega)).symm.trans (by assumption : _ = false)) (by decide) | exact absurd ((a7 (by omega)).symm.trans (by assumption : _ = false)) (by decide) | exact absurd ((a3 _ (getD_mem (i := j) (by omega))).symm.trans (by assumption : _ = false)) (by decide)) | (simp only [resLV, LV.ren, LV.v.injEq, Value.bool.injEq]; exact fits_fin hj18 (fun _ => by omega) (fun _ => by first | assumption | (exfalso; omega)) (fun _ => by omega) (fun _ => by first | assumption | (exfalso; omega)) (by first | exact (if_pos (by omega)).symm | exact (if_neg (by omega)).symm) (by first | exact (if_pos (by omega)).symm | exact (if_neg (by omega)).symm) (by first | exact (if_pos (by omega)).symm | exact (if_neg (by omega)).symm) (by first | exact (if_pos (by omega)).symm | exact (if_neg (by omega)).symm))) (.nil) rfl
    ·have h16 := c_eql_f g16
     refine W_seq ?_
     refine W_seqK (b' := 99) rfl rfl ?_
     refine q0 99 67 1 rfl rfl (T_cmp rfl rfl rfl rfl) rfl ?_
     refine q0 98 83 2 rfl rfl (T_assign rfl rfl) rfl ?_
     refine k_done rfl ?_
     refine thenK_n ?_
     refine W_cond rfl (fun g17 => ?_) (fun g17 => ?_)
     ·have h17 := c_eql_t g17
      refine W_seq ?_
      refine W_seqK (b' := 163) rfl rfl ?_
      refine q0 100 99 1 rfl rfl (T_fa D (m := 4) rfl rfl rfl rfl rfl rfl) rfl ?_
      refine q0 101 115 2 rfl rfl (T_load_b D rfl rfl rfl rfl rfl rfl) rfl ?_
      refine q0 102 131 3 rfl rfl (T_fa D (m := 4) rfl rfl rfl rfl rfl rfl) rfl ?_
      refine s1 147 4 rfl rfl (T_stB D (cs' := [_, _, _, _, _, _, _, _]) rfl rfl rfl rfl (flat_v rfl) rfl rfl (Nat.le_of_ble_eq_true rfl) rfl) rfl ?_
      refine k_done rfl ?_
      refine thenK_n ?_
      refine W_seq ?_
      refine W_seqK (b' := 291) rfl rfl ?_
      refine q0 103 163 1 rfl rfl (T_fa D (m := 4) rfl rfl rfl rfl rfl rfl) rfl ?_
      refine q0 104 179 2 rfl rfl (T_load_b D rfl rfl rfl rfl rfl rfl) rfl ?_
      refine q0 105 195 3 rfl rfl (T_cmp rfl rfl rfl rfl) rfl ?_
      refine q0 106 211 4 rfl rfl (T_move rfl rfl) rfl ?_
      refine k_split (d := 106) rfl (fun g18 => ?_) (fun g18 => ?_)
      ·have h18 := c_lss_t g18
       refine k_no (d := 107) (j' := 5) rfl rfl rfl (g_ft rfl rfl rfl g18) ?_
       refine k_no (d := 108) (j' := 6) rfl rfl rfl (g_ft rfl rfl rfl g18) ?_
       refine k_no (d := 109) (j' := 7) rfl rfl rfl (g_ft rfl rfl rfl g18) ?_
       refine q0 110 275 8 rfl rfl (T_pick_t rfl rfl rfl g18) rfl ?_
       refine k_done rfl ?_
       refine thenK_n ?_
       refine W_cond rfl (fun g19 => ?_) (fun g19 => ?_)
       ·skip
        refine W_seq ?_
        refine W_seqK (b' := 307) rfl rfl ?_
        refine q0 8 291 1 rfl rfl (T_assign rfl rfl) rfl ?_
        refine k_done rfl ?_
        refine thenK_n ?_
        refine W_ret ?_
        refine blockK_r ?_
        refine thenK_r ?_
        exact .mk [] (.inr rfl) (.tmp rfl (.nil)) (by first | rfl | (simp only [resLV, LV.ren, LV.v.injEq, Value.bool.injEq]; refine fits_no (fun hF => ?_); obtain ⟨a1, a2, a3, a4, a5, a6, a7, a8⟩ := hF; first | omega | (have k4 := a4 (by omega); omega) | (have k6 := a6 (by omega); omega) | exact absurd ((a2 (by assumption)).symm.trans (by assumption : _ = false)) (by decide) | exact absurd ((a5 (by omega)).symm.trans (by assumption : _ = false)) (by decide) | exact absurd ((a7 (by omega)).symm.trans (by assumption : _ = false)) (by decide) | exact absurd ((a3 _ (getD_mem (i := j) (by omega))).symm.trans (by assumption : _ = false)) (by decide)) | (simp only [resLV, LV.ren, LV.v.injEq, Value.bool.injEq]; exact fits_fin hj18 (fun _ => by omega) (fun _ => by first | assumption | (exfalso; omega)) (fun _ => by omega) (fun _ => by first | assumption | (exfalso; omega)) (by first | exact (if_pos (by omega)).symm | exact (if_neg (by omega)).symm) (by first | exact (if_pos (by omega)).symm | exact (if_neg (by omega)).symm) (by first | exact (if_pos (by omega)).symm | exact (if_neg (by omega)).symm) (by first | exact (if_pos (by omega)).symm | exact (if_neg (by omega)).symm))) (.nil) rfl
       ·exact absurd (g19.symm.trans rfl) (by decide)
      ·have h18 := c_lss_f g18
       refine k_op0 (d := 107) (b := 227) (j' := 5) rfl rfl rfl rfl (g_ff rfl rfl rfl g18) (T_fa D (m := 4) rfl rfl rfl rfl rfl rfl) rfl ?_
       refine k_op0 (d := 108) (b := 243) (j' := 6) rfl rfl rfl rfl (g_ff rfl rfl rfl g18) (T_load_b D rfl rfl rfl rfl rfl rfl) rfl ?_
       refine k_op0 (d := 109) (b := 259) (j' := 7) rfl rfl rfl rfl (g_ff rfl rfl rfl g18) (T_cmp rfl rfl rfl rfl) rfl ?_
       refine q0 110 275 8 rfl rfl (T_pick_f rfl rfl rfl g18) rfl ?_
       refine k_done rfl ?_
       refine thenK_n ?_
       refine W_cond rfl (fun g20 => ?_) (fun g20 => ?_)
       ·have h20 := c_gtr_t g20
        refine W_seq ?_
        refine W_seqK (b' := 307) rfl rfl ?_
        refine q0 8 291 1 rfl rfl (T_assign rfl rfl) rfl ?_
        refine k_done rfl ?_
        refine thenK_n ?_
        refine W_ret ?_
        refine blockK_r ?_
        refine thenK_r ?_
        exact .mk [] (.inr rfl) (.tmp rfl (.nil)) (by first | rfl | (simp only [resLV, LV.ren, LV.v.injEq, Value.bool.injEq]; refine fits_no (fun hF => ?_); obtain ⟨a1, a2, a3, a4, a5, a6, a7, a8⟩ := hF; first | omega | (have k4 := a4 (by omega); omega) | (have k6 := a6 (by omega); omega) | exact absurd ((a2 (by assumption)).symm.trans (by assumption : _ = false)) (by decide) | exact absurd ((a5 (by omega)).symm.trans (by assumption : _ = false)) (by decide) | exact absurd ((a7 (by omega)).symm.trans (by assumption : _ = false)) (by decide) | exact absurd ((a3 _ (getD_mem (i := j) (by omega))).symm.trans (by assumption : _ = false)) (by decide)) | (simp only [resLV, LV.ren, LV.v.injEq, Value.bool.injEq]; exact fits_fin hj18 (fun _ => by omega) (fun _ => by first | assumption | (exfalso; omega)) (fun _ => by omega) (fun _ => by first | assumption | (exfalso; omega)) (by first | exact (if_pos (by omega)).symm | exact (if_neg (by omega)).symm) (by first | exact (if_pos (by omega)).symm | exact (if_neg (by omega)).symm) (by first | exact (if_pos (by omega)).symm | exact (if_neg (by omega)).symm) (by first | exact (if_pos (by omega)).symm | exact (if_neg (by omega)).symm))) (.nil) rfl
       ·have h20 := c_gtr_f g20
        refine W_skip ?_
        refine blockK_n ?_
        refine thenK_n ?_
        refine W_seq ?_
        refine W_seqK (b' := 355) rfl rfl ?_
        refine q0 163 291 1 rfl rfl (T_load_bA D (l := [_, _, _, _, _, _, _, _]) rfl rfl rfl rfl rfl rfl rfl) rfl ?_
        refine q0 164 307 2 rfl rfl (T_load_bA D (l := [_, _, _, _, _, _, _, _]) rfl rfl rfl rfl rfl rfl rfl) rfl ?_
        refine q0 165 323 3 rfl rfl (T_eqTac8 t rfl rfl rfl) rfl ?_
        refine q0 8 339 4 rfl rfl (T_assign rfl rfl) rfl ?_
        refine k_done rfl ?_
        refine thenK_n ?_
        refine W_ret ?_
        exact .mk [] (.inr rfl) (.tmp rfl (.nil)) (by first | rfl | (simp only [resLV, LV.ren, LV.v.injEq, Value.bool.injEq]; refine fits_no (fun hF => ?_); obtain ⟨a1, a2, a3, a4, a5, a6, a7, a8⟩ := hF; first | omega | (have k4 := a4 (by omega); omega) | (have k6 := a6 (by omega); omega) | exact absurd ((a2 (by assumption)).symm.trans (by assumption : _ = false)) (by decide) | exact absurd ((a5 (by omega)).symm.trans (by assumption : _ = false)) (by decide) | exact absurd ((a7 (by omega)).symm.trans (by assumption : _ = false)) (by decide) | exact absurd ((a3 _ (getD_mem (i := j) (by omega))).symm.trans (by assumption : _ = false)) (by decide)) | (simp only [resLV, LV.ren, LV.v.injEq, Value.bool.injEq]; exact fits_fin hj18 (fun _ => by omega) (fun _ => by first | assumption | (exfalso; omega)) (fun _ => by omega) (fun _ => by first | assumption | (exfalso; omega)) (by first | exact (if_pos (by omega)).symm | exact (if_neg (by omega)).symm) (by first | exact (if_pos (by omega)).symm | exact (if_neg (by omega)).symm) (by first | exact (if_pos (by omega)).symm | exact (if_neg (by omega)).symm) (by first | exact (if_pos (by omega)).symm | exact (if_neg (by omega)).symm))) (.nil) rfl
     ·have h17 := c_eql_f g17
      refine W_seq ?_
      refine W_seq ?_
      refine W_seqK (b' := 131) rfl rfl ?_
      refine q0 112 99 1 rfl rfl (T_cmp rfl rfl rfl rfl) rfl ?_
      refine q0 111 115 2 rfl rfl (T_assign rfl rfl) rfl ?_
      refine k_done rfl ?_
      refine thenK_n ?_
      refine W_cond rfl (fun g21 => ?_) (fun g21 => ?_)
      ·have h21 := c_eql_t g21
       refine W_skip ?_
       refine thenK_n ?_
       refine W_cond rfl (fun g22 => ?_) (fun g22 => ?_)
       ·skip
        refine W_seq ?_
        refine W_seqK (b' := 195) rfl rfl ?_
        refine q0 114 131 1 rfl rfl (T_fa D (m := 5) rfl rfl rfl rfl rfl rfl) rfl ?_
        refine q0 115 147 2 rfl rfl (T_load_b D rfl rfl rfl rfl rfl rfl) rfl ?_
        refine q0 116 163 3 rfl rfl (T_fa D (m := 5) rfl rfl rfl rfl rfl rfl) rfl ?_
        refine s1 179 4 rfl rfl (T_stB D (cs' := [_, _, _, _, _, _, _, _]) rfl rfl rfl rfl (flat_v rfl) rfl rfl (Nat.le_of_ble_eq_true rfl) rfl) rfl ?_
        refine k_done rfl ?_
        refine thenK_n ?_
        refine W_seq ?_
        refine W_seqK (b' := 275) rfl rfl ?_
        refine q0 117 195 1 rfl rfl (T_fa D (m := 5) rfl rfl rfl rfl rfl rfl) rfl ?_
        refine q0 118 211 2 rfl rfl (T_load_b D rfl rfl rfl rfl rfl rfl) rfl ?_
        refine q0 119 227 3 rfl rfl (T_move rfl rfl) rfl ?_
        refine q0 120 243 4 rfl rfl (T_callV (lvs := [_, _]) (L := []) (within_spec _ _) body125 rfl rfl rfl rfl (.nil) rfl) rfl ?_
        refine q0 121 259 5 rfl rfl (T_not rfl rfl) rfl ?_
        refine k_done rfl ?_
        refine thenK_n ?_
        refine W_cond rfl (fun g23 => ?_) (fun g23 => ?_)
        ·have h23 := g23; (try simp only [cmpB, decide_eq_true_eq, decide_eq_false_iff_not, beq_iff_eq, beq_eq_false_iff_ne, bne_iff_ne, ne_eq, bne_eq_false_iff_eq, Bool.not_eq_true', Bool.not_eq_false', Int.not_lt, Int.not_le] at h23)
         refine W_seq ?_
         refine W_seqK (b' := 291) rfl rfl ?_
         refine q0 8 275 1 rfl rfl (T_assign rfl rfl) rfl ?_
         refine k_done rfl ?_
         refine thenK_n ?_
         refine W_ret ?_
         refine blockK_r ?_
         refine thenK_r ?_
         exact .mk [] (.inr rfl) (.tmp rfl (.nil)) (by first | rfl | (simp only [resLV, LV.ren, LV.v.injEq, Value.bool.injEq]; refine fits_no (fun hF => ?_); obtain ⟨a1, a2, a3, a4, a5, a6, a7, a8⟩ := hF; first | omega | (have k4 := a4 (by omega); omega) | (have k6 := a6 (by omega); omega) | exact absurd ((a2 (by assumption)).symm.trans (by assumption : _ = false)) (by decide) | exact absurd ((a5 (by omega)).symm.trans (by assumption : _ = false)) (by decide) | exact absurd ((a7 (by omega)).symm.trans (by assumption : _ = false)) (by decide) | exact absurd ((a3 _ (getD_mem (i := j) (by omega))).symm.trans (by assumption : _ = false)) (by decide)) | (simp only [resLV, LV.ren, LV.v.injEq, Value.bool.injEq]; exact fits_fin hj18 (fun _ => by omega) (fun _ => by first | assumption | (exfalso; omega)) (fun _ => by omega) (fun _ => by first | assumption | (exfalso; omega)) (by first | exact (if_pos (by omega)).symm | exact (if_neg (by omega)).symm) (by first | exact (if_pos (by omega)).symm | exact (if_neg (by omega)).symm) (by first | exact (if_pos (by omega)).symm | exact (if_neg (by omega)).symm) (by first | exact (if_pos (by omega)).symm | exact (if_neg (by omega)).symm))) (.nil) rfl
        ·have h23 := g23; (try simp only [cmpB, decide_eq_true_eq, decide_eq_false_iff_not, beq_iff_eq, beq_eq_false_iff_ne, bne_iff_ne, ne_eq, bne_eq_false_iff_eq, Bool.not_eq_true', Bool.not_eq_false', Int.not_lt, Int.not_le] at h23)
         refine W_skip ?_
         refine blockK_n ?_
         refine thenK_n ?_
         refine W_seq ?_
         refine W_seqK (b' := 339) rfl rfl ?_
         refine q0 163 275 1 rfl rfl (T_load_bA D (l := [_, _, _, _, _, _, _, _]) rfl rfl rfl rfl rfl rfl rfl) rfl ?_
         refine q0 164 291 2 rfl rfl (T_load_bA D (l := [_, _, _, _, _, _, _, _]) rfl rfl rfl rfl rfl rfl rfl) rfl ?_
         refine q0 165 307 3 rfl rfl (T_eqTac8 t rfl rfl rfl) rfl ?_
         refine q0 8 323 4 rfl rfl (T_assign rfl rfl) rfl ?_
         refine k_done rfl ?_
         refine thenK_n ?_
         refine W_ret ?_
         exact .mk [] (.inr rfl) (.tmp rfl (.nil)) (by first | rfl | (simp only [resLV, LV.ren, LV.v.injEq, Value.bool.injEq]; refine fits_no (fun hF => ?_); obtain ⟨a1, a2, a3, a4, a5, a6, a7, a8⟩ := hF; first | omega | (have k4 := a4 (by omega); omega) | (have k6 := a6 (by omega); omega) | exact absurd ((a2 (by assumption)).symm.trans (by assumption : _ = false)) (by decide) | exact absurd ((a5 (by omega)).symm.trans (by assumption : _ = false)) (by decide) | exact absurd ((a7 (by omega)).symm.trans (by assumption : _ = false)) (by decide) | exact absurd ((a3 _ (getD_mem (i := j) (by omega))).symm.trans (by assumption : _ = false)) (by decide)) | (simp only [resLV, LV.ren, LV.v.injEq, Value.bool.injEq]; exact fits_fin hj18 (fun _ => by omega) (fun _ => by first | assumption | (exfalso; omega)) (fun _ => by omega) (fun _ => by first | assumption | (exfalso; omega)) (by first | exact (if_pos (by omega)).symm | exact (if_neg (by omega)).symm) (by first | exact (if_pos (by omega)).symm | exact (if_neg (by omega)).symm) (by first | exact (if_pos (by omega)).symm | exact (if_neg (by omega)).symm) (by first | exact (if_pos (by omega)).symm | exact (if_neg (by omega)).symm))) (.nil) rfl
       ·exact absurd (g22.symm.trans g21) (by decide)
      ·have h21 := c_eql_f g21
       refine W_seqK (b' := 163) rfl rfl ?_
       refine q0 113 131 1 rfl rfl (T_cmp rfl rfl rfl rfl) rfl ?_
       refine q0 111 147 2 rfl rfl (T_assign rfl rfl) rfl ?_
       refine k_done rfl ?_
       refine thenK_n ?_
       refine W_cond rfl (fun g24 => ?_) (fun g24 => ?_)
       ·have h24 := c_eql_t g24
        refine W_seq ?_
        refine W_seqK (b' := 227) rfl rfl ?_
        refine q0 114 163 1 rfl rfl (T_fa D (m := 5) rfl rfl rfl rfl rfl rfl) rfl ?_
        refine q0 115 179 2 rfl rfl (T_load_b D rfl rfl rfl rfl rfl rfl) rfl ?_
        refine q0 116 195 3 rfl rfl (T_fa D (m := 5) rfl rfl rfl rfl rfl rfl) rfl ?_
        refine s1 211 4 rfl rfl (T_stB D (cs' := [_, _, _, _, _, _, _, _]) rfl rfl rfl rfl (flat_v rfl) rfl rfl (Nat.le_of_ble_eq_true rfl) rfl) rfl ?_
        refine k_done rfl ?_
        refine thenK_n ?_
        refine W_seq ?_
        refine W_seqK (b' := 307) rfl rfl ?_
        refine q0 117 227 1 rfl rfl (T_fa D (m := 5) rfl rfl rfl rfl rfl rfl) rfl ?_
        refine q0 118 243 2 rfl rfl (T_load_b D rfl rfl rfl rfl rfl rfl) rfl ?_
        refine q0 119 259 3 rfl rfl (T_move rfl rfl) rfl ?_
        refine q0 120 275 4 rfl rfl (T_callV (lvs := [_, _]) (L := []) (within_spec _ _) body125 rfl rfl rfl rfl (.nil) rfl) rfl ?_
        refine q0 121 291 5 rfl rfl (T_not rfl rfl) rfl ?_
        refine k_done rfl ?_
        refine thenK_n ?_
        refine W_cond rfl (fun g25 => ?_) (fun g25 => ?_)
        ·have h25 := g25; (try simp only [cmpB, decide_eq_true_eq, decide_eq_false_iff_not, beq_iff_eq, beq_eq_false_iff_ne, bne_iff_ne, ne_eq, bne_eq_false_iff_eq, Bool.not_eq_true', Bool.not_eq_false', Int.not_lt, Int.not_le] at h25)
         refine W_seq ?_
         refine W_seqK (b' := 323) rfl rfl ?_
         refine q0 8 307 1 rfl rfl (T_assign rfl rfl) rfl ?_
         refine k_done rfl ?_
         refine thenK_n ?_
         refine W_ret ?_
         refine blockK_r ?_
         refine thenK_r ?_
         exact .mk [] (.inr rfl) (.tmp rfl (.nil)) (by first | rfl | (simp only [resLV, LV.ren, LV.v.injEq, Value.bool.injEq]; refine fits_no (fun hF => ?_); obtain ⟨a1, a2, a3, a4, a5, a6, a7, a8⟩ := hF; first | omega | (have k4 := a4 (by omega); omega) | (have k6 := a6 (by omega); omega) | exact absurd ((a2 (by assumption)).symm.trans (by assumption : _ = false)) (by decide) | exact absurd ((a5 (by omega)).symm.trans (by assumption : _ = false)) (by decide) | exact absurd ((a7 (by omega)).symm.trans (by assumption : _ = false)) (by decide) | exact absurd ((a3 _ (getD_mem (i := j) (by omega))).symm.trans (by assumption : _ = false)) (by decide)) | (simp only [resLV, LV.ren, LV.v.injEq, Value.bool.injEq]; exact fits_fin hj18 (fun _ => by omega) (fun _ => by first | assumption | (exfalso; omega)) (fun _ => by omega) (fun _ => by first | assumption | (exfalso; omega)) (by first | exact (if_pos (by omega)).symm | exact (if_neg (by omega)).symm) (by first | exact (if_pos (by omega)).symm | exact (if_neg (by omega)).symm) (by first | exact (if_pos (by omega)).symm | exact (if_neg (by omega)).symm) (by first | exact (if_pos (by omega)).symm | exact (if_neg (by omega)).symm))) (.nil) rfl
        ·have h25 := g25; (try simp only [cmpB, decide_eq_true_eq, decide_eq_false_iff_not, beq_iff_eq, beq_eq_false_iff_ne, bne_iff_ne, ne_eq, bne_eq_false_iff_eq, Bool.not_eq_true', Bool.not_eq_false', Int.not_lt, Int.not_le] at h25)
         refine W_skip ?_
         refine blockK_n ?_
         refine thenK_n ?_
         refine W_seq ?_
         refine W_seqK (b' := 371) rfl rfl ?_
         refine q0 163 307 1 rfl rfl (T_load_bA D (l := [_, _, _, _, _, _, _, _]) rfl rfl rfl rfl rfl rfl rfl) rfl ?_
         refine q0 164 323 2 rfl rfl (T_load_bA D (l := [_, _, _, _, _, _, _, _]) rfl rfl rfl rfl rfl rfl rfl) rfl ?_
         refine q0 165 339 3 rfl rfl (T_eqTac8 t rfl rfl rfl) rfl ?_
         refine q0 8 355 4 rfl rfl (T_assign rfl rfl) rfl ?_
         refine k_done rfl ?_
         refine thenK_n ?_
         refine W_ret ?_
         exact .mk [] (.inr rfl) (.tmp rfl (.nil)) (by first | rfl | (simp only [resLV, LV.ren, LV.v.injEq, Value.bool.injEq]; refine fits_no (fun hF => ?_); obtain ⟨a1, a2, a3, a4, a5, a6, a7, a8⟩ := hF; first | omega | (have k4 := a4 (by omega); omega) | (have k6 := a6 (by omega); omega) | exact absurd ((a2 (by assumption)).symm.trans (by assumption : _ = false)) (by decide) | exact absurd ((a5 (by omega)).symm.trans (by assumption : _ = false)) (by decide) | exact absurd ((a7 (by omega)).symm.trans (by assumption : _ = false)) (by decide) | exact absurd ((a3 _ (getD_mem (i := j) (by omega))).symm.trans (by assumption : _ = false)) (by decide)) | (simp only [resLV, LV.ren, LV.v.injEq, Value.bool.injEq]; exact fits_fin hj18 (fun _ => by omega) (fun _ => by first | assumption | (exfalso; omega)) (fun _ => by omega) (fun _ => by first | assumption | (exfalso; omega)) (by first | exact (if_pos (by omega)).symm | exact (if_neg (by omega)).symm) (by first | exact (if_pos (by omega)).symm | exact (if_neg (by omega)).symm) (by first | exact (if_pos (by omega)).symm | exact (if_neg (by omega)).symm) (by first | exact (if_pos (by omega)).symm | exact (if_neg (by omega)).symm))) (.nil) rfl
       ·have h24 := c_eql_f g24
        refine W_seq ?_
        refine W_seq ?_
        refine W_seqK (b' := 195) rfl rfl ?_
        refine q0 123 163 1 rfl rfl (T_cmp rfl rfl rfl rfl) rfl ?_
        refine q0 122 179 2 rfl rfl (T_assign rfl rfl) rfl ?_
        refine k_done rfl ?_
        refine thenK_n ?_
        refine W_cond rfl (fun g26 => ?_) (fun g26 => ?_)
        ·have h26 := c_eql_t g26
         refine W_skip ?_
         refine thenK_n ?_
         refine W_cond rfl (fun g27 => ?_) (fun g27 => ?_)
         ·skip
          refine W_seq ?_
          refine W_anyK (b' := 323) rfl rfl rfl ?_
          refine q0 125 195 1 rfl rfl (T_fa D (m := 5) rfl rfl rfl rfl rfl rfl) rfl ?_
          refine q0 126 211 2 rfl rfl (T_load_b D rfl rfl rfl rfl rfl rfl) rfl ?_
          refine q0 127 227 3 rfl rfl (T_fa D (m := 6) rfl rfl rfl rfl rfl rfl) rfl ?_
          refine q0 128 243 4 rfl rfl (T_load_b D rfl rfl rfl rfl rfl rfl) rfl ?_
          refine q0 129 259 5 rfl rfl (T_fa D (m := 5) rfl rfl rfl rfl rfl rfl) rfl ?_
          refine s1 275 6 rfl rfl (T_stB D (cs' := [_, _, _, _, _, _, _, _]) rfl rfl rfl rfl (flat_v rfl) rfl rfl (Nat.le_of_ble_eq_true rfl) rfl) rfl ?_
          refine q0 130 291 7 rfl rfl (T_fa D (m := 6) rfl rfl rfl rfl rfl rfl) rfl ?_
          refine s1 307 8 rfl rfl (T_stB D (cs' := [_, _, _, _, _, _, _, _]) rfl rfl rfl rfl (flat_v rfl) rfl rfl (Nat.le_of_ble_eq_true rfl) rfl) rfl ?_
          refine k_done rfl ?_
          refine ⟨rfl, ?_⟩
          refine thenK_n ?_
          refine W_seq ?_
          refine W_seqK (b' := 675) rfl rfl ?_
          refine q0 131 323 1 rfl rfl (T_fa D (m := 6) rfl rfl rfl rfl rfl rfl) rfl ?_
          refine q0 132 339 2 rfl rfl (T_load_b D rfl rfl rfl rfl rfl rfl) rfl ?_
          refine q0 133 355 3 rfl rfl (T_cmp rfl rfl rfl rfl) rfl ?_
          refine q0 134 371 4 rfl rfl (T_move rfl rfl) rfl ?_
          refine k_split (d := 134) rfl (fun g28 => ?_) (fun g28 => ?_)
          ·have h28 := c_lss_t g28
           refine k_no (d := 135) (j' := 5) rfl rfl rfl (g_ft rfl rfl rfl g28) ?_
           refine k_no (d := 136) (j' := 6) rfl rfl rfl (g_ft rfl rfl rfl g28) ?_
           refine k_no (d := 137) (j' := 7) rfl rfl rfl (g_ft rfl rfl rfl g28) ?_
           refine q0 138 435 8 rfl rfl (T_pick_t rfl rfl rfl g28) rfl ?_
           refine q0 139 451 9 rfl rfl (T_move rfl rfl) rfl ?_
           refine k_no (d := 140) (j' := 10) rfl rfl rfl (g_ft rfl rfl rfl rfl) ?_
           refine k_no (d := 141) (j' := 11) rfl rfl rfl (g_ft rfl rfl rfl rfl) ?_
           refine k_no (d := 142) (j' := 12) rfl rfl rfl (g_ft rfl rfl rfl rfl) ?_
           refine q0 143 515 13 rfl rfl (T_pick_t rfl rfl rfl rfl) rfl ?_
           refine q0 144 531 14 rfl rfl (T_move rfl rfl) rfl ?_
           refine k_no (d := 145) (j' := 15) rfl rfl rfl (g_ft rfl rfl rfl rfl) ?_
           refine k_no (d := 146) (j' := 16) rfl rfl rfl (g_ft rfl rfl rfl rfl) ?_
           refine k_no (d := 147) (j' := 17) rfl rfl rfl (g_ft rfl rfl rfl rfl) ?_
           refine k_no (d := 148) (j' := 18) rfl rfl rfl (g_ft rfl rfl rfl rfl) ?_
           refine k_no (d := 149) (j' := 19) rfl rfl rfl (g_ft rfl rfl rfl rfl) ?_
           refine k_no (d := 150) (j' := 20) rfl rfl rfl (g_ft rfl rfl rfl rfl) ?_
           refine k_no (d := 151) (j' := 21) rfl rfl rfl (g_ft rfl rfl rfl rfl) ?_
           refine q0 152 659 22 rfl rfl (T_pick_t rfl rfl rfl rfl) rfl ?_
           refine k_done rfl ?_
           refine thenK_n ?_
           refine W_cond rfl (fun g29 => ?_) (fun g29 => ?_)
           ·skip
            refine W_seq ?_
            refine W_seqK (b' := 691) rfl rfl ?_
            refine q0 8 675 1 rfl rfl (T_assign rfl rfl) rfl ?_
            refine k_done rfl ?_
            refine thenK_n ?_
            refine W_ret ?_
            refine blockK_r ?_
            refine thenK_r ?_
            exact .mk [] (.inr rfl) (.tmp rfl (.nil)) (by first | rfl | (simp only [resLV, LV.ren, LV.v.injEq, Value.bool.injEq]; refine fits_no (fun hF => ?_); obtain ⟨a1, a2, a3, a4, a5, a6, a7, a8⟩ := hF; first | omega | (have k4 := a4 (by omega); omega) | (have k6 := a6 (by omega); omega) | exact absurd ((a2 (by assumption)).symm.trans (by assumption : _ = false)) (by decide) | exact absurd ((a5 (by omega)).symm.trans (by assumption : _ = false)) (by decide) | exact absurd ((a7 (by omega)).symm.trans (by assumption : _ = false)) (by decide) | exact absurd ((a3 _ (getD_mem (i := j) (by omega))).symm.trans (by assumption : _ = false)) (by decide)) | (simp only [resLV, LV.ren, LV.v.injEq, Value.bool.injEq]; exact fits_fin hj18 (fun _ => by omega) (fun _ => by first | assumption | (exfalso; omega)) (fun _ => by omega) (fun _ => by first | assumption | (exfalso; omega)) (by first | exact (if_pos (by omega)).symm | exact (if_neg (by omega)).symm) (by first | exact (if_pos (by omega)).symm | exact (if_neg (by omega)).symm) (by first | exact (if_pos (by omega)).symm | exact (if_neg (by omega)).symm) (by first | exact (if_pos (by omega)).symm | exact (if_neg (by omega)).symm))) (.nil) rfl
           ·exact absurd (g29.symm.trans rfl) (by decide)
          ·have h28 := c_lss_f g28
           refine k_op0 (d := 135) (b := 387) (j' := 5) rfl rfl rfl rfl (g_ff rfl rfl rfl g28) (T_fa D (m := 6) rfl rfl rfl rfl rfl rfl) rfl ?_
           refine k_op0 (d := 136) (b := 403) (j' := 6) rfl rfl rfl rfl (g_ff rfl rfl rfl g28) (T_load_b D rfl rfl rfl rfl rfl rfl) rfl ?_
           refine k_op0 (d := 137) (b := 419) (j' := 7) rfl rfl rfl rfl (g_ff rfl rfl rfl g28) (T_cmp rfl rfl rfl rfl) rfl ?_
           refine q0 138 435 8 rfl rfl (T_pick_f rfl rfl rfl g28) rfl ?_
           refine q0 139 451 9 rfl rfl (T_move rfl rfl) rfl ?_
           refine k_split (d := 139) rfl (fun g30 => ?_) (fun g30 => ?_)
           ·have h30 := c_gtr_t g30
            refine k_no (d := 140) (j' := 10) rfl rfl rfl (g_ft rfl rfl rfl g30) ?_
            refine k_no (d := 141) (j' := 11) rfl rfl rfl (g_ft rfl rfl rfl g30) ?_
            refine k_no (d := 142) (j' := 12) rfl rfl rfl (g_ft rfl rfl rfl g30) ?_
            refine q0 143 515 13 rfl rfl (T_pick_t rfl rfl rfl g30) rfl ?_
            refine q0 144 531 14 rfl rfl (T_move rfl rfl) rfl ?_
            refine k_no (d := 145) (j' := 15) rfl rfl rfl (g_ft rfl rfl rfl rfl) ?_
            refine k_no (d := 146) (j' := 16) rfl rfl rfl (g_ft rfl rfl rfl rfl) ?_
            refine k_no (d := 147) (j' := 17) rfl rfl rfl (g_ft rfl rfl rfl rfl) ?_
            refine k_no (d := 148) (j' := 18) rfl rfl rfl (g_ft rfl rfl rfl rfl) ?_
            refine k_no (d := 149) (j' := 19) rfl rfl rfl (g_ft rfl rfl rfl rfl) ?_
            refine k_no (d := 150) (j' := 20) rfl rfl rfl (g_ft rfl rfl rfl rfl) ?_
            refine k_no (d := 151) (j' := 21) rfl rfl rfl (g_ft rfl rfl rfl rfl) ?_
            refine q0 152 659 22 rfl rfl (T_pick_t rfl rfl rfl rfl) rfl ?_
            refine k_done rfl ?_
            refine thenK_n ?_
            refine W_cond rfl (fun g31 => ?_) (fun g31 => ?_)
            ·skip
             refine W_seq ?_
             refine W_seqK (b' := 691) rfl rfl ?_
             refine q0 8 675 1 rfl rfl (T_assign rfl rfl) rfl ?_
             refine k_done rfl ?_
             refine thenK_n ?_
             refine W_ret ?_
             refine blockK_r ?_
             refine thenK_r ?_
             exact .mk [] (.inr rfl) (.tmp rfl (.nil)) (by first | rfl | (simp only [resLV, LV.ren, LV.v.injEq, Value.bool.injEq]; refine fits_no (fun hF => ?_); obtain ⟨a1, a2, a3, a4, a5, a6, a7, a8⟩ := hF; first | omega | (have k4 := a4 (by omega); omega) | (have k6 := a6 (by omega); omega) | exact absurd ((a2 (by assumption)).symm.trans (by assumption : _ = false)) (by decide) | exact absurd ((a5 (by omega)).symm.trans (by assumption : _ = false)) (by decide) | exact absurd ((a7 (by omega)).symm.trans (by assumption : _ = false)) (by decide) | exact absurd ((a3 _ (getD_mem (i := j) (by omega))).symm.trans (by assumption : _ = false)) (by decide)) | (simp only [resLV, LV.ren, LV.v.injEq, Value.bool.injEq]; exact fits_fin hj18 (fun _ => by omega) (fun _ => by first | assumption | (exfalso; omega)) (fun _ => by omega) (fun _ => by first | assumption | (exfalso; omega)) (by first | exact (if_pos (by omega)).symm | exact (if_neg (by omega)).symm) (by first | exact (if_pos (by omega)).symm | exact (if_neg (by omega)).symm) (by first | exact (if_pos (by omega)).symm | exact (if_neg (by omega)).symm) (by first | exact (if_pos (by omega)).symm | exact (if_neg (by omega)).symm))) (.nil) rfl
            ·exact absurd (g31.symm.trans rfl) (by decide)
           ·have h30 := c_gtr_f g30
            refine k_op0 (d := 140) (b := 467) (j' := 10) rfl rfl rfl rfl (g_ff rfl rfl rfl g30) (T_fa D (m := 5) rfl rfl rfl rfl rfl rfl) rfl ?_
            refine k_op0 (d := 141) (b := 483) (j' := 11) rfl rfl rfl rfl (g_ff rfl rfl rfl g30) (T_load_b D rfl rfl rfl rfl rfl rfl) rfl ?_
            refine k_op0 (d := 142) (b := 499) (j' := 12) rfl rfl rfl rfl (g_ff rfl rfl rfl g30) (T_cmp rfl rfl rfl rfl) rfl ?_
            refine q0 143 515 13 rfl rfl (T_pick_f rfl rfl rfl g30) rfl ?_
            refine q0 144 531 14 rfl rfl (T_move rfl rfl) rfl ?_
            refine k_split (d := 144) rfl (fun g32 => ?_) (fun g32 => ?_)
            ·have h32 := c_lss_t g32
             refine k_no (d := 145) (j' := 15) rfl rfl rfl (g_ft rfl rfl rfl g32) ?_
             refine k_no (d := 146) (j' := 16) rfl rfl rfl (g_ft rfl rfl rfl g32) ?_
             refine k_no (d := 147) (j' := 17) rfl rfl rfl (g_ft rfl rfl rfl g32) ?_
             refine k_no (d := 148) (j' := 18) rfl rfl rfl (g_ft rfl rfl rfl g32) ?_
             refine k_no (d := 149) (j' := 19) rfl rfl rfl (g_ft rfl rfl rfl g32) ?_
             refine k_no (d := 150) (j' := 20) rfl rfl rfl (g_ft rfl rfl rfl g32) ?_
             refine k_no (d := 151) (j' := 21) rfl rfl rfl (g_ft rfl rfl rfl g32) ?_
             refine q0 152 659 22 rfl rfl (T_pick_t rfl rfl rfl g32) rfl ?_
             refine k_done rfl ?_
             refine thenK_n ?_
             refine W_cond rfl (fun g33 => ?_) (fun g33 => ?_)
             ·skip
              refine W_seq ?_
              refine W_seqK (b' := 691) rfl rfl ?_
              refine q0 8 675 1 rfl rfl (T_assign rfl rfl) rfl ?_
              refine k_done rfl ?_
              refine thenK_n ?_
              refine W_ret ?_
              refine blockK_r ?_
              refine thenK_r ?_
              exact .mk [] (.inr rfl) (.tmp rfl (.nil)) (by first | rfl | (simp only [resLV, LV.ren, LV.v.injEq, Value.bool.injEq]; refine fits_no (fun hF => ?_); obtain ⟨a1, a2, a3, a4, a5, a6, a7, a8⟩ := hF; first | omega | (have k4 := a4 (by omega); omega) | (have k6 := a6 (by omega); omega) | exact absurd ((a2 (by assumption)).symm.trans (by assumption : _ = false)) (by decide) | exact absurd ((a5 (by omega)).symm.trans (by assumption : _ = false)) (by decide) | exact absurd ((a7 (by omega)).symm.trans (by assumption : _ = false)) (by decide) | exact absurd ((a3 _ (getD_mem (i := j) (by omega))).symm.trans (by assumption : _ = false)) (by decide)) | (simp only [resLV, LV.ren, LV.v.injEq, Value.bool.injEq]; exact fits_fin hj18 (fun _ => by omega) (fun _ => by first | assumption | (exfalso; omega)) (fun _ => by omega) (fun _ => by first | assumption | (exfalso; omega)) (by first | exact (if_pos (by omega)).symm | exact (if_neg (by omega)).symm) (by first | exact (if_pos (by omega)).symm | exact (if_neg (by omega)).symm) (by first | exact (if_pos (by omega)).symm | exact (if_neg (by omega)).symm) (by first | exact (if_pos (by omega)).symm | exact (if_neg (by omega)).symm))) (.nil) rfl
             ·exact absurd (g33.symm.trans rfl) (by decide)
            ·have h32 := c_lss_f g32
             refine k_op0 (d := 145) (b := 547) (j' := 15) rfl rfl rfl rfl (g_ff rfl rfl rfl g32) (T_fa D (m := 5) rfl rfl rfl rfl rfl rfl) rfl ?_
             refine k_op0 (d := 146) (b := 563) (j' := 16) rfl rfl rfl rfl (g_ff rfl rfl rfl g32) (T_load_b D rfl rfl rfl rfl rfl rfl) rfl ?_
             refine k_op0 (d := 147) (b := 579) (j' := 17) rfl rfl rfl rfl (g_ff rfl rfl rfl g32) (T_move rfl rfl) rfl ?_
             refine k_op0 (d := 148) (b := 595) (j' := 18) rfl rfl rfl rfl (g_ff rfl rfl rfl g32) (T_fa D (m := 6) rfl rfl rfl rfl rfl rfl) rfl ?_
             refine k_op0 (d := 149) (b := 611) (j' := 19) rfl rfl rfl rfl (g_ff rfl rfl rfl g32) (T_load_b D rfl rfl rfl rfl rfl rfl) rfl ?_
             refine k_op0 (d := 150) (b := 627) (j' := 20) rfl rfl rfl rfl (g_ff rfl rfl rfl g32) (T_sub64 rfl rfl rfl (by first | assumption | omega | (simp; omega))) rfl ?_
             refine k_op0 (d := 151) (b := 643) (j' := 21) rfl rfl rfl rfl (g_ff rfl rfl rfl g32) (T_cmp rfl rfl rfl rfl) rfl ?_
             refine q0 152 659 22 rfl rfl (T_pick_f rfl rfl rfl g32) rfl ?_
             refine k_done rfl ?_
             refine thenK_n ?_
             refine W_cond rfl (fun g34 => ?_) (fun g34 => ?_)
             ·have h34 := c_gtr_t g34
              refine W_seq ?_
              refine W_seqK (b' := 691) rfl rfl ?_
              refine q0 8 675 1 rfl rfl (T_assign rfl rfl) rfl ?_
              refine k_done rfl ?_
              refine thenK_n ?_
              refine W_ret ?_
              refine blockK_r ?_
              refine thenK_r ?_
              exact .mk [] (.inr rfl) (.tmp rfl (.nil)) (by first | rfl | (simp only [resLV, LV.ren, LV.v.injEq, Value.bool.injEq]; refine fits_no (fun hF => ?_); obtain ⟨a1, a2, a3, a4, a5, a6, a7, a8⟩ := hF; first | omega | (have k4 := a4 (by omega); omega) | (have k6 := a6 (by omega); omega) | exact absurd ((a2 (by assumption)).symm.trans (by assumption : _ = false)) (by decide) | exact absurd ((a5 (by omega)).symm.trans (by assumption : _ = false)) (by decide) | exact absurd ((a7 (by omega)).symm.trans (by assumption : _ = false)) (by decide) | exact absurd ((a3 _ (getD_mem (i := j) (by omega))).symm.trans (by assumption : _ = false)) (by decide)) | (simp only [resLV, LV.ren, LV.v.injEq, Value.bool.injEq]; exact fits_fin hj18 (fun _ => by omega) (fun _ => by first | assumption | (exfalso; omega)) (fun _ => by omega) (fun _ => by first | assumption | (exfalso; omega)) (by first | exact (if_pos (by omega)).symm | exact (if_neg (by omega)).symm) (by first | exact (if_pos (by omega)).symm | exact (if_neg (by omega)).symm) (by first | exact (if_pos (by omega)).symm | exact (if_neg (by omega)).symm) (by first | exact (if_pos (by omega)).symm | exact (if_neg (by omega)).symm))) (.nil) rfl
             ·have h34 := c_gtr_f g34
              refine W_skip ?_
              refine blockK_n ?_
              refine thenK_n ?_
              refine W_seq ?_
              refine W_seqK (b' := 739) rfl rfl ?_
              refine q0 163 675 1 rfl rfl (T_load_bA D (l := [_, _, _, _, _, _, _, _]) rfl rfl rfl rfl rfl rfl rfl) rfl ?_
              refine q0 164 691 2 rfl rfl (T_load_bA D (l := [_, _, _, _, _, _, _, _]) rfl rfl rfl rfl rfl rfl rfl) rfl ?_
              refine q0 165 707 3 rfl rfl (T_eqTac8 t rfl rfl rfl) rfl ?_
              refine q0 8 723 4 rfl rfl (T_assign rfl rfl) rfl ?_
              refine k_done rfl ?_
              refine thenK_n ?_
              refine W_ret ?_
              exact .mk [] (.inr rfl) (.tmp rfl (.nil)) (by first | rfl | (simp only [resLV, LV.ren, LV.v.injEq, Value.bool.injEq]; refine fits_no (fun hF => ?_); obtain ⟨a1, a2, a3, a4, a5, a6, a7, a8⟩ := hF; first | omega | (have k4 := a4 (by omega); omega) | (have k6 := a6 (by omega); omega) | exact absurd ((a2 (by assumption)).symm.trans (by assumption : _ = false)) (by decide) | exact absurd ((a5 (by omega)).symm.trans (by assumption : _ = false)) (by decide) | exact absurd ((a7 (by omega)).symm.trans (by assumption : _ = false)) (by decide) | exact absurd ((a3 _ (getD_mem (i := j) (by omega))).symm.trans (by assumption : _ = false)) (by decide)) | (simp only [resLV, LV.ren, LV.v.injEq, Value.bool.injEq]; exact fits_fin hj18 (fun _ => by omega) (fun _ => by first | assumption | (exfalso; omega)) (fun _ => by omega) (fun _ => by first | assumption | (exfalso; omega)) (by first | exact (if_pos (by omega)).symm | exact (if_neg (by omega)).symm) (by first | exact (if_pos (by omega)).symm | exact (if_neg (by omega)).symm) (by first | exact (if_pos (by omega)).symm | exact (if_neg (by omega)).symm) (by first | exact (if_pos (by omega)).symm | exact (if_neg (by omega)).symm))) (.nil) rfl
         ·exact absurd (g27.symm.trans g26) (by decide)
        ·have h26 := c_eql_f g26
         refine W_seqK (b' := 227) rfl rfl ?_
         refine q0 124 195 1 rfl rfl (T_cmp rfl rfl rfl rfl) rfl ?_
         refine q0 122 211 2 rfl rfl (T_assign rfl rfl) rfl ?_
         refine k_done rfl ?_
         refine thenK_n ?_
         refine W_cond rfl (fun g35 => ?_) (fun g35 => ?_)
         ·have h35 := c_eql_t g35
          refine W_seq ?_
          refine W_anyK (b' := 355) rfl rfl rfl ?_
          refine q0 125 227 1 rfl rfl (T_fa D (m := 5) rfl rfl rfl rfl rfl rfl) rfl ?_
          refine q0 126 243 2 rfl rfl (T_load_b D rfl rfl rfl rfl rfl rfl) rfl ?_
          refine q0 127 259 3 rfl rfl (T_fa D (m := 6) rfl rfl rfl rfl rfl rfl) rfl ?_
          refine q0 128 275 4 rfl rfl (T_load_b D rfl rfl rfl rfl rfl rfl) rfl ?_
          refine q0 129 291 5 rfl rfl (T_fa D (m := 5) rfl rfl rfl rfl rfl rfl) rfl ?_
          refine s1 307 6 rfl rfl (T_stB D (cs' := [_, _, _, _, _, _, _, _]) rfl rfl rfl rfl (flat_v rfl) rfl rfl (Nat.le_of_ble_eq_true rfl) rfl) rfl ?_
          refine q0 130 323 7 rfl rfl (T_fa D (m := 6) rfl rfl rfl rfl rfl rfl) rfl ?_
          refine s1 339 8 rfl rfl (T_stB D (cs' := [_, _, _, _, _, _, _, _]) rfl rfl rfl rfl (flat_v rfl) rfl rfl (Nat.le_of_ble_eq_true rfl) rfl) rfl ?_
          refine k_done rfl ?_
          refine ⟨rfl, ?_⟩
          refine thenK_n ?_
          refine W_seq ?_
          refine W_seqK (b' := 707) rfl rfl ?_
          refine q0 131 355 1 rfl rfl (T_fa D (m := 6) rfl rfl rfl rfl rfl rfl) rfl ?_
          refine q0 132 371 2 rfl rfl (T_load_b D rfl rfl rfl rfl rfl rfl) rfl ?_
          refine q0 133 387 3 rfl rfl (T_cmp rfl rfl rfl rfl) rfl ?_
          refine q0 134 403 4 rfl rfl (T_move rfl rfl) rfl ?_
          refine k_split (d := 134) rfl (fun g36 => ?_) (fun g36 => ?_)
          ·have h36 := c_lss_t g36
           refine k_no (d := 135) (j' := 5) rfl rfl rfl (g_ft rfl rfl rfl g36) ?_
           refine k_no (d := 136) (j' := 6) rfl rfl rfl (g_ft rfl rfl rfl g36) ?_
           refine k_no (d := 137) (j' := 7) rfl rfl rfl (g_ft rfl rfl rfl g36) ?_
           refine q0 138 467 8 rfl rfl (T_pick_t rfl rfl rfl g36) rfl ?_
           refine q0 139 483 9 rfl rfl (T_move rfl rfl) rfl ?_
           refine k_no (d := 140) (j' := 10) rfl rfl rfl (g_ft rfl rfl rfl rfl) ?_
           refine k_no (d := 141) (j' := 11) rfl rfl rfl (g_ft rfl rfl rfl rfl) ?_
           refine k_no (d := 142) (j' := 12) rfl rfl rfl (g_ft rfl rfl rfl rfl) ?_
           refine q0 143 547 13 rfl rfl (T_pick_t rfl rfl rfl rfl) rfl ?_
           refine q0 144 563 14 rfl rfl (T_move rfl rfl) rfl ?_
           refine k_no (d := 145) (j' := 15) rfl rfl rfl (g_ft rfl rfl rfl rfl) ?_
           refine k_no (d := 146) (j' := 16) rfl rfl rfl (g_ft rfl rfl rfl rfl) ?_
           refine k_no (d := 147) (j' := 17) rfl rfl rfl (g_ft rfl rfl rfl rfl) ?_
           refine k_no (d := 148) (j' := 18) rfl rfl rfl (g_ft rfl rfl rfl rfl) ?_
           refine k_no (d := 149) (j' := 19) rfl rfl rfl (g_ft rfl rfl rfl rfl) ?_
           refine k_no (d := 150) (j' := 20) rfl rfl rfl (g_ft rfl rfl rfl rfl) ?_
           refine k_no (d := 151) (j' := 21) rfl rfl rfl (g_ft rfl rfl rfl rfl) ?_
           refine q0 152 691 22 rfl rfl (T_pick_t rfl rfl rfl rfl) rfl ?_
           refine k_done rfl ?_
           refine thenK_n ?_
           refine W_cond rfl (fun g37 => ?_) (fun g37 => ?_)
           ·skip
            refine W_seq ?_
            refine W_seqK (b' := 723) rfl rfl ?_
            refine q0 8 707 1 rfl rfl (T_assign rfl rfl) rfl ?_
            refine k_done rfl ?_
            refine thenK_n ?_
            refine W_ret ?_
            refine blockK_r ?_
            refine thenK_r ?_
            exact .mk [] (.inr rfl) (.tmp rfl (.nil)) (by first | rfl | (simp only [resLV, LV.ren, LV.v.injEq, Value.bool.injEq]; refine fits_no (fun hF => ?_); obtain ⟨a1, a2, a3, a4, a5, a6, a7, a8⟩ := hF; first | omega | (have k4 := a4 (by omega); omega) | (have k6 := a6 (by omega); omega) | exact absurd ((a2 (by assumption)).symm.trans (by assumption : _ = false)) (by decide) | exact absurd ((a5 (by omega)).symm.trans (by assumption : _ = false)) (by decide) | exact absurd ((a7 (by omega)).symm.trans (by assumption : _ = false)) (by decide) | exact absurd ((a3 _ (getD_mem (i := j) (by omega))).symm.trans (by assumption : _ = false)) (by decide)) | (simp only [resLV, LV.ren, LV.v.injEq, Value.bool.injEq]; exact fits_fin hj18 (fun _ => by omega) (fun _ => by first | assumption | (exfalso; omega)) (fun _ => by omega) (fun _ => by first | assumption | (exfalso; omega)) (by first | exact (if_pos (by omega)).symm | exact (if_neg (by omega)).symm) (by first | exact (if_pos (by omega)).symm | exact (if_neg (by omega)).symm) (by first | exact (if_pos (by omega)).symm | exact (if_neg (by omega)).symm) (by first | exact (if_pos (by omega)).symm | exact (if_neg (by omega)).symm))) (.nil) rfl
           ·exact absurd (g37.symm.trans rfl) (by decide)
          ·have h36 := c_lss_f g36
           refine k_op0 (d := 135) (b := 419) (j' := 5) rfl rfl rfl rfl (g_ff rfl rfl rfl g36) (T_fa D (m := 6) rfl rfl rfl rfl rfl rfl) rfl ?_
           refine k_op0 (d := 136) (b := 435) (j' := 6) rfl rfl rfl rfl (g_ff rfl rfl rfl g36) (T_load_b D rfl rfl rfl rfl rfl rfl) rfl ?_
           refine k_op0 (d := 137) (b := 451) (j' := 7) rfl rfl rfl rfl (g_ff rfl rfl rfl g36) (T_cmp rfl rfl rfl rfl) rfl ?_
           refine q0 138 467 8 rfl rfl (T_pick_f rfl rfl rfl g36) rfl ?_
           refine q0 139 483 9 rfl rfl (T_move rfl rfl) rfl ?_
           refine k_split (d := 139) rfl (fun g38 => ?_) (fun g38 => ?_)
           ·have h38 := c_gtr_t g38
            refine k_no (d := 140) (j' := 10) rfl rfl rfl (g_ft rfl rfl rfl g38) ?_
            refine k_no (d := 141) (j' := 11) rfl rfl rfl (g_ft rfl rfl rfl g38) ?_
            refine k_no (d := 142) (j' := 12) rfl rfl rfl (g_ft rfl rfl rfl g38) ?_
            refine q0 143 547 13 rfl rfl (T_pick_t rfl rfl rfl g38) rfl ?_
            refine q0 144 563 14 rfl rfl (T_move rfl rfl) rfl ?_
            refine k_no (d := 145) (j' := 15) rfl rfl rfl (g_ft rfl rfl rfl rfl) ?_
            refine k_no (d := 146) (j' := 16) rfl rfl rfl (g_ft rfl rfl rfl rfl) ?_
            refine k_no (d := 147) (j' := 17) rfl rfl rfl (g_ft rfl rfl rfl rfl) ?_
            refine k_no (d := 148) (j' := 18) rfl rfl rfl (g_ft rfl rfl rfl rfl) ?_
            refine k_no (d := 149) (j' := 19) rfl rfl rfl (g_ft rfl rfl rfl rfl) ?_
            refine k_no (d := 150) (j' := 20) rfl rfl rfl (g_ft rfl rfl rfl rfl) ?_
            refine k_no (d := 151) (j' := 21) rfl rfl rfl (g_ft rfl rfl rfl rfl) ?_
            refine q0 152 691 22 rfl rfl (T_pick_t rfl rfl rfl rfl) rfl ?_
            refine k_done rfl ?_
            refine thenK_n ?_
            refine W_cond rfl (fun g39 => ?_) (fun g39 => ?_)
            ·skip
             refine W_seq ?_
             refine W_seqK (b' := 723) rfl rfl ?_
             refine q0 8 707 1 rfl rfl (T_assign rfl rfl) rfl ?_
             refine k_done rfl ?_
             refine thenK_n ?_
             refine W_ret ?_
             refine blockK_r ?_
             refine thenK_r ?_
             exact .mk [] (.inr rfl) (.tmp rfl (.nil)) (by first | rfl | (simp only [resLV, LV.ren, LV.v.injEq, Value.bool.injEq]; refine fits_no (fun hF => ?_); obtain ⟨a1, a2, a3, a4, a5, a6, a7, a8⟩ := hF; first | omega | (have k4 := a4 (by omega); omega) | (have k6 := a6 (by omega); omega) | exact absurd ((a2 (by assumption)).symm.trans (by assumption : _ = false)) (by decide) | exact absurd ((a5 (by omega)).symm.trans (by assumption : _ = false)) (by decide) | exact absurd ((a7 (by omega)).symm.trans (by assumption : _ = false)) (by decide) | exact absurd ((a3 _ (getD_mem (i := j) (by omega))).symm.trans (by assumption : _ = false)) (by decide)) | (simp only [resLV, LV.ren, LV.v.injEq, Value.bool.injEq]; exact fits_fin hj18 (fun _ => by omega) (fun _ => by first | assumption | (exfalso; omega)) (fun _ => by omega) (fun _ => by first | assumption | (exfalso; omega)) (by first | exact (if_pos (by omega)).symm | exact (if_neg (by omega)).symm) (by first | exact (if_pos (by omega)).symm | exact (if_neg (by omega)).symm) (by first | exact (if_pos (by omega)).symm | exact (if_neg (by omega)).symm) (by first | exact (if_pos (by omega)).symm | exact (if_neg (by omega)).symm))) (.nil) rfl
            ·exact absurd (g39.symm.trans rfl) (by decide)
           ·have h38 := c_gtr_f g38
            refine k_op0 (d := 140) (b := 499) (j' := 10) rfl rfl rfl rfl (g_ff rfl rfl rfl g38) (T_fa D (m := 5) rfl rfl rfl rfl rfl rfl) rfl ?_
            refine k_op0 (d := 141) (b := 515) (j' := 11) rfl rfl rfl rfl (g_ff rfl rfl rfl g38) (T_load_b D rfl rfl rfl rfl rfl rfl) rfl ?_
            refine k_op0 (d := 142) (b := 531) (j' := 12) rfl rfl rfl rfl (g_ff rfl rfl rfl g38) (T_cmp rfl rfl rfl rfl) rfl ?_
            refine q0 143 547 13 rfl rfl (T_pick_f rfl rfl rfl g38) rfl ?_
            refine q0 144 563 14 rfl rfl (T_move rfl rfl) rfl ?_
            refine k_split (d := 144) rfl (fun g40 => ?_) (fun g40 => ?_)
            ·have h40 := c_lss_t g40
             refine k_no (d := 145) (j' := 15) rfl rfl rfl (g_ft rfl rfl rfl g40) ?_
             refine k_no (d := 146) (j' := 16) rfl rfl rfl (g_ft rfl rfl rfl g40) ?_
             refine k_no (d := 147) (j' := 17) rfl rfl rfl (g_ft rfl rfl rfl g40) ?_
             refine k_no (d := 148) (j' := 18) rfl rfl rfl (g_ft rfl rfl rfl g40) ?_
             refine k_no (d := 149) (j' := 19) rfl rfl rfl (g_ft rfl rfl rfl g40) ?_
             refine k_no (d := 150) (j' := 20) rfl rfl rfl (g_ft rfl rfl rfl g40) ?_
             refine k_no (d := 151) (j' := 21) rfl rfl rfl (g_ft rfl rfl rfl g40) ?_
             refine q0 152 691 22 rfl rfl (T_pick_t rfl rfl rfl g40) rfl ?_
             refine k_done rfl ?_
             refine thenK_n ?_
             refine W_cond rfl (fun g41 => ?_) (fun g41 => ?_)
             ·skip
              refine W_seq ?_
              refine W_seqK (b' := 723) rfl rfl ?_
              refine q0 8 707 1 rfl rfl (T_assign rfl rfl) rfl ?_
              refine k_done rfl ?_
              refine thenK_n ?_
              refine W_ret ?_
              refine blockK_r ?_
              refine thenK_r ?_
              exact .mk [] (.inr rfl) (.tmp rfl (.nil)) (by first | rfl | (simp only [resLV, LV.ren, LV.v.injEq, Value.bool.injEq]; refine fits_no (fun hF => ?_); obtain ⟨a1, a2, a3, a4, a5, a6, a7, a8⟩ := hF; first | omega | (have k4 := a4 (by omega); omega) | (have k6 := a6 (by omega); omega) | exact absurd ((a2 (by assumption)).symm.trans (by assumption : _ = false)) (by decide) | exact absurd ((a5 (by omega)).symm.trans (by assumption : _ = false)) (by decide) | exact absurd ((a7 (by omega)).symm.trans (by assumption : _ = false)) (by decide) | exact absurd ((a3 _ (getD_mem (i := j) (by omega))).symm.trans (by assumption : _ = false)) (by decide)) | (simp only [resLV, LV.ren, LV.v.injEq, Value.bool.injEq]; exact fits_fin hj18 (fun _ => by omega) (fun _ => by first | assumption | (exfalso; omega)) (fun _ => by omega) (fun _ => by first | assumption | (exfalso; omega)) (by first | exact (if_pos (by omega)).symm | exact (if_neg (by omega)).symm) (by first | exact (if_pos (by omega)).symm | exact (if_neg (by omega)).symm) (by first | exact (if_pos (by omega)).symm | exact (if_neg (by omega)).symm) (by first | exact (if_pos (by omega)).symm | exact (if_neg (by omega)).symm))) (.nil) rfl
             ·exact absurd (g41.symm.trans rfl) (by decide)
            ·have h40 := c_lss_f g40
             refine k_op0 (d := 145) (b := 579) (j' := 15) rfl rfl rfl rfl (g_ff rfl rfl rfl g40) (T_fa D (m := 5) rfl rfl rfl rfl rfl rfl) rfl ?_
             refine k_op0 (d := 146) (b := 595) (j' := 16) rfl rfl rfl rfl (g_ff rfl rfl rfl g40) (T_load_b D rfl rfl rfl rfl rfl rfl) rfl ?_
             refine k_op0 (d := 147) (b := 611) (j' := 17) rfl rfl rfl rfl (g_ff rfl rfl rfl g40) (T_move rfl rfl) rfl ?_
             refine k_op0 (d := 148) (b := 627) (j' := 18) rfl rfl rfl rfl (g_ff rfl rfl rfl g40) (T_fa D (m := 6) rfl rfl rfl rfl rfl rfl) rfl ?_
             refine k_op0 (d := 149) (b := 643) (j' := 19) rfl rfl rfl rfl (g_ff rfl rfl rfl g40) (T_load_b D rfl rfl rfl rfl rfl rfl) rfl ?_
             refine k_op0 (d := 150) (b := 659) (j' := 20) rfl rfl rfl rfl (g_ff rfl rfl rfl g40) (T_sub64 rfl rfl rfl (by first | assumption | omega | (simp; omega))) rfl ?_
             refine k_op0 (d := 151) (b := 675) (j' := 21) rfl rfl rfl rfl (g_ff rfl rfl rfl g40) (T_cmp rfl rfl rfl rfl) rfl ?_
             refine q0 152 691 22 rfl rfl (T_pick_f rfl rfl rfl g40) rfl ?_
             refine k_done rfl ?_
             refine thenK_n ?_
             refine W_cond rfl (fun g42 => ?_) (fun g42 => ?_)
             ·have h42 := c_gtr_t g42
              refine W_seq ?_
              refine W_seqK (b' := 723) rfl rfl ?_
              refine q0 8 707 1 rfl rfl (T_assign rfl rfl) rfl ?_
              refine k_done rfl ?_
              refine thenK_n ?_
              refine W_ret ?_
              refine blockK_r ?_
              refine thenK_r ?_
              exact .mk [] (.inr rfl) (.tmp rfl (.nil)) (by first | rfl | (simp only [resLV, LV.ren, LV.v.injEq, Value.bool.injEq]; refine fits_no (fun hF => ?_); obtain ⟨a1, a2, a3, a4, a5, a6, a7, a8⟩ := hF; first | omega | (have k4 := a4 (by omega); omega) | (have k6 := a6 (by omega); omega) | exact absurd ((a2 (by assumption)).symm.trans (by assumption : _ = false)) (by decide) | exact absurd ((a5 (by omega)).symm.trans (by assumption : _ = false)) (by decide) | exact absurd ((a7 (by omega)).symm.trans (by assumption : _ = false)) (by decide) | exact absurd ((a3 _ (getD_mem (i := j) (by omega))).symm.trans (by assumption : _ = false)) (by decide)) | (simp only [resLV, LV.ren, LV.v.injEq, Value.bool.injEq]; exact fits_fin hj18 (fun _ => by omega) (fun _ => by first | assumption | (exfalso; omega)) (fun _ => by omega) (fun _ => by first | assumption | (exfalso; omega)) (by first | exact (if_pos (by omega)).symm | exact (if_neg (by omega)).symm) (by first | exact (if_pos (by omega)).symm | exact (if_neg (by omega)).symm) (by first | exact (if_pos (by omega)).symm | exact (if_neg (by omega)).symm) (by first | exact (if_pos (by omega)).symm | exact (if_neg (by omega)).symm))) (.nil) rfl
             ·have h42 := c_gtr_f g42
              refine W_skip ?_
              refine blockK_n ?_
              refine thenK_n ?_
              refine W_seq ?_
              refine W_seqK (b' := 771) rfl rfl ?_
              refine q0 163 707 1 rfl rfl (T_load_bA D (l := [_, _, _, _, _, _, _, _]) rfl rfl rfl rfl rfl rfl rfl) rfl ?_
              refine q0 164 723 2 rfl rfl (T_load_bA D (l := [_, _, _, _, _, _, _, _]) rfl rfl rfl rfl rfl rfl rfl) rfl ?_
              refine q0 165 739 3 rfl rfl (T_eqTac8 t rfl rfl rfl) rfl ?_
              refine q0 8 755 4 rfl rfl (T_assign rfl rfl) rfl ?_
              refine k_done rfl ?_
              refine thenK_n ?_
              refine W_ret ?_
              exact .mk [] (.inr rfl) (.tmp rfl (.nil)) (by first | rfl | (simp only [resLV, LV.ren, LV.v.injEq, Value.bool.injEq]; refine fits_no (fun hF => ?_); obtain ⟨a1, a2, a3, a4, a5, a6, a7, a8⟩ := hF; first | omega | (have k4 := a4 (by omega); omega) | (have k6 := a6 (by omega); omega) | exact absurd ((a2 (by assumption)).symm.trans (by assumption : _ = false)) (by decide) | exact absurd ((a5 (by omega)).symm.trans (by assumption : _ = false)) (by decide) | exact absurd ((a7 (by omega)).symm.trans (by assumption : _ = false)) (by decide) | exact absurd ((a3 _ (getD_mem (i := j) (by omega))).symm.trans (by assumption : _ = false)) (by decide)) | (simp only [resLV, LV.ren, LV.v.injEq, Value.bool.injEq]; exact fits_fin hj18 (fun _ => by omega) (fun _ => by first | assumption | (exfalso; omega)) (fun _ => by omega) (fun _ => by first | assumption | (exfalso; omega)) (by first | exact (if_pos (by omega)).symm | exact (if_neg (by omega)).symm) (by first | exact (if_pos (by omega)).symm | exact (if_neg (by omega)).symm) (by first | exact (if_pos (by omega)).symm | exact (if_neg (by omega)).symm) (by first | exact (if_pos (by omega)).symm | exact (if_neg (by omega)).symm))) (.nil) rfl
         ·have h35 := c_eql_f g35
          refine W_seq ?_
          refine W_seqK (b' := 259) rfl rfl ?_
          refine q0 154 227 1 rfl rfl (T_cmp rfl rfl rfl rfl) rfl ?_
          refine q0 153 243 2 rfl rfl (T_assign rfl rfl) rfl ?_
          refine k_done rfl ?_
          refine thenK_n ?_
          refine W_cond rfl (fun g43 => ?_) (fun g43 => ?_)
          ·have h43 := c_eql_t g43
           refine W_seq ?_
           refine W_seqK (b' := 323) rfl rfl ?_
           refine q0 155 259 1 rfl rfl (T_fa D (m := 5) rfl rfl rfl rfl rfl rfl) rfl ?_
           refine q0 156 275 2 rfl rfl (T_load_b D rfl rfl rfl rfl rfl rfl) rfl ?_
           refine q0 157 291 3 rfl rfl (T_fa D (m := 5) rfl rfl rfl rfl rfl rfl) rfl ?_
           refine s1 307 4 rfl rfl (T_stB D (cs' := [_, _, _, _, _, _, _, _]) rfl rfl rfl rfl (flat_v rfl) rfl rfl (Nat.le_of_ble_eq_true rfl) rfl) rfl ?_
           refine k_done rfl ?_
           refine thenK_n ?_
           refine W_seq ?_
           refine W_seqK (b' := 403) rfl rfl ?_
           refine q0 158 323 1 rfl rfl (T_fa D (m := 5) rfl rfl rfl rfl rfl rfl) rfl ?_
           refine q0 159 339 2 rfl rfl (T_load_b D rfl rfl rfl rfl rfl rfl) rfl ?_
           refine q0 160 355 3 rfl rfl (T_move rfl rfl) rfl ?_
           refine q0 161 371 4 rfl rfl (T_callV (lvs := [_, _]) (L := []) (within_spec _ _) body125 rfl rfl rfl rfl (.nil) rfl) rfl ?_
           refine q0 162 387 5 rfl rfl (T_not rfl rfl) rfl ?_
           refine k_done rfl ?_
           refine thenK_n ?_
           refine W_cond rfl (fun g44 => ?_) (fun g44 => ?_)
           ·have h44 := g44; (try simp only [cmpB, decide_eq_true_eq, decide_eq_false_iff_not, beq_iff_eq, beq_eq_false_iff_ne, bne_iff_ne, ne_eq, bne_eq_false_iff_eq, Bool.not_eq_true', Bool.not_eq_false', Int.not_lt, Int.not_le] at h44)
            refine W_seq ?_
            refine W_seqK (b' := 419) rfl rfl ?_
            refine q0 8 403 1 rfl rfl (T_assign rfl rfl) rfl ?_
            refine k_done rfl ?_
            refine thenK_n ?_
            refine W_ret ?_
            refine blockK_r ?_
            refine thenK_r ?_
            exact .mk [] (.inr rfl) (.tmp rfl (.nil)) (by first | rfl | (simp only [resLV, LV.ren, LV.v.injEq, Value.bool.injEq]; refine fits_no (fun hF => ?_); obtain ⟨a1, a2, a3, a4, a5, a6, a7, a8⟩ := hF; first | omega | (have k4 := a4 (by omega); omega) | (have k6 := a6 (by omega); omega) | exact absurd ((a2 (by assumption)).symm.trans (by assumption : _ = false)) (by decide) | exact absurd ((a5 (by omega)).symm.trans (by assumption : _ = false)) (by decide) | exact absurd ((a7 (by omega)).symm.trans (by assumption : _ = false)) (by decide) | exact absurd ((a3 _ (getD_mem (i := j) (by omega))).symm.trans (by assumption : _ = false)) (by decide)) | (simp only [resLV, LV.ren, LV.v.injEq, Value.bool.injEq]; exact fits_fin hj18 (fun _ => by omega) (fun _ => by first | assumption | (exfalso; omega)) (fun _ => by omega) (fun _ => by first | assumption | (exfalso; omega)) (by first | exact (if_pos (by omega)).symm | exact (if_neg (by omega)).symm) (by first | exact (if_pos (by omega)).symm | exact (if_neg (by omega)).symm) (by first | exact (if_pos (by omega)).symm | exact (if_neg (by omega)).symm) (by first | exact (if_pos (by omega)).symm | exact (if_neg (by omega)).symm))) (.nil) rfl
           ·have h44 := g44; (try simp only [cmpB, decide_eq_true_eq, decide_eq_false_iff_not, beq_iff_eq, beq_eq_false_iff_ne, bne_iff_ne, ne_eq, bne_eq_false_iff_eq, Bool.not_eq_true', Bool.not_eq_false', Int.not_lt, Int.not_le] at h44)
            refine W_skip ?_
            refine blockK_n ?_
            refine thenK_n ?_
            refine W_seq ?_
            refine W_seqK (b' := 467) rfl rfl ?_
            refine q0 163 403 1 rfl rfl (T_load_bA D (l := [_, _, _, _, _, _, _, _]) rfl rfl rfl rfl rfl rfl rfl) rfl ?_
            refine q0 164 419 2 rfl rfl (T_load_bA D (l := [_, _, _, _, _, _, _, _]) rfl rfl rfl rfl rfl rfl rfl) rfl ?_
            refine q0 165 435 3 rfl rfl (T_eqTac8 t rfl rfl rfl) rfl ?_
            refine q0 8 451 4 rfl rfl (T_assign rfl rfl) rfl ?_
            refine k_done rfl ?_
            refine thenK_n ?_
            refine W_ret ?_
            exact .mk [] (.inr rfl) (.tmp rfl (.nil)) (by first | rfl | (simp only [resLV, LV.ren, LV.v.injEq, Value.bool.injEq]; refine fits_no (fun hF => ?_); obtain ⟨a1, a2, a3, a4, a5, a6, a7, a8⟩ := hF; first | omega | (have k4 := a4 (by omega); omega) | (have k6 := a6 (by omega); omega) | exact absurd ((a2 (by assumption)).symm.trans (by assumption : _ = false)) (by decide) | exact absurd ((a5 (by omega)).symm.trans (by assumption : _ = false)) (by decide) | exact absurd ((a7 (by omega)).symm.trans (by assumption : _ = false)) (by decide) | exact absurd ((a3 _ (getD_mem (i := j) (by omega))).symm.trans (by assumption : _ = false)) (by decide)) | (simp only [resLV, LV.ren, LV.v.injEq, Value.bool.injEq]; exact fits_fin hj18 (fun _ => by omega) (fun _ => by first | assumption | (exfalso; omega)) (fun _ => by omega) (fun _ => by first | assumption | (exfalso; omega)) (by first | exact (if_pos (by omega)).symm | exact (if_neg (by omega)).symm) (by first | exact (if_pos (by omega)).symm | exact (if_neg (by omega)).symm) (by first | exact (if_pos (by omega)).symm | exact (if_neg (by omega)).symm) (by first | exact (if_pos (by omega)).symm | exact (if_neg (by omega)).symm))) (.nil) rfl
          ·have h43 := c_eql_f g43
           refine W_skip ?_
           refine blockK_n ?_
           refine thenK_n ?_
           refine W_seq ?_
           refine W_seqK (b' := 323) rfl rfl ?_
           refine q0 163 259 1 rfl rfl (T_load_bA D (l := [_, _, _, _, _, _, _, _]) rfl rfl rfl rfl rfl rfl rfl) rfl ?_
           refine q0 164 275 2 rfl rfl (T_load_bA D (l := [_, _, _, _, _, _, _, _]) rfl rfl rfl rfl rfl rfl rfl) rfl ?_
           refine q0 165 291 3 rfl rfl (T_eqTac8 t rfl rfl rfl) rfl ?_
           refine q0 8 307 4 rfl rfl (T_assign rfl rfl) rfl ?_
           refine k_done rfl ?_
           refine thenK_n ?_
           refine W_ret ?_
           exact .mk [] (.inr rfl) (.tmp rfl (.nil)) (by first | rfl | (simp only [resLV, LV.ren, LV.v.injEq, Value.bool.injEq]; refine fits_no (fun hF => ?_); obtain ⟨a1, a2, a3, a4, a5, a6, a7, a8⟩ := hF; first | omega | (have k4 := a4 (by omega); omega) | (have k6 := a6 (by omega); omega) | exact absurd ((a2 (by assumption)).symm.trans (by assumption : _ = false)) (by decide) | exact absurd ((a5 (by omega)).symm.trans (by assumption : _ = false)) (by decide) | exact absurd ((a7 (by omega)).symm.trans (by assumption : _ = false)) (by decide) | exact absurd ((a3 _ (getD_mem (i := j) (by omega))).symm.trans (by assumption : _ = false)) (by decide)) | (simp only [resLV, LV.ren, LV.v.injEq, Value.bool.injEq]; exact fits_fin hj18 (fun _ => by omega) (fun _ => by first | assumption | (exfalso; omega)) (fun _ => by omega) (fun _ => by first | assumption | (exfalso; omega)) (by first | exact (if_pos (by omega)).symm | exact (if_neg (by omega)).symm) (by first | exact (if_pos (by omega)).symm | exact (if_neg (by omega)).symm) (by first | exact (if_pos (by omega)).symm | exact (if_neg (by omega)).symm) (by first | exact (if_pos (by omega)).symm | exact (if_neg (by omega)).symm))) (.nil) rfl
end Lg
end Go.Proofs.Ytpfhmodjjljpjaa

namespace Go.Proofs.Ytpfhmodjjljpjaa
open Go.RowKit
namespace Lg
set_option maxRecDepth 100000
set_option linter.unusedVariables false
set_option linter.unusedSimpArgs false
theorem body47 : (Try.prog.funcs[47]?).map (fun fn => (fn.name == "runtime.NumGoroutine" || fn.body.isNone)) = some false := by kernel_rfl
theorem one_fn_spec (f : GFn) (number words : Int) (hf : FnOk f) (hw : -4611686018427387904 ≤ words ∧ words ≤ 4611686018427387904) : Spec Try.prog 47 [.agg [.v (.int .i64 f.regs), .r 1], .v (.int .i64 number), .v (.int .i64 words)] 2 [(1, .fz 5 (f.blocks.map eBlock))] (.v (.bool (oneB f number words))) 2 [] := by
 have hf1 := hf.1
 refine spec_of D (fn := Try.f47) rfl rfl (Nat.le_of_ble_eq_true rfl) ?_
 refine W_seq ?_
 refine W_seqK (b' := 34) rfl rfl ?_
 refine q1 3 2 1 rfl rfl (T_box rfl rfl flat_agg) rfl ?_
 refine q0 6 18 2 rfl rfl (T_assign rfl rfl) rfl ?_
 refine k_done rfl ?_
 refine thenK_n ?_
 refine W_seq ?_
 refine W_seq ?_
 refine W_seqK (b' := 258) rfl rfl ?_
 refine q0 9 34 1 rfl rfl (T_fa D (m := 0) rfl rfl rfl rfl rfl rfl) rfl ?_
 refine q0 10 50 2 rfl rfl (T_load_b D rfl rfl rfl rfl rfl rfl) rfl ?_
 refine q0 11 66 3 rfl rfl (T_cmp rfl rfl rfl rfl) rfl ?_
 refine q0 12 82 4 rfl rfl (T_move rfl rfl) rfl ?_
 refine k_split (d := 12) rfl (fun g1 => ?_) (fun g1 => ?_)
 ·have h1 := c_lss_t g1
  refine k_no (d := 13) (j' := 5) rfl rfl rfl (g_ft rfl rfl rfl g1) ?_
  refine k_no (d := 14) (j' := 6) rfl rfl rfl (g_ft rfl rfl rfl g1) ?_
  refine k_no (d := 15) (j' := 7) rfl rfl rfl (g_ft rfl rfl rfl g1) ?_
  refine q0 16 146 8 rfl rfl (T_pick_t rfl rfl rfl g1) rfl ?_
  refine q0 17 162 9 rfl rfl (T_move rfl rfl) rfl ?_
  refine k_no (d := 18) (j' := 10) rfl rfl rfl (g_ft rfl rfl rfl rfl) ?_
  refine k_no (d := 19) (j' := 11) rfl rfl rfl (g_ft rfl rfl rfl rfl) ?_
  refine k_no (d := 20) (j' := 12) rfl rfl rfl (g_ft rfl rfl rfl rfl) ?_
  refine k_no (d := 21) (j' := 13) rfl rfl rfl (g_ft rfl rfl rfl rfl) ?_
  refine q0 22 242 14 rfl rfl (T_pick_t rfl rfl rfl rfl) rfl ?_
  refine k_done rfl ?_
  refine thenK_n ?_
  refine W_cond rfl (fun g2 => ?_) (fun g2 => ?_)
  ·skip
   refine W_seq ?_
   refine W_seqK (b' := 274) rfl rfl ?_
   refine q0 6 258 1 rfl rfl (T_assign rfl rfl) rfl ?_
   refine k_done rfl ?_
   refine thenK_n ?_
   refine W_ret ?_
   refine thenK_r ?_
   exact .mk [] (.inr rfl) (.tmp rfl (.nil)) (by first | rfl | (simp only [resLV, LV.ren, LV.v.injEq, Value.bool.injEq]; first | exact one_no1 (by omega) | exact one_no2 (j := j) (by omega) (by assumption) | exact one_no3 (j := j) (i := i) (by omega) (by omega) (by assumption) | exact one_yes (by omega) (by omega) (fun i h => hJ.2 i (by omega)))) (.nil) rfl
  ·exact absurd (g2.symm.trans rfl) (by decide)
 ·have h1 := c_lss_f g1
  refine k_op0 (d := 13) (b := 98) (j' := 5) rfl rfl rfl rfl (g_ff rfl rfl rfl g1) (T_fa D (m := 0) rfl rfl rfl rfl rfl rfl) rfl ?_
  refine k_op0 (d := 14) (b := 114) (j' := 6) rfl rfl rfl rfl (g_ff rfl rfl rfl g1) (T_load_b D rfl rfl rfl rfl rfl rfl) rfl ?_
  refine k_op0 (d := 15) (b := 130) (j' := 7) rfl rfl rfl rfl (g_ff rfl rfl rfl g1) (T_cmp rfl rfl rfl rfl) rfl ?_
  refine q0 16 146 8 rfl rfl (T_pick_f rfl rfl rfl g1) rfl ?_
  refine q0 17 162 9 rfl rfl (T_move rfl rfl) rfl ?_
  refine k_split (d := 17) rfl (fun g3 => ?_) (fun g3 => ?_)
  ·have h3 := c_gtr_t g3
   refine k_no (d := 18) (j' := 10) rfl rfl rfl (g_ft rfl rfl rfl g3) ?_
   refine k_no (d := 19) (j' := 11) rfl rfl rfl (g_ft rfl rfl rfl g3) ?_
   refine k_no (d := 20) (j' := 12) rfl rfl rfl (g_ft rfl rfl rfl g3) ?_
   refine k_no (d := 21) (j' := 13) rfl rfl rfl (g_ft rfl rfl rfl g3) ?_
   refine q0 22 242 14 rfl rfl (T_pick_t rfl rfl rfl g3) rfl ?_
   refine k_done rfl ?_
   refine thenK_n ?_
   refine W_cond rfl (fun g4 => ?_) (fun g4 => ?_)
   ·skip
    refine W_seq ?_
    refine W_seqK (b' := 274) rfl rfl ?_
    refine q0 6 258 1 rfl rfl (T_assign rfl rfl) rfl ?_
    refine k_done rfl ?_
    refine thenK_n ?_
    refine W_ret ?_
    refine thenK_r ?_
    exact .mk [] (.inr rfl) (.tmp rfl (.nil)) (by first | rfl | (simp only [resLV, LV.ren, LV.v.injEq, Value.bool.injEq]; first | exact one_no1 (by omega) | exact one_no2 (j := j) (by omega) (by assumption) | exact one_no3 (j := j) (i := i) (by omega) (by omega) (by assumption) | exact one_yes (by omega) (by omega) (fun i h => hJ.2 i (by omega)))) (.nil) rfl
   ·exact absurd (g4.symm.trans rfl) (by decide)
  ·have h3 := c_gtr_f g3
   refine k_op0 (d := 18) (b := 178) (j' := 10) rfl rfl rfl rfl (g_ff rfl rfl rfl g3) (T_fa D (m := 1) rfl rfl rfl rfl rfl rfl) rfl ?_
   refine k_op0 (d := 19) (b := 194) (j' := 11) rfl rfl rfl rfl (g_ff rfl rfl rfl g3) (T_load_b D rfl rfl rfl rfl rfl rfl) rfl ?_
   refine k_op0 (d := 20) (b := 210) (j' := 12) rfl rfl rfl rfl (g_ff rfl rfl rfl g3) (T_len D rfl rfl rfl rfl rfl rfl) rfl ?_
   refine k_op0 (d := 21) (b := 226) (j' := 13) rfl rfl rfl rfl (g_ff rfl rfl rfl g3) (T_cmp rfl rfl rfl rfl) rfl ?_
   refine q0 22 242 14 rfl rfl (T_pick_f rfl rfl rfl g3) rfl ?_
   refine k_done rfl ?_
   refine thenK_n ?_
   refine W_cond rfl (fun g5 => ?_) (fun g5 => ?_)
   ·have h5 := c_eql_t g5
    refine W_seq ?_
    refine W_seqK (b' := 274) rfl rfl ?_
    refine q0 6 258 1 rfl rfl (T_assign rfl rfl) rfl ?_
    refine k_done rfl ?_
    refine thenK_n ?_
    refine W_ret ?_
    refine thenK_r ?_
    exact .mk [] (.inr rfl) (.tmp rfl (.nil)) (by first | rfl | (simp only [resLV, LV.ren, LV.v.injEq, Value.bool.injEq]; first | exact one_no1 (by omega) | exact one_no2 (j := j) (by omega) (by assumption) | exact one_no3 (j := j) (i := i) (by omega) (by omega) (by assumption) | exact one_yes (by omega) (by omega) (fun i h => hJ.2 i (by omega)))) (.nil) rfl
   ·have h5 := c_eql_f g5
    refine W_skip ?_
    refine thenK_n ?_
    refine W_seq ?_
    refine W_seq ?_
    refine W_seqK (b' := 274) rfl rfl ?_
    refine q0 7 258 1 rfl rfl (T_assign rfl rfl) rfl ?_
    refine k_done rfl ?_
    refine thenK_n ?_
    refine W_block ?_
    refine W_loop (ι := Nat) 3 (fun j => ⟨[(1, .v (.int .i64 number)), (2, .v (.int .i64 words)), (3, .p 2 0), (7, .v (.int .i64 (j : Int)))], [(1, .fz 5 (f.blocks.map eBlock)), (2, .box 29 [.v (.int .i64 f.regs), .r 1])]⟩) (fun j => j ≤ f.blocks.length ∧ ∀ i, i < j → blockB (f.blocks.getD i default) f.blocks.length number f.regs words = true) (fun j => f.blocks.length - j) (0) (by exact ⟨Nat.zero_le _, fun i h => absurd h (Nat.not_lt_zero _)⟩) ?_ (fun j hJ => ?_)
    ·exact ⟨[(2, 2)], .eq rfl (.eq rfl (.same rfl rfl (.eq rfl (.nil) (by first | rfl | simp))) (by first | rfl | simp)) (by first | rfl | simp), .fzE rfl (.box (by first | rfl | simp) (.nil)) (by first | rfl | simp), rfl⟩
    refine W_seq ?_
    refine W_seq ?_
    refine W_seqK (b' := 83) rfl rfl ?_
    refine q0 23 3 1 rfl rfl (T_move rfl rfl) rfl ?_
    refine q0 24 19 2 rfl rfl (T_fa D (m := 1) rfl rfl rfl rfl rfl rfl) rfl ?_
    refine q0 25 35 3 rfl rfl (T_load_b D rfl rfl rfl rfl rfl rfl) rfl ?_
    refine q0 26 51 4 rfl rfl (T_len D rfl rfl rfl rfl rfl rfl) rfl ?_
    refine q0 27 67 5 rfl rfl (T_cmp rfl rfl rfl rfl) rfl ?_
    refine k_done rfl ?_
    refine thenK_n ?_
    refine W_cond rfl (fun g6 => ?_) (fun g6 => ?_)
    ·have h6 := c_lss_t g6
     refine W_skip ?_
     refine thenK_n ?_
     refine W_seq ?_
     refine W_block ?_
     refine W_seq ?_
     refine W_seq ?_
     refine W_anyK (b' := 275) rfl rfl rfl ?_
     refine q0 30 83 1 rfl rfl (T_fa D (m := 1) rfl rfl rfl rfl rfl rfl) rfl ?_
     refine q0 31 99 2 rfl rfl (T_load_b D rfl rfl rfl rfl rfl rfl) rfl ?_
     refine q0 32 115 3 rfl rfl (T_move rfl rfl) rfl ?_
     first | refine q0 33 131 4 rfl rfl (T_indexAddr D rfl rfl rfl rfl rfl rfl rfl rfl (by first | assumption | omega | (simp; omega))) rfl ?_ | refine q0 33 131 4 rfl rfl (T_indexAddrZ D rfl rfl rfl rfl rfl rfl rfl rfl (by first | assumption | omega | (simp; omega)) (by first | assumption | omega | (simp; omega))) rfl ?_
     refine q1 34 147 5 rfl rfl (T_ldEA D (l := [.r 147, .v _, .v _, .v _, .v _]) (nn := 1) (upd := [(147, .fz 8 _)]) rfl rfl rfl rfl rfl (by first | assumption | omega | (simp; omega)) rfl rfl rfl rfl rfl) rfl ?_
     refine q0 35 163 6 rfl rfl (T_fa D (m := 1) rfl rfl rfl rfl rfl rfl) rfl ?_
     refine q0 36 179 7 rfl rfl (T_load_b D rfl rfl rfl rfl rfl rfl) rfl ?_
     refine q0 37 195 8 rfl rfl (T_len D rfl rfl rfl rfl rfl rfl) rfl ?_
     refine q0 38 211 9 rfl rfl (T_fa D (m := 0) rfl rfl rfl rfl rfl rfl) rfl ?_
     refine q0 39 227 10 rfl rfl (T_load_b D rfl rfl rfl rfl rfl rfl) rfl ?_
     refine q0 40 243 11 rfl rfl (T_callV (lvs := [_, _, _]) (L := [(1, 147)]) (ends_spec _ _ _) body87 rfl rfl rfl rfl (.fz rfl (.nil)) rfl) rfl ?_
     refine q0 41 259 12 rfl rfl (T_not rfl rfl) rfl ?_
     refine k_done rfl ?_
     refine ⟨rfl, ?_⟩
     refine thenK_n ?_
     refine W_cond rfl (fun g7 => ?_) (fun g7 => ?_)
     ·have h7 := g7; (try simp only [cmpB, decide_eq_true_eq, decide_eq_false_iff_not, beq_iff_eq, beq_eq_false_iff_ne, bne_iff_ne, ne_eq, bne_eq_false_iff_eq, Bool.not_eq_true', Bool.not_eq_false', Int.not_lt, Int.not_le] at h7)
      refine W_seq ?_
      refine W_seqK (b' := 291) rfl rfl ?_
      refine q0 6 275 1 rfl rfl (T_assign rfl rfl) rfl ?_
      refine k_done rfl ?_
      refine thenK_n ?_
      refine W_ret ?_
      refine thenK_r ?_
      refine blockK_r ?_
      refine thenK_r ?_
      refine thenK_r ?_
      refine blockK_r ?_
      refine thenK_r ?_
      exact .mk [] (.inr rfl) (.tmp rfl (.nil)) (by first | rfl | (simp only [resLV, LV.ren, LV.v.injEq, Value.bool.injEq]; first | exact one_no1 (by omega) | exact one_no2 (j := j) (by omega) (by assumption) | exact one_no3 (j := j) (i := i) (by omega) (by omega) (by assumption) | exact one_yes (by omega) (by omega) (fun i h => hJ.2 i (by omega)))) (.nil) rfl
     ·have h7 := g7; (try simp only [cmpB, decide_eq_true_eq, decide_eq_false_iff_not, beq_iff_eq, beq_eq_false_iff_ne, bne_iff_ne, ne_eq, bne_eq_false_iff_eq, Bool.not_eq_true', Bool.not_eq_false', Int.not_lt, Int.not_le] at h7)
      refine W_skip ?_
      refine thenK_n ?_
      refine W_seq ?_
      refine W_seqK (b' := 291) rfl rfl ?_
      refine q0 8 275 1 rfl rfl (T_assign rfl rfl) rfl ?_
      refine k_done rfl ?_
      refine thenK_n ?_
      refine W_block ?_
      have hij := hf.2 (f.blocks.getD j default) (getD_mem (by omega))
      have hends : endsB (f.blocks.getD j default) f.blocks.length f.regs = true := by assumption
      refine W_loop (ι := Nat) 3 (fun i => ⟨[(1, .v (.int .i64 number)), (2, .v (.int .i64 words)), (3, .p 2 0), (7, .v (.int .i64 (j : Int))), (8, .v (.int .i64 (i : Int)))], [(1, .fz 5 (f.blocks.map eBlock)), (2, .box 29 [.v (.int .i64 f.regs), .r 1])]⟩) (fun i => i ≤ (f.blocks.getD j default).ins.length ∧ ∀ m, m < i → fitsB ((f.blocks.getD j default).ins.getD m default) number f.regs words = true) (fun i => (f.blocks.getD j default).ins.length - i) (0) (by exact ⟨Nat.zero_le _, fun m h => absurd h (Nat.not_lt_zero _)⟩) ?_ (fun i hI => ?_)
      ·exact ⟨[(2, 2)], .eq rfl (.eq rfl (.same rfl rfl (.eq rfl (.eq rfl (.nil) (by first | rfl | simp)) (by first | rfl | simp))) (by first | rfl | simp)) (by first | rfl | simp), .fzE rfl (.box (by first | rfl | simp) (.nil)) (by first | rfl | simp), rfl⟩
      refine W_seq ?_
      refine W_seq ?_
      refine W_seqK (b' := 147) rfl rfl ?_
      refine q0 42 3 1 rfl rfl (T_move rfl rfl) rfl ?_
      refine q0 43 19 2 rfl rfl (T_fa D (m := 1) rfl rfl rfl rfl rfl rfl) rfl ?_
      refine q0 44 35 3 rfl rfl (T_load_b D rfl rfl rfl rfl rfl rfl) rfl ?_
      refine q0 45 51 4 rfl rfl (T_move rfl rfl) rfl ?_
      first | refine q0 46 67 5 rfl rfl (T_indexAddr D rfl rfl rfl rfl rfl rfl rfl rfl (by first | assumption | omega | (simp; omega))) rfl ?_ | refine q0 46 67 5 rfl rfl (T_indexAddrZ D rfl rfl rfl rfl rfl rfl rfl rfl (by first | assumption | omega | (simp; omega)) (by first | assumption | omega | (simp; omega))) rfl ?_
      refine q0 47 83 6 rfl rfl (T_fae D (m := 0) rfl rfl rfl rfl rfl rfl) rfl ?_
      refine q1 48 99 7 rfl rfl (T_ldE D (lv := .r 99) (nn := 1) (upd := [(99, .fz 8 _)]) rfl rfl rfl rfl rfl (by first | assumption | omega | (simp; omega)) rfl rfl rfl rfl) rfl ?_
      refine q0 49 115 8 rfl rfl (T_len D rfl rfl rfl rfl rfl rfl) rfl ?_
      refine q0 50 131 9 rfl rfl (T_cmp rfl rfl rfl rfl) rfl ?_
      refine k_done rfl ?_
      refine thenK_n ?_
      refine W_cond rfl (fun g8 => ?_) (fun g8 => ?_)
      ·have h8 := c_lss_t g8
       refine W_skip ?_
       refine thenK_n ?_
       refine W_seq ?_
       refine W_block ?_
       refine W_seq ?_
       refine W_anyK (b' := 387) rfl rfl rfl ?_
       refine q0 53 147 1 rfl rfl (T_fa D (m := 1) rfl rfl rfl rfl rfl rfl) rfl ?_
       refine q0 54 163 2 rfl rfl (T_load_b D rfl rfl rfl rfl rfl rfl) rfl ?_
       refine q0 55 179 3 rfl rfl (T_move rfl rfl) rfl ?_
       first | refine q0 56 195 4 rfl rfl (T_indexAddr D rfl rfl rfl rfl rfl rfl rfl rfl (by first | assumption | omega | (simp; omega))) rfl ?_ | refine q0 56 195 4 rfl rfl (T_indexAddrZ D rfl rfl rfl rfl rfl rfl rfl rfl (by first | assumption | omega | (simp; omega)) (by first | assumption | omega | (simp; omega))) rfl ?_
       refine q0 57 211 5 rfl rfl (T_fae D (m := 0) rfl rfl rfl rfl rfl rfl) rfl ?_
       refine q1 58 227 6 rfl rfl (T_ldE D (lv := .r 227) (nn := 1) (upd := [(227, .fz 8 _)]) rfl rfl rfl rfl rfl (by first | assumption | omega | (simp; omega)) rfl rfl rfl rfl) rfl ?_
       refine q0 59 243 7 rfl rfl (T_move rfl rfl) rfl ?_
       first | refine q0 60 259 8 rfl rfl (T_indexAddr D rfl rfl rfl rfl rfl rfl rfl rfl (by first | assumption | omega | (simp; omega))) rfl ?_ | refine q0 60 259 8 rfl rfl (T_indexAddrZ D rfl rfl rfl rfl rfl rfl rfl rfl (by first | assumption | omega | (simp; omega)) (by first | assumption | omega | (simp; omega))) rfl ?_
       refine q0 61 275 9 rfl rfl (T_ldEA D (l := [.v _, .v _, .v _, .v _, .v _, .v _, .v _, .v _]) (nn := 0) (upd := []) rfl rfl rfl rfl rfl (by first | assumption | omega | (simp; omega)) rfl rfl rfl rfl rfl) rfl ?_
       refine q0 62 291 10 rfl rfl (T_move rfl rfl) rfl ?_
       refine q0 63 307 11 rfl rfl (T_fa D (m := 0) rfl rfl rfl rfl rfl rfl) rfl ?_
       refine q0 64 323 12 rfl rfl (T_load_b D rfl rfl rfl rfl rfl rfl) rfl ?_
       refine q0 65 339 13 rfl rfl (T_move rfl rfl) rfl ?_
       refine q0 66 355 14 rfl rfl (T_callV (lvs := [_, _, _, _]) (L := []) (fits_spec _ _ _ _ hw) body88 rfl rfl rfl rfl (.nil) rfl) rfl ?_
       refine q0 67 371 15 rfl rfl (T_not rfl rfl) rfl ?_
       refine k_done rfl ?_
       refine ⟨rfl, ?_⟩
       refine thenK_n ?_
       refine W_cond rfl (fun g9 => ?_) (fun g9 => ?_)
       ·have h9 := g9; (try simp only [cmpB, decide_eq_true_eq, decide_eq_false_iff_not, beq_iff_eq, beq_eq_false_iff_ne, bne_iff_ne, ne_eq, bne_eq_false_iff_eq, Bool.not_eq_true', Bool.not_eq_false', Int.not_lt, Int.not_le] at h9)
        refine W_seq ?_
        refine W_seqK (b' := 403) rfl rfl ?_
        refine q0 6 387 1 rfl rfl (T_assign rfl rfl) rfl ?_
        refine k_done rfl ?_
        refine thenK_n ?_
        refine W_ret ?_
        refine blockK_r ?_
        refine thenK_r ?_
        refine thenK_r ?_
        refine blockK_r ?_
        refine blockK_r ?_
        refine thenK_r ?_
        refine thenK_r ?_
        refine blockK_r ?_
        refine thenK_r ?_
        exact .mk [] (.inr rfl) (.tmp rfl (.nil)) (by first | rfl | (simp only [resLV, LV.ren, LV.v.injEq, Value.bool.injEq]; first | exact one_no1 (by omega) | exact one_no2 (j := j) (by omega) (by assumption) | exact one_no3 (j := j) (i := i) (by omega) (by omega) (by assumption) | exact one_yes (by omega) (by omega) (fun i h => hJ.2 i (by omega)))) (.nil) rfl
       ·have h9 := g9; (try simp only [cmpB, decide_eq_true_eq, decide_eq_false_iff_not, beq_iff_eq, beq_eq_false_iff_ne, bne_iff_ne, ne_eq, bne_eq_false_iff_eq, Bool.not_eq_true', Bool.not_eq_false', Int.not_lt, Int.not_le] at h9)
        refine W_skip ?_
        refine blockK_n ?_
        refine thenK_n ?_
        refine W_seqK (b' := 435) rfl rfl ?_
        refine q0 51 387 1 rfl rfl (T_move rfl rfl) rfl ?_
        refine q0 52 403 2 rfl rfl (T_add64 rfl rfl rfl (by first | assumption | omega | (simp; omega))) rfl ?_
        refine q0 8 419 3 rfl rfl (T_assign rfl rfl) rfl ?_
        refine k_done rfl ?_
        refine thenK_n ?_
        refine ⟨i + 1, by (try dsimp only); exact ⟨by omega, fun m hm => by rcases Nat.lt_or_ge m i with h | h; exact hI.2 m h; rw [show m = i by omega]; assumption⟩, by (try dsimp only); omega, ?_⟩
        exact ⟨[(2, 2)], .eq rfl (.eq rfl (.same rfl rfl (.eq rfl (.eq rfl (.nil) (by first | rfl | simp)) rfl)) rfl) rfl, .fzE rfl (.box (by first | rfl | simp) (.nil)) rfl, rfl⟩
      ·have h8 := c_lss_f g8
       refine W_exit ?_
       refine thenK_e ?_
       refine thenK_e ?_
       refine blockK_hit ?_
       refine blockK_n ?_
       refine thenK_n ?_
       refine W_seqK (b' := 195) rfl rfl ?_
       refine q0 28 147 1 rfl rfl (T_move rfl rfl) rfl ?_
       refine q0 29 163 2 rfl rfl (T_add64 rfl rfl rfl (by first | assumption | omega | (simp; omega))) rfl ?_
       refine q0 7 179 3 rfl rfl (T_assign rfl rfl) rfl ?_
       refine k_done rfl ?_
       refine thenK_n ?_
       refine ⟨j + 1, by (try dsimp only); exact ⟨by omega, fun i1 h => by rcases Nat.lt_or_ge i1 j with h0 | h0; exact hJ.2 i1 h0; rw [show i1 = j by omega]; exact blockB_t hends (fun m hm => hI.2 m (by omega))⟩, by (try dsimp only); omega, ?_⟩
       exact ⟨[(2, 2)], .eq rfl (.eq rfl (.same rfl rfl (.eq rfl (.nil) (by first | rfl | simp))) rfl) rfl, .fzE rfl (.box (by first | rfl | simp) (.nil)) rfl, rfl⟩
    ·have h6 := c_lss_f g6
     refine W_exit ?_
     refine thenK_e ?_
     refine thenK_e ?_
     refine blockK_hit ?_
     refine thenK_n ?_
     refine W_seq ?_
     refine W_seqK (b' := 99) rfl rfl ?_
     refine q0 6 83 1 rfl rfl (T_assign rfl rfl) rfl ?_
     refine k_done rfl ?_
     refine thenK_n ?_
     refine W_ret ?_
     exact .mk [] (.inr rfl) (.tmp rfl (.nil)) (by first | rfl | (simp only [resLV, LV.ren, LV.v.injEq, Value.bool.injEq]; first | exact one_no1 (by omega) | exact one_no2 (j := j) (by omega) (by assumption) | exact one_no3 (j := j) (i := i) (by omega) (by omega) (by assumption) | exact one_yes (by omega) (by omega) (fun i h => hJ.2 i (by omega)))) (.nil) rfl
end Lg
end Go.Proofs.Ytpfhmodjjljpjaa

namespace Go.Proofs.Ytpfhmodjjljpjaa
open Go.RowKit
namespace Lg
def PgOk (p : GProg) : Prop := p.funcs.length ≤ 140737488351232 ∧ ∀ f ∈ p.funcs, FnOk f
theorem pgOk {p : GProg} (h : WProg p) : PgOk p := ⟨by have := h.len; omega, fun f hf => fnOk (h.each f hf)⟩
theorem right_no1 {p : GProg} (h : ¬ (0 ≤ p.words ∧ p.words ≤ 1048576 ∧ ¬ (p.funcs.length : Int) = 0)) : false = rightB p := by
  unfold rightB
  rw [decide_eq_false (fun hk => h ⟨hk.1, hk.2.1, fun e => hk.2.2 (List.eq_nil_of_length_eq_zero (by omega))⟩)]
  rfl
theorem right_no2 {p : GProg} {j : Nat} (hj : j < p.funcs.length) (h : oneB (p.funcs.getD j default) (j : Int) p.words = false) : false = rightB p := by
  unfold rightB
  rw [range_all_false hj h, Bool.and_false]
theorem right_yes {p : GProg} (h : 0 ≤ p.words ∧ p.words ≤ 1048576) (h0 : ¬ (p.funcs.length : Int) = 0) (hb : ∀ i, i < p.funcs.length → oneB (p.funcs.getD i default) (i : Int) p.words = true) : true = rightB p := by
  unfold rightB
  rw [decide_eq_true ⟨h.1, h.2, fun e => h0 (by rw [e]; rfl)⟩, range_all_true hb]
  rfl
def szB (f : GFn) (i : Nat) : Nat := ((f.blocks.take i).map (fun b => 1 + b.ins.length)).sum
def szP (p : GProg) (j : Nat) : Nat := ((p.funcs.take j).map (fun f => szB f f.blocks.length)).sum
theorem szB_succ {f : GFn} {i : Nat} (h : i < f.blocks.length) : szB f (i + 1) = szB f i + 1 + (f.blocks.getD i default).ins.length := by
  unfold szB
  rw [take_succ_getD h]
  simp only [List.map_append, List.sum_append, List.map_cons, List.map_nil, List.sum_cons, List.sum_nil]
  omega
theorem szP_succ {p : GProg} {j : Nat} (h : j < p.funcs.length) : szP p (j + 1) = szP p j + szB (p.funcs.getD j default) (p.funcs.getD j default).blocks.length := by
  unfold szP
  rw [take_succ_getD h]
  simp only [List.map_append, List.sum_append, List.map_cons, List.map_nil, List.sum_cons, List.sum_nil]
  omega
theorem szB_le {f : GFn} (hf : FnOk f) : ∀ (i : Nat), i ≤ f.blocks.length → szB f i ≤ i * 140737488351233
  | 0, _ => by simp [szB]
  | i + 1, h => by
    have h1 := szB_le hf i (by omega)
    have h2 := hf.2 (f.blocks.getD i default) (getD_mem (by omega))
    rw [szB_succ (by omega), Nat.succ_mul]
    omega
def smallF (f : GFn) : Bool := decide (f.regs ≤ 60) && decide ((f.blocks.length : Int) ≤ 40)
def smallG (p : GProg) (most : Int) : Bool := decide (p.words ≤ 500 ∧ (p.funcs.length : Int) ≤ 10) && p.funcs.all smallF && decide ((szP p p.funcs.length : Int) ≤ most) && rightB p
theorem small_no1 {p : GProg} {most : Int} (h : ¬ (p.words ≤ 500 ∧ (p.funcs.length : Int) ≤ 10)) : false = smallG p most := by
  unfold smallG
  rw [decide_eq_false h]; rfl
theorem small_no2 {p : GProg} {most : Int} {j : Nat} (hj : j < p.funcs.length) (h : ¬ ((p.funcs.getD j default).regs ≤ 60 ∧ ((p.funcs.getD j default).blocks.length : Int) ≤ 40)) : false = smallG p most := by
  unfold smallG
  rw [all_false_at hj (by
    unfold smallF
    by_cases h1 : (p.funcs.getD j default).regs ≤ 60
    · rw [decide_eq_false (fun h2 => h ⟨h1, h2⟩), Bool.and_false]
    · rw [decide_eq_false h1]; rfl), Bool.and_false]; rfl
theorem small_yes {p : GProg} {most : Int} {x : Bool} (h : p.words ≤ 500 ∧ (p.funcs.length : Int) ≤ 10) (hj : ∀ j, j < p.funcs.length → (p.funcs.getD j default).regs ≤ 60 ∧ ((p.funcs.getD j default).blocks.length : Int) ≤ 40) (hx : x = (decide ((szP p p.funcs.length : Int) ≤ most) && rightB p)) : x = smallG p most := by
  unfold smallG
  rw [decide_eq_true h, all_iff_getD.2 (fun i hi => by unfold smallF; rw [decide_eq_true (hj i hi).1, decide_eq_true (hj i hi).2]; rfl), hx]
  rfl
end Lg
end Go.Proofs.Ytpfhmodjjljpjaa
