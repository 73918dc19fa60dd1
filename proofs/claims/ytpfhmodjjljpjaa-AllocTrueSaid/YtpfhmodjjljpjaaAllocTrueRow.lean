/- The law AllocTrue: for every input the call returns true, and each argument reads afterwards as it read before. No condition. -/
import Derived.Test.YtpfhmodjjljpjaaAlt7
namespace Go.Proofs.Ytpfhmodjjljpjaa.allocTrue
open Go.ChangeShapes Go.WideShapes Go.ChangeAt Go.RowKit Go.Proofs.Ytpfhmodjjljpjaa.Lg
set_option linter.unusedVariables false
theorem own : ownKnob Try.prog.godebug = none := by kernel_rfl
theorem laidOut : laidOutB Try.prog = true := by kernel_rfl
set_option maxRecDepth 100000 in
theorem lifted (os : Os) (started : os.Started) (H : Type) (enc : TypeId × Value → H) :
    ReturnsInHanded {} Try.checked os 10 .any (Rows.allocTrueSpec.pre6 enc Try.prog Try.f10 Rows.allocTrueRow.domain false) (Rows.allocTrueSpec.post enc Try.prog Try.f10 false true false false) := by
  refine returnsInHanded_of_change_sized (C := Try.checked) own started (by kernel_rfl) Try.func10
    (ChangeSpec.witness6 (enc := enc) (C := Try.checked) false ⟨#[], #[.agg #[.int .i64 0, .slice none 0 0, .slice none 0 0, .slice none 0 0, .slice none 0 0, .int .i64 0], .string .empty, .int .u8 0], []⟩ 8 (by kernel_rfl) (by kernel_rfl) (by kernel_rfl) (by kernel_rfl)) ?_
  intro W base args ds gs before hval0 hW hcnd hsz0 _
  have hsz : (DataW.weightsEach Try.prog (Try.f10.params.toList ++ Rows.allocTrueSpec.plain.varTypes Try.prog) (ds ++ gs)).all (· ≤ reachBytes) = true := hsz0
  have hval : ∀ (j : Nat) t v, Try.f10.params[j]? = some t → args[j]? = some v → Value.okWide Try.prog W .any base t v := hval0
  have hW' := hW
  obtain ⟨p, q, hA0, hV, rfl, hfz, hnd⟩ := hW
  have hA : DataW.TrodAll enc Try.prog W 0 (fun _ => true) true Try.f10.params.toList args.toList ds p := hA0
  rw [Try.params10] at hA hval hsz
  obtain ⟨v0, vs0, d0, ds0, p0, q0, hargs, rfl, rfl, h0, r0⟩ := trodAll_cons hA
  obtain ⟨v1, vs1, d1, ds1, p1, q1, rfl, rfl, rfl, h1, r1⟩ := trodAll_cons r0
  obtain ⟨v2, vs2, d2, ds2, p2, q2, rfl, rfl, rfl, h2, r2⟩ := trodAll_cons r1
  obtain ⟨rfl, rfl, rfl⟩ := trodAll_nil r2
  obtain rfl : args = #[v0, v1, v2] := by cases args; simp_all
  obtain ⟨rfl, rfl⟩ := trodVars_none hV
  have hsz2 : (((d0.weights Try.prog 75).all (· ≤ reachBytes)) && ((d1.weights Try.prog 9).all (· ≤ reachBytes)) && ((d2.weights Try.prog 5).all (· ≤ reachBytes))) = true := by
    have z := hsz
    simp only [List.cons_append, List.nil_append, DataW.weightsEach, List.all_append, Bool.and_eq_true] at z
    try simp only [Bool.and_eq_true]
    simp [z]
  try simp only [Bool.and_eq_true] at hsz2
  obtain ⟨⟨y0, y1⟩, y2⟩ := hsz2
  have k0 := h0
  have lt0 : ∀ x ∈ p0, x.block < W.heap.size := by obtain ⟨m, hm⟩ := k0; exact DataW.trod_lt m _ _ _ hm
  have k1 := h1
  have lt1 : ∀ x ∈ p1, x.block < W.heap.size := by obtain ⟨m, hm⟩ := k1; exact DataW.trod_lt m _ _ _ hm
  have k2 := h2
  have lt2 : ∀ x ∈ p2, x.block < W.heap.size := by obtain ⟨m, hm⟩ := k2; exact DataW.trod_lt m _ _ _ hm
  obtain ⟨x0, a0, b0, c0, e0, rfl, ma0, mb0, mc0, me0, g0⟩ := arg_words (hval 0 75 v0 rfl rfl) h0 y0
  obtain ⟨x1, rfl⟩ := arg_strA (hval 1 9 v1 rfl rfl) h1
  obtain ⟨x2, rfl, g2⟩ := arg_u8 (hval 2 5 v2 rfl rfl) h2 y2
  clear hA0 hval0 hsz0 hsz hval
  have hrun : Calls Try.prog 10 #[.agg #[.int .i64 x0.f.regs, a0, b0, c0, e0, .int .i64 x0.k], .string x1, .int .u8 x2] W (fun e w' => e = .returned (.bool true) ∧ Below W.heap.size W w') := law_run (law10 x0.f x0.l.inn x0.l.out x0.ps x0.k x1 x2 (fnOk g0.f) (fun b hb t ht => ((g0.f.each b hb).ins t ht).n) g0.l.i g0.l.o g0.ps g0.k.1 g2) (ρ := fun i => match i with | 1 => a0 | 2 => b0 | 3 => c0 | 4 => e0 | _ => undef) (by decide) ⟨by decide, ma0, by decide, mb0, by decide, mc0, by decide, me0, trivial⟩ ⟨⟨⟨trivial, show (1 : Nat) < 5 by decide, show (2 : Nat) < 5 by decide, show (3 : Nat) < 5 by decide, show (4 : Nat) < 5 by decide, trivial, trivial⟩, by simp [LV.vals, LV.val, ma0.one, mb0.one, mc0.one, me0.one, one_int]⟩, trivial, trivial, trivial⟩
  refine hrun.mono fun e W' ⟨he, bel⟩ => ?_
  subst he
  exact ⟨_, rfl, _, _, _, [], _, [], hW', trodAll_mk1 (shut_bool Try.underlying4 _), (trodAll_cons_mk (Below.trod laidOut (by kernel_rfl) (of_decide_eq_true (by kernel_rfl)) k0 bel lt0) (trodAll_cons_mk (Below.trod laidOut (by kernel_rfl) (of_decide_eq_true (by kernel_rfl)) k1 bel lt1) (trodAll_cons_mk (Below.trod laidOut (by kernel_rfl) (of_decide_eq_true (by kernel_rfl)) k2 bel lt2) trodAll_mk0))), rfl, bel.frame _, fun h => by cases h⟩
theorem k0 : (Rows.allocTrueRow.wf (OpenSpec.ofChange Rows.allocTrueSpec)) = true := by kernel_rfl
theorem k1 : (laidOutB Try.pinned.checked.prog) = true := Lg.kp1
theorem k2 : (mapsRowed Try.pinned.checked.prog) = true := Lg.kp2
theorem k3 : (Try.f10.params.all (Try.pinned.checked.prog.readableRec ·)) = true := by kernel_rfl
theorem k4 : (namedTie Try.pinned.checked.prog Rows.allocTrueRow.named Rows.allocTrueSpec.vars) = true := by kernel_rfl
theorem k5 : ((Rows.allocTrueRow.stops == [])) = true := by kernel_rfl
theorem k6 : ((Try.pinned.checked.prog.stops == [])) = true := Lg.kp6
theorem k7 : ((Rows.allocTrueRow.knobs == [])) = true := by kernel_rfl
theorem k8 : ((Try.pinned.checked.prog.stopKnobs == [])) = true := Lg.kp8
theorem k9 : ((Rows.allocTrueRow.inPlace == Try.pinned.checked.prog.inPlace 10)) = true := by kernel_rfl
theorem k10 : ((Rows.allocTrueRow.unfollowed == Try.pinned.checked.prog.unfollowed 10)) = true := by kernel_rfl
theorem k11 : ((Rows.allocTrueRow.recurses == Try.pinned.checked.prog.recurses 10)) = true := by kernel_rfl
theorem k12 : ((Rows.allocTrueRow.named == Try.pinned.checked.prog.varsNamed 10)) = true := by kernel_rfl
theorem k13 : ((Rows.allocTrueRow.maps == (Try.f10.params.toList ++ Rows.allocTrueSpec.plain.varTypes Try.pinned.checked.prog).any (Try.pinned.checked.prog.mapsRec ·))) = true := by kernel_rfl
theorem k14 : ((Rows.allocTrueRow.ifaces == (Try.f10.params.toList ++ Rows.allocTrueSpec.plain.varTypes Try.pinned.checked.prog).any (Try.pinned.checked.prog.ifacesRec ·))) = true := by kernel_rfl
theorem k15 : ((Rows.allocTrueRow.mapsOut == Try.pinned.checked.prog.mapsAmong Try.f10.resultTypes.toList)) = true := by kernel_rfl
theorem k16 : ((Rows.allocTrueRow.loops == (Try.f10.params.toList ++ Rows.allocTrueSpec.plain.varTypes Try.pinned.checked.prog).any (Try.pinned.checked.prog.loopsFrom ·))) = true := by kernel_rfl
theorem k17 : ((Rows.allocTrueRow.wideKeys == (Try.f10.params.toList ++ Rows.allocTrueSpec.plain.varTypes Try.pinned.checked.prog ++ Try.f10.resultTypes.toList).any (Try.pinned.checked.prog.wideKeysFrom ·))) = true := by kernel_rfl
theorem k18 : (Rows.allocTrueSpec.vars.all (Try.pinned.checked.prog.varReadable ·)) = true := by kernel_rfl
theorem k19 : (Try.f10.resultTypes.all (fun t => Try.pinned.checked.prog.readableRec t && decide (t < Try.pinned.checked.prog.types.size))) = true := by kernel_rfl
theorem k20 : ((Rows.allocTrueRow.ifacesOut == Try.f10.resultTypes.toList.any (Try.pinned.checked.prog.ifacesRec ·))) = true := by kernel_rfl
theorem k21 : ((Rows.allocTrueRow.loopsOut == Try.f10.resultTypes.toList.any (Try.pinned.checked.prog.loopsFrom ·))) = true := by kernel_rfl
theorem k22 : ((Rows.allocTrueRow.plainKeys == Try.pinned.checked.prog.plainKeys)) = true := by kernel_rfl
theorem k23 : (Rows.allocTrueRow.shortTexts.isNone) = true := by kernel_rfl
theorem k24 : (Try.pinned.checked.prog.stopsHeard) = true := Lg.kp24
theorem k25 : (Try.pinned.checked.prog.mayEnter) = true := Lg.kp25
theorem k26 : ((Rows.allocTrueRow.lifted == Try.pinned.checked.prog.liftsFinal)) = true := Lg.kp26
theorem k27 : ((Try.pinned.checked.prog.make == some Rows.allocTrueRow.make)) = true := Lg.kp27
theorem k28 : ((Rows.allocTrueRow.kinds == (if Rows.allocTrueRow.domain.isEmpty then [] else Try.f10.params.toList.map fun t => match Try.pinned.checked.prog.underlying t with | some (.int k) => some k | _ => none))) = true := by kernel_rfl
theorem k29 : ((Rows.allocTrueRow.pinned == Rows.allocTrueRow.pinnedBy)) = true := by kernel_rfl
theorem k30 : ((Rows.allocTrueRow.veiled == (Try.f10.params.toList ++ Rows.allocTrueSpec.plain.varTypes Try.pinned.checked.prog ++ Try.f10.resultTypes.toList).any (Try.pinned.checked.prog.veiledRec ·))) = true := by kernel_rfl
theorem k31 : (Rows.allocTrueRow.veiledFits Try.pinned.checked.prog Try.f10.params.toList (Try.f10.params.toList ++ Rows.allocTrueSpec.plain.varTypes Try.pinned.checked.prog ++ Try.f10.resultTypes.toList)) = true := by kernel_rfl
set_option maxRecDepth 1000000 in
theorem closed : joinedFacts Try.pinned.checked.prog 10 Try.f10 Rows.allocTrueSpec Rows.allocTrueRow = true := (and_t (and_t (and_t (and_t (and_t (and_t (and_t (and_t (and_t (and_t (and_t (and_t (and_t (and_t (and_t (and_t (and_t (and_t (and_t (and_t (and_t (and_t (and_t (and_t (and_t (and_t (and_t (and_t (and_t (and_t (and_t k0 k1) k2) k3) k4) k5) k6) k7) k8) k9) k10) k11) k12) k13) k14) k15) k16) k17) k18) k19) k20) k21) k22) k23) k24) k25) k26) k27) k28) k29) k30) k31)
theorem over : Rows.allocTrueRow.holds Try.pinned (OpenSpec.ofChange Rows.allocTrueSpec) :=
  OpenClaim.holds_of_wide 10 Try.f10 rfl rfl rfl rfl rfl rfl rfl ⟨rfl, rfl, rfl, rfl, rfl⟩ rfl rfl rfl rfl rfl (by kernel_rfl) Try.func10 closed
    (of_decide_eq_true (by kernel_rfl)) (by unfold Func.isWrapper; first | (rw [if_pos (by decide +kernel)]; kernel_rfl) | (rw [if_neg (by decide +kernel)]; exact ⟨rfl, rfl⟩))
    (fun os started H enc _ => lifted os started H enc)
theorem proved : Rows.AllocTrueSaid := over
end Go.Proofs.Ytpfhmodjjljpjaa.allocTrue
namespace Go.Proofs.Ytpfhmodjjljpjaa
theorem allocTrue_holds : Rows.AllocTrueSaid := allocTrue.proved
#print axioms allocTrue_holds
end Go.Proofs.Ytpfhmodjjljpjaa
