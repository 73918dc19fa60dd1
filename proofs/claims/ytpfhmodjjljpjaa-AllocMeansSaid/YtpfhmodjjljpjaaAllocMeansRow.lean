/- The law AllocMeans: for every input the call returns true, and each argument reads afterwards as it read before. No condition. -/
import Derived.Test.YtpfhmodjjljpjaaAlm7
namespace Go.Proofs.Ytpfhmodjjljpjaa.allocMeans
open Go.ChangeShapes Go.WideShapes Go.ChangeAt Go.RowKit Go.Proofs.Ytpfhmodjjljpjaa.Lg
set_option linter.unusedVariables false
theorem own : ownKnob Try.prog.godebug = none := by kernel_rfl
theorem laidOut : laidOutB Try.prog = true := by kernel_rfl
set_option maxRecDepth 100000 in
theorem lifted (os : Os) (started : os.Started) (H : Type) (enc : TypeId × Value → H) :
    ReturnsInHanded {} Try.checked os 8 .any (Rows.allocMeansSpec.pre6 enc Try.prog Try.f8 Rows.allocMeansRow.domain false) (Rows.allocMeansSpec.post enc Try.prog Try.f8 false true false false) := by
  refine returnsInHanded_of_change_sized (C := Try.checked) own started (by kernel_rfl) Try.func8
    (ChangeSpec.witness6 (enc := enc) (C := Try.checked) false ⟨#[], #[.agg #[.int .i64 0, .slice none 0 0], .string .empty, .agg #[.int .u8 0, .int .u8 0]], []⟩ 8 (by kernel_rfl) (by kernel_rfl) (by kernel_rfl) (by kernel_rfl)) ?_
  intro W base args ds gs before hval0 hW hcnd hsz0 _
  have hsz : (DataW.weightsEach Try.prog (Try.f8.params.toList ++ Rows.allocMeansSpec.plain.varTypes Try.prog) (ds ++ gs)).all (· ≤ reachBytes) = true := hsz0
  have hval : ∀ (j : Nat) t v, Try.f8.params[j]? = some t → args[j]? = some v → Value.okWide Try.prog W .any base t v := hval0
  have hW' := hW
  obtain ⟨p, q, hA0, hV, rfl, hfz, hnd⟩ := hW
  have hA : DataW.TrodAll enc Try.prog W 0 (fun _ => true) true Try.f8.params.toList args.toList ds p := hA0
  rw [Try.params8] at hA hval hsz
  obtain ⟨v0, vs0, d0, ds0, p0, q0, hargs, rfl, rfl, h0, r0⟩ := trodAll_cons hA
  obtain ⟨v1, vs1, d1, ds1, p1, q1, rfl, rfl, rfl, h1, r1⟩ := trodAll_cons r0
  obtain ⟨v2, vs2, d2, ds2, p2, q2, rfl, rfl, rfl, h2, r2⟩ := trodAll_cons r1
  obtain ⟨rfl, rfl, rfl⟩ := trodAll_nil r2
  obtain rfl : args = #[v0, v1, v2] := by cases args; simp_all
  obtain ⟨rfl, rfl⟩ := trodVars_none hV
  have hsz2 : (((d0.weights Try.prog 24).all (· ≤ reachBytes)) && ((d1.weights Try.prog 9).all (· ≤ reachBytes)) && ((d2.weights Try.prog 53).all (· ≤ reachBytes))) = true := by
    have z := hsz
    simp only [List.cons_append, List.nil_append, DataW.weightsEach, List.all_append, Bool.and_eq_true] at z
    try simp only [Bool.and_eq_true]
    simp [z]
  try simp only [Bool.and_eq_true] at hsz2
  obtain ⟨⟨y0, y1⟩, y2⟩ := hsz2
  have k0 := h0
  have lt0 : ∀ x ∈ p0, x.block < W.heap.size := by obtain ⟨m, hm⟩ := k0; exact DataW.trod_lt m _ _ _ hm
  have k1 := h1
  have lt1 : ∀ x ∈ p1, x.block < W.heap.size := by obtain ⟨m, hm⟩ := k1; exact DataW.trod_lt m _ _ _ hm
  have k2 := h2
  have lt2 : ∀ x ∈ p2, x.block < W.heap.size := by obtain ⟨m, hm⟩ := k2; exact DataW.trod_lt m _ _ _ hm
  obtain ⟨x0, s0, rfl, m0, g0⟩ := arg_prog (hval 0 24 v0 rfl rfl) h0 y0
  obtain ⟨x1, rfl⟩ := arg_strA (hval 1 9 v1 rfl rfl) h1
  obtain ⟨x2, z2, rfl, g2, j2⟩ := arg_pair (hval 2 53 v2 rfl rfl) h2
  clear hA0 hval0 hsz0 hsz hval
  have hrun : Calls Try.prog 8 #[.agg #[.int .i64 x0.words, s0], .string x1, .agg #[.int .u8 x2, .int .u8 z2]] W (fun e w' => e = .returned (.bool true) ∧ Below W.heap.size W w') := law_run (law8 x0 x1 x2 z2 (pgOk g0) (wprog_nA g0) g2 j2) (ρ := fun i => match i with | 1 => s0 | _ => undef) (by decide) ⟨by decide, m0, trivial⟩ ⟨⟨⟨trivial, show (1 : Nat) < 2 by decide, trivial⟩, by simp [LV.vals, LV.val, m0.one, one_int]⟩, trivial, ⟨⟨trivial, trivial, trivial⟩, by simp [LV.vals, LV.val, one_int]⟩, trivial⟩
  refine hrun.mono fun e W' ⟨he, bel⟩ => ?_
  subst he
  exact ⟨_, rfl, _, _, _, [], _, [], hW', trodAll_mk1 (shut_bool Try.underlying4 _), (trodAll_cons_mk (Below.trod laidOut (by kernel_rfl) (of_decide_eq_true (by kernel_rfl)) k0 bel lt0) (trodAll_cons_mk (Below.trod laidOut (by kernel_rfl) (of_decide_eq_true (by kernel_rfl)) k1 bel lt1) (trodAll_cons_mk (Below.trod laidOut (by kernel_rfl) (of_decide_eq_true (by kernel_rfl)) k2 bel lt2) trodAll_mk0))), rfl, bel.frame _, fun h => by cases h⟩
theorem k0 : (Rows.allocMeansRow.wf (OpenSpec.ofChange Rows.allocMeansSpec)) = true := by kernel_rfl
theorem k1 : (laidOutB Try.pinned.checked.prog) = true := Lg.kp1
theorem k2 : (mapsRowed Try.pinned.checked.prog) = true := Lg.kp2
theorem k3 : (Try.f8.params.all (Try.pinned.checked.prog.readableRec ·)) = true := by kernel_rfl
theorem k4 : (namedTie Try.pinned.checked.prog Rows.allocMeansRow.named Rows.allocMeansSpec.vars) = true := by kernel_rfl
theorem k5 : ((Rows.allocMeansRow.stops == [])) = true := by kernel_rfl
theorem k6 : ((Try.pinned.checked.prog.stops == [])) = true := Lg.kp6
theorem k7 : ((Rows.allocMeansRow.knobs == [])) = true := by kernel_rfl
theorem k8 : ((Try.pinned.checked.prog.stopKnobs == [])) = true := Lg.kp8
theorem k9 : ((Rows.allocMeansRow.inPlace == Try.pinned.checked.prog.inPlace 8)) = true := by kernel_rfl
theorem k10 : ((Rows.allocMeansRow.unfollowed == Try.pinned.checked.prog.unfollowed 8)) = true := by kernel_rfl
theorem k11 : ((Rows.allocMeansRow.recurses == Try.pinned.checked.prog.recurses 8)) = true := by kernel_rfl
theorem k12 : ((Rows.allocMeansRow.named == Try.pinned.checked.prog.varsNamed 8)) = true := by kernel_rfl
theorem k13 : ((Rows.allocMeansRow.maps == (Try.f8.params.toList ++ Rows.allocMeansSpec.plain.varTypes Try.pinned.checked.prog).any (Try.pinned.checked.prog.mapsRec ·))) = true := by kernel_rfl
theorem k14 : ((Rows.allocMeansRow.ifaces == (Try.f8.params.toList ++ Rows.allocMeansSpec.plain.varTypes Try.pinned.checked.prog).any (Try.pinned.checked.prog.ifacesRec ·))) = true := by kernel_rfl
theorem k15 : ((Rows.allocMeansRow.mapsOut == Try.pinned.checked.prog.mapsAmong Try.f8.resultTypes.toList)) = true := by kernel_rfl
theorem k16 : ((Rows.allocMeansRow.loops == (Try.f8.params.toList ++ Rows.allocMeansSpec.plain.varTypes Try.pinned.checked.prog).any (Try.pinned.checked.prog.loopsFrom ·))) = true := by kernel_rfl
theorem k17 : ((Rows.allocMeansRow.wideKeys == (Try.f8.params.toList ++ Rows.allocMeansSpec.plain.varTypes Try.pinned.checked.prog ++ Try.f8.resultTypes.toList).any (Try.pinned.checked.prog.wideKeysFrom ·))) = true := by kernel_rfl
theorem k18 : (Rows.allocMeansSpec.vars.all (Try.pinned.checked.prog.varReadable ·)) = true := by kernel_rfl
theorem k19 : (Try.f8.resultTypes.all (fun t => Try.pinned.checked.prog.readableRec t && decide (t < Try.pinned.checked.prog.types.size))) = true := by kernel_rfl
theorem k20 : ((Rows.allocMeansRow.ifacesOut == Try.f8.resultTypes.toList.any (Try.pinned.checked.prog.ifacesRec ·))) = true := by kernel_rfl
theorem k21 : ((Rows.allocMeansRow.loopsOut == Try.f8.resultTypes.toList.any (Try.pinned.checked.prog.loopsFrom ·))) = true := by kernel_rfl
theorem k22 : ((Rows.allocMeansRow.plainKeys == Try.pinned.checked.prog.plainKeys)) = true := by kernel_rfl
theorem k23 : (Rows.allocMeansRow.shortTexts.isNone) = true := by kernel_rfl
theorem k24 : (Try.pinned.checked.prog.stopsHeard) = true := Lg.kp24
theorem k25 : (Try.pinned.checked.prog.mayEnter) = true := Lg.kp25
theorem k26 : ((Rows.allocMeansRow.lifted == Try.pinned.checked.prog.liftsFinal)) = true := Lg.kp26
theorem k27 : ((Try.pinned.checked.prog.make == some Rows.allocMeansRow.make)) = true := Lg.kp27
theorem k28 : ((Rows.allocMeansRow.kinds == (if Rows.allocMeansRow.domain.isEmpty then [] else Try.f8.params.toList.map fun t => match Try.pinned.checked.prog.underlying t with | some (.int k) => some k | _ => none))) = true := by kernel_rfl
theorem k29 : ((Rows.allocMeansRow.pinned == Rows.allocMeansRow.pinnedBy)) = true := by kernel_rfl
theorem k30 : ((Rows.allocMeansRow.veiled == (Try.f8.params.toList ++ Rows.allocMeansSpec.plain.varTypes Try.pinned.checked.prog ++ Try.f8.resultTypes.toList).any (Try.pinned.checked.prog.veiledRec ·))) = true := by kernel_rfl
theorem k31 : (Rows.allocMeansRow.veiledFits Try.pinned.checked.prog Try.f8.params.toList (Try.f8.params.toList ++ Rows.allocMeansSpec.plain.varTypes Try.pinned.checked.prog ++ Try.f8.resultTypes.toList)) = true := by kernel_rfl
set_option maxRecDepth 1000000 in
theorem closed : joinedFacts Try.pinned.checked.prog 8 Try.f8 Rows.allocMeansSpec Rows.allocMeansRow = true := (and_t (and_t (and_t (and_t (and_t (and_t (and_t (and_t (and_t (and_t (and_t (and_t (and_t (and_t (and_t (and_t (and_t (and_t (and_t (and_t (and_t (and_t (and_t (and_t (and_t (and_t (and_t (and_t (and_t (and_t (and_t k0 k1) k2) k3) k4) k5) k6) k7) k8) k9) k10) k11) k12) k13) k14) k15) k16) k17) k18) k19) k20) k21) k22) k23) k24) k25) k26) k27) k28) k29) k30) k31)
theorem over : Rows.allocMeansRow.holds Try.pinned (OpenSpec.ofChange Rows.allocMeansSpec) :=
  OpenClaim.holds_of_wide 8 Try.f8 rfl rfl rfl rfl rfl rfl rfl ⟨rfl, rfl, rfl, rfl, rfl⟩ rfl rfl rfl rfl rfl (by kernel_rfl) Try.func8 closed
    (of_decide_eq_true (by kernel_rfl)) (by unfold Func.isWrapper; first | (rw [if_pos (by decide +kernel)]; kernel_rfl) | (rw [if_neg (by decide +kernel)]; exact ⟨rfl, rfl⟩))
    (fun os started H enc _ => lifted os started H enc)
theorem proved : Rows.AllocMeansSaid := over
end Go.Proofs.Ytpfhmodjjljpjaa.allocMeans
namespace Go.Proofs.Ytpfhmodjjljpjaa
theorem allocMeans_holds : Rows.AllocMeansSaid := allocMeans.proved
#print axioms allocMeans_holds
end Go.Proofs.Ytpfhmodjjljpjaa
