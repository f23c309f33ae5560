/- The law GenerationGreatest of the package dasdlaw38: for every input the call returns true, and the input reads as it did. No condition but those that the card names. -/
import Derived.Test.YtlkkiimmangplaaGreatDoorP24
import Derived.Test.YtlkkiimmangplaaGreatDoorX4
import Derived.Test.YtlkkiimmangplaaGreatDoorJ0
import Derived.Test.YtlkkiimmangplaaGreatDoorTie
import Derived.Test.YtlkkiimmangplaaGreatDoorCards
import Derived.ProofKit
import Derived.OpenShut
import Derived.LaidMore
import Derived.Lay
import Derived.SevenTiedAt
import Derived.Stop.Joined
namespace Go.Proofs.YtlkkiimmangplaaGreatDoor
open Go Go.RowKit
set_option linter.unusedVariables false
set_option linter.unusedSimpArgs false

open Go.ChangeShapes Go.WideShapes Go.ChangeAt
set_option maxRecDepth 100000
abbrev laidL : List (String × DataW Unit) := [("math/bits.deBruijn32tab", Rows.laid_math_bits_deBruijn32tab), ("math/bits.deBruijn64tab", Rows.laid_math_bits_deBruijn64tab), ("internal/strconv.uint64pow10", Rows.laid_internal_strconv_uint64pow10), ("unicode/utf8.acceptRanges", Rows.laid_unicode_utf8_acceptRanges), ("unicode/utf8.first", Rows.laid_unicode_utf8_first)]
theorem own6 : ownKnob Tryz.prog.godebug = none := by kernel_rfl
theorem lifted6 (os : Os) (started : os.Started) (H : Type) (enc : TypeId × Value → H) :
    ReturnsInHanded {} Tryz.checked os 6 .any (fun w args => (Rows.generationGreatestSpec.pre enc Tryz.prog Tryz.f6 Rows.generationGreatestRow.domain false w args ∧ laidMetH Tryz.prog laidL w) ∧ sizedMet enc Tryz.prog Tryz.f6 (OpenSpec.ofChange Rows.generationGreatestSpec) false w args)
      (Rows.generationGreatestSpec.post enc Tryz.prog Tryz.f6 false true false false) := by
  refine lift_and_shaped (C := Tryz.checked) (X := fun w _ => laidMetH Tryz.prog laidL w) (fun _ _ _ hh h => h.of_heap hh) own6 started (by kernel_rfl) Tryz.func6
    (ChangeSpec.witness_shaped (enc := enc) (C := Tryz.checked) (os := os) (X := fun w _ => laidMetH Tryz.prog laidL w) false (World.laidAll Tryz.prog os laidL) #[.agg (E.cells E.zero (.slice none 0 0) (.slice none 0 0)), .slice none 0 0, .int .i64 0] 8 (World.laidAll_os _ _ _)
      (World.shaped_of_ZipB (by kernel_rfl) (by kernel_rfl)) (by kernel_rfl) (by kernel_rfl) (by kernel_rfl)
      (by rw [MakeChecks.laidMetH_plain _ _ _ (by kernel_rfl)]; exact laidMet_laidAll _ (by kernel_rfl) (by kernel_rfl))) ?_
  intro W base args ds gs before hval0 hW hc hsz hL' hsh _
  have hg : Good W := ⟨hsh⟩
  have hval : ∀ (j : Nat) t v, Tryz.f6.params[j]? = some t → args[j]? = some v → Value.okWide Tryz.prog W .any base t v := hval0
  have hW' := hW
  obtain ⟨p, q, hA0, hV, rfl, _, _⟩ := hW
  have hA : DataW.TrodAll enc Tryz.prog W 0 (fun _ => true) true Tryz.f6.params.toList args.toList ds p := hA0
  rw [Tryz.params6] at hA hval
  obtain ⟨rfl, rfl⟩ := trodVars_none hV
  obtain ⟨v0, vs0, d0, ds0, p0, q0, hv0, rfl, rfl, h0, hr0⟩ := trodAll_cons hA
  obtain ⟨v1, vs1, d1, ds1, p1, q1, rfl, rfl, rfl, h1, hr1⟩ := trodAll_cons hr0
  obtain ⟨v2, vs2, d2, ds2, p2, q2, rfl, rfl, rfl, h2, hr2⟩ := trodAll_cons hr1
  obtain ⟨rfl, rfl, rfl⟩ := trodAll_nil hr2
  obtain rfl : args = #[v0, v1, v2] := by cases args; simp_all
  have w0 : Wok 34 d0 := wok_each hsz 0 _ _ rfl rfl
  obtain ⟨n0, h0⟩ := h0
  have ok0 := hval 0 34 v0 rfl rfl
  obtain ⟨cs0, rfl, _⟩ := okWide_struct Tryz.underlying34 ok0
  obtain ⟨x0, va0, vg0, e0, b0, at0⟩ := op34 h0 w0
  obtain rfl := agg_cells e0
  have w1 : Wok 22 d1 := wok_each hsz 1 _ _ rfl rfl
  obtain ⟨n1, h1⟩ := h1
  have ok1 := hval 1 22 v1 rfl rfl
  obtain ⟨A1, c1, x1, e1, lc1, cc1, b1, s1, z1⟩ := op22 h1 w1
  obtain rfl := slice_of Tryz.underlying22 ok1 e1
  have w2 : Wok 3 d2 := wok_each hsz 2 _ _ rfl rfl
  obtain ⟨n2, h2⟩ := h2
  have ok2 := hval 2 3 v2 rfl rfl
  obtain ⟨a2, rfl⟩ := okWide_int Tryz.underlying3 ok2
  obtain ⟨_, e2, b2⟩ := op3 h2
  simp [Value.cells] at e2; subst e2
  refine (greatest_law x0 va0 vg0 A1 c1 x1 a2 W hg at0 s1 lc1 z1).mono fun e W' h => ?_
  obtain ⟨rfl, hst⟩ := h
  exact ⟨_, rfl, post_kept ownClosed (by rw [Tryz.params6]; decide) Tryz.underlying4 rfl rfl rfl hW' hst.below⟩
theorem jf6_0 : (Rows.generationGreatestRow.wf (OpenSpec.ofChange Rows.generationGreatestSpec)) = true := by kernel_rfl
theorem jf6_3 : (Tryz.f6.params.all (Tryz.prog.readableRec ·)) = true := by kernel_rfl
theorem jf6_4 : (namedTie Tryz.prog Rows.generationGreatestRow.named Rows.generationGreatestSpec.vars) = true := by kernel_rfl
theorem jf6_5 : ((Rows.generationGreatestRow.stops == [])) = true := by kernel_rfl
theorem jf6_7 : ((Rows.generationGreatestRow.knobs == [])) = true := by kernel_rfl
theorem jf6_9 : ((Rows.generationGreatestRow.inPlace == Tryz.prog.inPlace 6)) = true := by kernel_rfl
theorem jf6_10 : ((Rows.generationGreatestRow.unfollowed == Tryz.prog.unfollowed 6)) = true := by kernel_rfl
theorem jf6_11 : ((Rows.generationGreatestRow.recurses == Tryz.prog.recurses 6)) = true := by kernel_rfl
theorem jf6_12 : ((Rows.generationGreatestRow.named == Tryz.prog.varsNamed 6)) = true := by kernel_rfl
theorem jf6_13 : ((Rows.generationGreatestRow.maps == (Tryz.f6.params.toList ++ Rows.generationGreatestSpec.plain.varTypes Tryz.prog).any (Tryz.prog.mapsRec ·))) = true := by kernel_rfl
theorem jf6_14 : ((Rows.generationGreatestRow.ifaces == (Tryz.f6.params.toList ++ Rows.generationGreatestSpec.plain.varTypes Tryz.prog).any (Tryz.prog.ifacesRec ·))) = true := by kernel_rfl
theorem jf6_15 : ((Rows.generationGreatestRow.mapsOut == Tryz.prog.mapsAmong Tryz.f6.resultTypes.toList)) = true := by kernel_rfl
theorem jf6_16 : ((Rows.generationGreatestRow.loops == (Tryz.f6.params.toList ++ Rows.generationGreatestSpec.plain.varTypes Tryz.prog).any (Tryz.prog.loopsFrom ·))) = true := by kernel_rfl
theorem jf6_17 : ((Rows.generationGreatestRow.wideKeys == (Tryz.f6.params.toList ++ Rows.generationGreatestSpec.plain.varTypes Tryz.prog ++ Tryz.f6.resultTypes.toList).any (Tryz.prog.wideKeysFrom ·))) = true := by kernel_rfl
theorem jf6_18 : (Rows.generationGreatestSpec.vars.all (Tryz.prog.varReadable ·)) = true := by kernel_rfl
theorem jf6_19 : (Tryz.f6.resultTypes.all (fun t => Tryz.prog.readableRec t && decide (t < Tryz.prog.types.size))) = true := by kernel_rfl
theorem jf6_20 : ((Rows.generationGreatestRow.ifacesOut == Tryz.f6.resultTypes.toList.any (Tryz.prog.ifacesRec ·))) = true := by kernel_rfl
theorem jf6_21 : ((Rows.generationGreatestRow.loopsOut == Tryz.f6.resultTypes.toList.any (Tryz.prog.loopsFrom ·))) = true := by kernel_rfl
theorem jf6_23 : (Rows.generationGreatestRow.shortTexts.isNone) = true := by kernel_rfl
theorem jf6_28 : ((Rows.generationGreatestRow.kinds == (if Rows.generationGreatestRow.domain.isEmpty then [] else Tryz.f6.params.toList.map fun t => match Tryz.prog.underlying t with | some (.int k) => some k | _ => none))) = true := by kernel_rfl
theorem jf6_29 : ((Rows.generationGreatestRow.pinned == Rows.generationGreatestRow.pinnedBy)) = true := by kernel_rfl
theorem jf6_30 : ((Rows.generationGreatestRow.veiled == (Tryz.f6.params.toList ++ Rows.generationGreatestSpec.plain.varTypes Tryz.prog ++ Tryz.f6.resultTypes.toList).any (Tryz.prog.veiledRec ·))) = true := by kernel_rfl
theorem jf6_31 : (Rows.generationGreatestRow.veiledFits Tryz.prog Tryz.f6.params.toList (Tryz.f6.params.toList ++ Rows.generationGreatestSpec.plain.varTypes Tryz.prog ++ Tryz.f6.resultTypes.toList)) = true := by kernel_rfl
theorem joined6 : joinedFacts Tryz.prog 6 Tryz.f6 Rows.generationGreatestSpec Rows.generationGreatestRow = true := by
  unfold joinedFacts
  simp only [Bool.and_eq_true]
  exact ⟨⟨⟨⟨⟨⟨⟨⟨⟨⟨⟨⟨⟨⟨⟨⟨⟨⟨⟨⟨⟨⟨⟨⟨⟨⟨⟨⟨⟨⟨⟨jf6_0, jf_1⟩, jf_2⟩, jf6_3⟩, jf6_4⟩, jf6_5⟩, jf_6⟩, jf6_7⟩, jf_8⟩, jf6_9⟩, jf6_10⟩, jf6_11⟩, jf6_12⟩, jf6_13⟩, jf6_14⟩, jf6_15⟩, jf6_16⟩, jf6_17⟩, jf6_18⟩, jf6_19⟩, jf6_20⟩, jf6_21⟩, jf_22⟩, jf6_23⟩, jf_24⟩, jf_25⟩, jf_26⟩, jf_27⟩, jf6_28⟩, jf6_29⟩, jf6_30⟩, jf6_31⟩
theorem named6 : Tryz.prog.funcNamed Rows.generationGreatestRow.func = some 6 := by kernel_rfl
theorem inst6 : decide (Tryz.f6.isInstance Tryz.prog Rows.generationGreatestRow.origin Rows.generationGreatestRow.targs) = true := by kernel_rfl
theorem goes6 : false = Rows.generationGreatestRow.goesBy Tryz.prog := by kernel_rfl
theorem wf6 : Rows.generationGreatestRow.wfByText (OpenSpec.ofChange Rows.generationGreatestSpec) = true := by kernel_rfl
theorem holds6 : Rows.GenerationGreatestSaid :=
  OpenClaim.holds_of_wide 6 Tryz.f6 rfl rfl rfl rfl rfl rfl rfl ⟨rfl, rfl, rfl, rfl, rfl⟩ rfl rfl rfl rfl rfl named6 Tryz.func6 joined6
    (of_decide_eq_true inst6) (by unfold Func.isWrapper; first | (rw [if_pos (by decide +kernel)]; kernel_rfl) | (rw [if_neg (by decide +kernel)]; exact ⟨rfl, rfl⟩))
    (fun os started H enc _ => lifted6 os started H enc)
theorem generationGreatest_holds : Rows.GenerationGreatestCardSaid :=
  Claim7.holds_tied_plain_at .later [] [.data, .data, .data, .data, .pinned] true (true, "1f55a028107fcf6cc6d30742e76c2172639d12f8ca8a28f69385b22ba6fbaccc") false holds6 (fun _ h => by cases h) wf6 (fun _ h => by cases h) generationGreatest_row_tie rfl ⟨rfl, rfl⟩ jmain rfl
    (fun f fn hf hfn => by
      obtain rfl : f = 6 := Option.some.inj (named6.symm.trans hf) |>.symm
      obtain rfl : fn = Tryz.f6 := (Option.some.inj (Tryz.func6.symm.trans hfn)).symm
      exact ⟨jlooks, fun j t ht => by
        rw [Tryz.params6] at ht
        have hm : t ∈ [34, 22, 3] := by simpa using Array.mem_of_getElem? ht
        have hall : ([34, 22, 3].all fun u => !Tryz.prog.wantsStandIn u) = true := by kernel_rfl
        exact (show Tryz.prog.wantsStandIn t = false by simpa using List.all_eq_true.1 hall t hm)⟩)
    goes6
#print axioms generationGreatest_holds

end Go.Proofs.YtlkkiimmangplaaGreatDoor
