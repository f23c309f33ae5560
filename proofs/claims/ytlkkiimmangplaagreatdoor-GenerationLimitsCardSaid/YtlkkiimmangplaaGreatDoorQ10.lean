/- The law GenerationLimits of the package dasdlaw38: for every input the call returns true, and the input reads as it did. No condition but those that the card names. -/
import Derived.Test.YtlkkiimmangplaaGreatDoorP23
import Derived.Test.YtlkkiimmangplaaGreatDoorX4
import Derived.Test.YtlkkiimmangplaaGreatDoorJ0
import Derived.Test.YtlkkiimmangplaaGreatDoorTie
import Derived.Test.YtlkkiimmangplaaGreatDoorCards
import Derived.ProofKit
import Derived.OpenShut
import Derived.LaidMore
import Derived.Lay
import Derived.SevenTiedAt
import Derived.Stop.Joined
namespace Go.Proofs.YtlkkiimmangplaaGreatDoor
open Go Go.RowKit
set_option linter.unusedVariables false
set_option linter.unusedSimpArgs false

open Go.ChangeShapes Go.WideShapes Go.ChangeAt
set_option maxRecDepth 100000
abbrev laidL : List (String × DataW Unit) := [("math/bits.deBruijn32tab", Rows.laid_math_bits_deBruijn32tab), ("math/bits.deBruijn64tab", Rows.laid_math_bits_deBruijn64tab), ("internal/strconv.uint64pow10", Rows.laid_internal_strconv_uint64pow10), ("unicode/utf8.acceptRanges", Rows.laid_unicode_utf8_acceptRanges), ("unicode/utf8.first", Rows.laid_unicode_utf8_first)]
theorem own10 : ownKnob Tryz.prog.godebug = none := by kernel_rfl
theorem lifted10 (os : Os) (started : os.Started) (H : Type) (enc : TypeId × Value → H) :
    ReturnsInHanded {} Tryz.checked os 10 .any (fun w args => (Rows.generationLimitsSpec.pre enc Tryz.prog Tryz.f10 Rows.generationLimitsRow.domain false w args ∧ laidMetH Tryz.prog laidL w) ∧ sizedMet enc Tryz.prog Tryz.f10 (OpenSpec.ofChange Rows.generationLimitsSpec) false w args)
      (Rows.generationLimitsSpec.post enc Tryz.prog Tryz.f10 false true false false) := by
  refine lift_and_shaped (C := Tryz.checked) (X := fun w _ => laidMetH Tryz.prog laidL w) (fun _ _ _ hh h => h.of_heap hh) own10 started (by kernel_rfl) Tryz.func10
    (ChangeSpec.witness_shaped (enc := enc) (C := Tryz.checked) (os := os) (X := fun w _ => laidMetH Tryz.prog laidL w) false (World.laidAll Tryz.prog os laidL) #[.agg (E.cells E.zero (.slice none 0 0) (.slice none 0 0)), .slice none 0 0, .int .u8 0] 8 (World.laidAll_os _ _ _)
      (World.shaped_of_ZipB (by kernel_rfl) (by kernel_rfl)) (by kernel_rfl) (by kernel_rfl) (by kernel_rfl)
      (by rw [MakeChecks.laidMetH_plain _ _ _ (by kernel_rfl)]; exact laidMet_laidAll _ (by kernel_rfl) (by kernel_rfl))) ?_
  intro W base args ds gs before hval0 hW hc hsz hL' hsh _
  have hg : Good W := ⟨hsh⟩
  have hval : ∀ (j : Nat) t v, Tryz.f10.params[j]? = some t → args[j]? = some v → Value.okWide Tryz.prog W .any base t v := hval0
  have hW' := hW
  obtain ⟨p, q, hA0, hV, rfl, _, _⟩ := hW
  have hA : DataW.TrodAll enc Tryz.prog W 0 (fun _ => true) true Tryz.f10.params.toList args.toList ds p := hA0
  rw [Tryz.params10] at hA hval
  obtain ⟨rfl, rfl⟩ := trodVars_none hV
  obtain ⟨v0, vs0, d0, ds0, p0, q0, hv0, rfl, rfl, h0, hr0⟩ := trodAll_cons hA
  obtain ⟨v1, vs1, d1, ds1, p1, q1, rfl, rfl, rfl, h1, hr1⟩ := trodAll_cons hr0
  obtain ⟨v2, vs2, d2, ds2, p2, q2, rfl, rfl, rfl, h2, hr2⟩ := trodAll_cons hr1
  obtain ⟨rfl, rfl, rfl⟩ := trodAll_nil hr2
  obtain rfl : args = #[v0, v1, v2] := by cases args; simp_all
  have w0 : Wok 34 d0 := wok_each hsz 0 _ _ rfl rfl
  obtain ⟨n0, h0⟩ := h0
  have ok0 := hval 0 34 v0 rfl rfl
  obtain ⟨cs0, rfl, _⟩ := okWide_struct Tryz.underlying34 ok0
  obtain ⟨x0, va0, vg0, e0, b0, at0⟩ := op34 h0 w0
  obtain rfl := agg_cells e0
  have w1 : Wok 22 d1 := wok_each hsz 1 _ _ rfl rfl
  obtain ⟨n1, h1⟩ := h1
  have ok1 := hval 1 22 v1 rfl rfl
  obtain ⟨A1, c1, x1, e1, lc1, cc1, b1, s1, z1⟩ := op22 h1 w1
  obtain rfl := slice_of Tryz.underlying22 ok1 e1
  have w2 : Wok 5 d2 := wok_each hsz 2 _ _ rfl rfl
  obtain ⟨n2, h2⟩ := h2
  have ok2 := hval 2 5 v2 rfl rfl
  obtain ⟨a2, rfl⟩ := okWide_int Tryz.underlying5 ok2
  obtain ⟨_, e2, b2⟩ := op5 h2
  simp [Value.cells] at e2; subst e2
  refine (limits_law x0 va0 vg0 A1 c1 x1 a2 W hg at0 s1 lc1 z1 b2).mono fun e W' h => ?_
  obtain ⟨rfl, hst⟩ := h
  exact ⟨_, rfl, post_kept ownClosed (by rw [Tryz.params10]; decide) Tryz.underlying4 rfl rfl rfl hW' hst.below⟩
theorem jf10_0 : (Rows.generationLimitsRow.wf (OpenSpec.ofChange Rows.generationLimitsSpec)) = true := by kernel_rfl
theorem jf10_3 : (Tryz.f10.params.all (Tryz.prog.readableRec ·)) = true := by kernel_rfl
theorem jf10_4 : (namedTie Tryz.prog Rows.generationLimitsRow.named Rows.generationLimitsSpec.vars) = true := by kernel_rfl
theorem jf10_5 : ((Rows.generationLimitsRow.stops == [])) = true := by kernel_rfl
theorem jf10_7 : ((Rows.generationLimitsRow.knobs == [])) = true := by kernel_rfl
theorem jf10_9 : ((Rows.generationLimitsRow.inPlace == Tryz.prog.inPlace 10)) = true := by kernel_rfl
theorem jf10_10 : ((Rows.generationLimitsRow.unfollowed == Tryz.prog.unfollowed 10)) = true := by kernel_rfl
theorem jf10_11 : ((Rows.generationLimitsRow.recurses == Tryz.prog.recurses 10)) = true := by kernel_rfl
theorem jf10_12 : ((Rows.generationLimitsRow.named == Tryz.prog.varsNamed 10)) = true := by kernel_rfl
theorem jf10_13 : ((Rows.generationLimitsRow.maps == (Tryz.f10.params.toList ++ Rows.generationLimitsSpec.plain.varTypes Tryz.prog).any (Tryz.prog.mapsRec ·))) = true := by kernel_rfl
theorem jf10_14 : ((Rows.generationLimitsRow.ifaces == (Tryz.f10.params.toList ++ Rows.generationLimitsSpec.plain.varTypes Tryz.prog).any (Tryz.prog.ifacesRec ·))) = true := by kernel_rfl
theorem jf10_15 : ((Rows.generationLimitsRow.mapsOut == Tryz.prog.mapsAmong Tryz.f10.resultTypes.toList)) = true := by kernel_rfl
theorem jf10_16 : ((Rows.generationLimitsRow.loops == (Tryz.f10.params.toList ++ Rows.generationLimitsSpec.plain.varTypes Tryz.prog).any (Tryz.prog.loopsFrom ·))) = true := by kernel_rfl
theorem jf10_17 : ((Rows.generationLimitsRow.wideKeys == (Tryz.f10.params.toList ++ Rows.generationLimitsSpec.plain.varTypes Tryz.prog ++ Tryz.f10.resultTypes.toList).any (Tryz.prog.wideKeysFrom ·))) = true := by kernel_rfl
theorem jf10_18 : (Rows.generationLimitsSpec.vars.all (Tryz.prog.varReadable ·)) = true := by kernel_rfl
theorem jf10_19 : (Tryz.f10.resultTypes.all (fun t => Tryz.prog.readableRec t && decide (t < Tryz.prog.types.size))) = true := by kernel_rfl
theorem jf10_20 : ((Rows.generationLimitsRow.ifacesOut == Tryz.f10.resultTypes.toList.any (Tryz.prog.ifacesRec ·))) = true := by kernel_rfl
theorem jf10_21 : ((Rows.generationLimitsRow.loopsOut == Tryz.f10.resultTypes.toList.any (Tryz.prog.loopsFrom ·))) = true := by kernel_rfl
theorem jf10_23 : (Rows.generationLimitsRow.shortTexts.isNone) = true := by kernel_rfl
theorem jf10_28 : ((Rows.generationLimitsRow.kinds == (if Rows.generationLimitsRow.domain.isEmpty then [] else Tryz.f10.params.toList.map fun t => match Tryz.prog.underlying t with | some (.int k) => some k | _ => none))) = true := by kernel_rfl
theorem jf10_29 : ((Rows.generationLimitsRow.pinned == Rows.generationLimitsRow.pinnedBy)) = true := by kernel_rfl
theorem jf10_30 : ((Rows.generationLimitsRow.veiled == (Tryz.f10.params.toList ++ Rows.generationLimitsSpec.plain.varTypes Tryz.prog ++ Tryz.f10.resultTypes.toList).any (Tryz.prog.veiledRec ·))) = true := by kernel_rfl
theorem jf10_31 : (Rows.generationLimitsRow.veiledFits Tryz.prog Tryz.f10.params.toList (Tryz.f10.params.toList ++ Rows.generationLimitsSpec.plain.varTypes Tryz.prog ++ Tryz.f10.resultTypes.toList)) = true := by kernel_rfl
theorem joined10 : joinedFacts Tryz.prog 10 Tryz.f10 Rows.generationLimitsSpec Rows.generationLimitsRow = true := by
  unfold joinedFacts
  simp only [Bool.and_eq_true]
  exact ⟨⟨⟨⟨⟨⟨⟨⟨⟨⟨⟨⟨⟨⟨⟨⟨⟨⟨⟨⟨⟨⟨⟨⟨⟨⟨⟨⟨⟨⟨⟨jf10_0, jf_1⟩, jf_2⟩, jf10_3⟩, jf10_4⟩, jf10_5⟩, jf_6⟩, jf10_7⟩, jf_8⟩, jf10_9⟩, jf10_10⟩, jf10_11⟩, jf10_12⟩, jf10_13⟩, jf10_14⟩, jf10_15⟩, jf10_16⟩, jf10_17⟩, jf10_18⟩, jf10_19⟩, jf10_20⟩, jf10_21⟩, jf_22⟩, jf10_23⟩, jf_24⟩, jf_25⟩, jf_26⟩, jf_27⟩, jf10_28⟩, jf10_29⟩, jf10_30⟩, jf10_31⟩
theorem named10 : Tryz.prog.funcNamed Rows.generationLimitsRow.func = some 10 := by kernel_rfl
theorem inst10 : decide (Tryz.f10.isInstance Tryz.prog Rows.generationLimitsRow.origin Rows.generationLimitsRow.targs) = true := by kernel_rfl
theorem goes10 : false = Rows.generationLimitsRow.goesBy Tryz.prog := by kernel_rfl
theorem wf10 : Rows.generationLimitsRow.wfByText (OpenSpec.ofChange Rows.generationLimitsSpec) = true := by kernel_rfl
theorem holds10 : Rows.GenerationLimitsSaid :=
  OpenClaim.holds_of_wide 10 Tryz.f10 rfl rfl rfl rfl rfl rfl rfl ⟨rfl, rfl, rfl, rfl, rfl⟩ rfl rfl rfl rfl rfl named10 Tryz.func10 joined10
    (of_decide_eq_true inst10) (by unfold Func.isWrapper; first | (rw [if_pos (by decide +kernel)]; kernel_rfl) | (rw [if_neg (by decide +kernel)]; exact ⟨rfl, rfl⟩))
    (fun os started H enc _ => lifted10 os started H enc)
theorem generationLimits_holds : Rows.GenerationLimitsCardSaid :=
  Claim7.holds_tied_plain_at .later [] [.data, .data, .data, .data, .pinned] true (true, "1f55a028107fcf6cc6d30742e76c2172639d12f8ca8a28f69385b22ba6fbaccc") false holds10 (fun _ h => by cases h) wf10 (fun _ h => by cases h) generationLimits_row_tie rfl ⟨rfl, rfl⟩ jmain rfl
    (fun f fn hf hfn => by
      obtain rfl : f = 10 := Option.some.inj (named10.symm.trans hf) |>.symm
      obtain rfl : fn = Tryz.f10 := (Option.some.inj (Tryz.func10.symm.trans hfn)).symm
      exact ⟨jlooks, fun j t ht => by
        rw [Tryz.params10] at ht
        have hm : t ∈ [34, 22, 5] := by simpa using Array.mem_of_getElem? ht
        have hall : ([34, 22, 5].all fun u => !Tryz.prog.wantsStandIn u) = true := by kernel_rfl
        exact (show Tryz.prog.wantsStandIn t = false by simpa using List.all_eq_true.1 hall t hm)⟩)
    goes10
#print axioms generationLimits_holds

end Go.Proofs.YtlkkiimmangplaaGreatDoor
