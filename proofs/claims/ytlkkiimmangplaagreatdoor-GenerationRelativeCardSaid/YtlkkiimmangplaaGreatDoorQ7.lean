/- The law GenerationRelative of the package dasdlaw38: for every input the call returns true, and the input reads as it did. No condition but those that the card names. -/
import Derived.Test.YtlkkiimmangplaaGreatDoorP25
import Derived.Test.YtlkkiimmangplaaGreatDoorX4
import Derived.Test.YtlkkiimmangplaaGreatDoorJ0
import Derived.Test.YtlkkiimmangplaaGreatDoorTie
import Derived.Test.YtlkkiimmangplaaGreatDoorCards
import Derived.ProofKit
import Derived.OpenShut
import Derived.LaidMore
import Derived.Lay
import Derived.SevenTiedAt
import Derived.Stop.Joined
namespace Go.Proofs.YtlkkiimmangplaaGreatDoor
open Go Go.RowKit
set_option linter.unusedVariables false
set_option linter.unusedSimpArgs false

open Go.ChangeShapes Go.WideShapes Go.ChangeAt
set_option maxRecDepth 100000
abbrev laidL : List (String × DataW Unit) := [("math/bits.deBruijn32tab", Rows.laid_math_bits_deBruijn32tab), ("math/bits.deBruijn64tab", Rows.laid_math_bits_deBruijn64tab), ("internal/strconv.uint64pow10", Rows.laid_internal_strconv_uint64pow10), ("unicode/utf8.acceptRanges", Rows.laid_unicode_utf8_acceptRanges), ("unicode/utf8.first", Rows.laid_unicode_utf8_first)]
theorem own7 : ownKnob Tryz.prog.godebug = none := by kernel_rfl
theorem lifted7 (os : Os) (started : os.Started) (H : Type) (enc : TypeId × Value → H) :
    ReturnsInHanded {} Tryz.checked os 7 .any (fun w args => (Rows.generationRelativeSpec.pre enc Tryz.prog Tryz.f7 Rows.generationRelativeRow.domain false w args ∧ laidMetH Tryz.prog laidL w) ∧ sizedMet enc Tryz.prog Tryz.f7 (OpenSpec.ofChange Rows.generationRelativeSpec) false w args)
      (Rows.generationRelativeSpec.post enc Tryz.prog Tryz.f7 false true false false) := by
  refine lift_and_shaped (C := Tryz.checked) (X := fun w _ => laidMetH Tryz.prog laidL w) (fun _ _ _ hh h => h.of_heap hh) own7 started (by kernel_rfl) Tryz.func7
    (ChangeSpec.witness_shaped (enc := enc) (C := Tryz.checked) (os := os) (X := fun w _ => laidMetH Tryz.prog laidL w) false (World.laidAll Tryz.prog os laidL) #[.agg (E.cells E.zero (.slice none 0 0) (.slice none 0 0)), .slice none 0 0, .int .u8 0] 8 (World.laidAll_os _ _ _)
      (World.shaped_of_ZipB (by kernel_rfl) (by kernel_rfl)) (by kernel_rfl) (by kernel_rfl) (by kernel_rfl)
      (by rw [MakeChecks.laidMetH_plain _ _ _ (by kernel_rfl)]; exact laidMet_laidAll _ (by kernel_rfl) (by kernel_rfl))) ?_
  intro W base args ds gs before hval0 hW hc hsz hL' hsh _
  have hg : Good W := ⟨hsh⟩
  have hval : ∀ (j : Nat) t v, Tryz.f7.params[j]? = some t → args[j]? = some v → Value.okWide Tryz.prog W .any base t v := hval0
  have hW' := hW
  obtain ⟨p, q, hA0, hV, rfl, _, _⟩ := hW
  have hA : DataW.TrodAll enc Tryz.prog W 0 (fun _ => true) true Tryz.f7.params.toList args.toList ds p := hA0
  rw [Tryz.params7] at hA hval
  obtain ⟨rfl, rfl⟩ := trodVars_none hV
  obtain ⟨v0, vs0, d0, ds0, p0, q0, hv0, rfl, rfl, h0, hr0⟩ := trodAll_cons hA
  obtain ⟨v1, vs1, d1, ds1, p1, q1, rfl, rfl, rfl, h1, hr1⟩ := trodAll_cons hr0
  obtain ⟨v2, vs2, d2, ds2, p2, q2, rfl, rfl, rfl, h2, hr2⟩ := trodAll_cons hr1
  obtain ⟨rfl, rfl, rfl⟩ := trodAll_nil hr2
  obtain rfl : args = #[v0, v1, v2] := by cases args; simp_all
  have w0 : Wok 34 d0 := wok_each hsz 0 _ _ rfl rfl
  obtain ⟨n0, h0⟩ := h0
  have ok0 := hval 0 34 v0 rfl rfl
  obtain ⟨cs0, rfl, _⟩ := okWide_struct Tryz.underlying34 ok0
  obtain ⟨x0, va0, vg0, e0, b0, at0⟩ := op34 h0 w0
  obtain rfl := agg_cells e0
  have w1 : Wok 22 d1 := wok_each hsz 1 _ _ rfl rfl
  obtain ⟨n1, h1⟩ := h1
  have ok1 := hval 1 22 v1 rfl rfl
  obtain ⟨A1, c1, x1, e1, lc1, cc1, b1, s1, z1⟩ := op22 h1 w1
  obtain rfl := slice_of Tryz.underlying22 ok1 e1
  have w2 : Wok 5 d2 := wok_each hsz 2 _ _ rfl rfl
  obtain ⟨n2, h2⟩ := h2
  have ok2 := hval 2 5 v2 rfl rfl
  obtain ⟨a2, rfl⟩ := okWide_int Tryz.underlying5 ok2
  obtain ⟨_, e2, b2⟩ := op5 h2
  simp [Value.cells] at e2; subst e2
  refine (relative_law x0 va0 vg0 A1 c1 x1 a2 W hg at0 s1 lc1 z1 b2).mono fun e W' h => ?_
  obtain ⟨rfl, hst⟩ := h
  exact ⟨_, rfl, post_kept ownClosed (by rw [Tryz.params7]; decide) Tryz.underlying4 rfl rfl rfl hW' hst.below⟩
theorem jf7_0 : (Rows.generationRelativeRow.wf (OpenSpec.ofChange Rows.generationRelativeSpec)) = true := by kernel_rfl
theorem jf7_3 : (Tryz.f7.params.all (Tryz.prog.readableRec ·)) = true := by kernel_rfl
theorem jf7_4 : (namedTie Tryz.prog Rows.generationRelativeRow.named Rows.generationRelativeSpec.vars) = true := by kernel_rfl
theorem jf7_5 : ((Rows.generationRelativeRow.stops == [])) = true := by kernel_rfl
theorem jf7_7 : ((Rows.generationRelativeRow.knobs == [])) = true := by kernel_rfl
theorem jf7_9 : ((Rows.generationRelativeRow.inPlace == Tryz.prog.inPlace 7)) = true := by kernel_rfl
theorem jf7_10 : ((Rows.generationRelativeRow.unfollowed == Tryz.prog.unfollowed 7)) = true := by kernel_rfl
theorem jf7_11 : ((Rows.generationRelativeRow.recurses == Tryz.prog.recurses 7)) = true := by kernel_rfl
theorem jf7_12 : ((Rows.generationRelativeRow.named == Tryz.prog.varsNamed 7)) = true := by kernel_rfl
theorem jf7_13 : ((Rows.generationRelativeRow.maps == (Tryz.f7.params.toList ++ Rows.generationRelativeSpec.plain.varTypes Tryz.prog).any (Tryz.prog.mapsRec ·))) = true := by kernel_rfl
theorem jf7_14 : ((Rows.generationRelativeRow.ifaces == (Tryz.f7.params.toList ++ Rows.generationRelativeSpec.plain.varTypes Tryz.prog).any (Tryz.prog.ifacesRec ·))) = true := by kernel_rfl
theorem jf7_15 : ((Rows.generationRelativeRow.mapsOut == Tryz.prog.mapsAmong Tryz.f7.resultTypes.toList)) = true := by kernel_rfl
theorem jf7_16 : ((Rows.generationRelativeRow.loops == (Tryz.f7.params.toList ++ Rows.generationRelativeSpec.plain.varTypes Tryz.prog).any (Tryz.prog.loopsFrom ·))) = true := by kernel_rfl
theorem jf7_17 : ((Rows.generationRelativeRow.wideKeys == (Tryz.f7.params.toList ++ Rows.generationRelativeSpec.plain.varTypes Tryz.prog ++ Tryz.f7.resultTypes.toList).any (Tryz.prog.wideKeysFrom ·))) = true := by kernel_rfl
theorem jf7_18 : (Rows.generationRelativeSpec.vars.all (Tryz.prog.varReadable ·)) = true := by kernel_rfl
theorem jf7_19 : (Tryz.f7.resultTypes.all (fun t => Tryz.prog.readableRec t && decide (t < Tryz.prog.types.size))) = true := by kernel_rfl
theorem jf7_20 : ((Rows.generationRelativeRow.ifacesOut == Tryz.f7.resultTypes.toList.any (Tryz.prog.ifacesRec ·))) = true := by kernel_rfl
theorem jf7_21 : ((Rows.generationRelativeRow.loopsOut == Tryz.f7.resultTypes.toList.any (Tryz.prog.loopsFrom ·))) = true := by kernel_rfl
theorem jf7_23 : (Rows.generationRelativeRow.shortTexts.isNone) = true := by kernel_rfl
theorem jf7_28 : ((Rows.generationRelativeRow.kinds == (if Rows.generationRelativeRow.domain.isEmpty then [] else Tryz.f7.params.toList.map fun t => match Tryz.prog.underlying t with | some (.int k) => some k | _ => none))) = true := by kernel_rfl
theorem jf7_29 : ((Rows.generationRelativeRow.pinned == Rows.generationRelativeRow.pinnedBy)) = true := by kernel_rfl
theorem jf7_30 : ((Rows.generationRelativeRow.veiled == (Tryz.f7.params.toList ++ Rows.generationRelativeSpec.plain.varTypes Tryz.prog ++ Tryz.f7.resultTypes.toList).any (Tryz.prog.veiledRec ·))) = true := by kernel_rfl
theorem jf7_31 : (Rows.generationRelativeRow.veiledFits Tryz.prog Tryz.f7.params.toList (Tryz.f7.params.toList ++ Rows.generationRelativeSpec.plain.varTypes Tryz.prog ++ Tryz.f7.resultTypes.toList)) = true := by kernel_rfl
theorem joined7 : joinedFacts Tryz.prog 7 Tryz.f7 Rows.generationRelativeSpec Rows.generationRelativeRow = true := by
  unfold joinedFacts
  simp only [Bool.and_eq_true]
  exact ⟨⟨⟨⟨⟨⟨⟨⟨⟨⟨⟨⟨⟨⟨⟨⟨⟨⟨⟨⟨⟨⟨⟨⟨⟨⟨⟨⟨⟨⟨⟨jf7_0, jf_1⟩, jf_2⟩, jf7_3⟩, jf7_4⟩, jf7_5⟩, jf_6⟩, jf7_7⟩, jf_8⟩, jf7_9⟩, jf7_10⟩, jf7_11⟩, jf7_12⟩, jf7_13⟩, jf7_14⟩, jf7_15⟩, jf7_16⟩, jf7_17⟩, jf7_18⟩, jf7_19⟩, jf7_20⟩, jf7_21⟩, jf_22⟩, jf7_23⟩, jf_24⟩, jf_25⟩, jf_26⟩, jf_27⟩, jf7_28⟩, jf7_29⟩, jf7_30⟩, jf7_31⟩
theorem named7 : Tryz.prog.funcNamed Rows.generationRelativeRow.func = some 7 := by kernel_rfl
theorem inst7 : decide (Tryz.f7.isInstance Tryz.prog Rows.generationRelativeRow.origin Rows.generationRelativeRow.targs) = true := by kernel_rfl
theorem goes7 : false = Rows.generationRelativeRow.goesBy Tryz.prog := by kernel_rfl
theorem wf7 : Rows.generationRelativeRow.wfByText (OpenSpec.ofChange Rows.generationRelativeSpec) = true := by kernel_rfl
theorem holds7 : Rows.GenerationRelativeSaid :=
  OpenClaim.holds_of_wide 7 Tryz.f7 rfl rfl rfl rfl rfl rfl rfl ⟨rfl, rfl, rfl, rfl, rfl⟩ rfl rfl rfl rfl rfl named7 Tryz.func7 joined7
    (of_decide_eq_true inst7) (by unfold Func.isWrapper; first | (rw [if_pos (by decide +kernel)]; kernel_rfl) | (rw [if_neg (by decide +kernel)]; exact ⟨rfl, rfl⟩))
    (fun os started H enc _ => lifted7 os started H enc)
theorem generationRelative_holds : Rows.GenerationRelativeCardSaid :=
  Claim7.holds_tied_plain_at .later [] [.data, .data, .data, .data, .pinned] true (true, "1f55a028107fcf6cc6d30742e76c2172639d12f8ca8a28f69385b22ba6fbaccc") false holds7 (fun _ h => by cases h) wf7 (fun _ h => by cases h) generationRelative_row_tie rfl ⟨rfl, rfl⟩ jmain rfl
    (fun f fn hf hfn => by
      obtain rfl : f = 7 := Option.some.inj (named7.symm.trans hf) |>.symm
      obtain rfl : fn = Tryz.f7 := (Option.some.inj (Tryz.func7.symm.trans hfn)).symm
      exact ⟨jlooks, fun j t ht => by
        rw [Tryz.params7] at ht
        have hm : t ∈ [34, 22, 5] := by simpa using Array.mem_of_getElem? ht
        have hall : ([34, 22, 5].all fun u => !Tryz.prog.wantsStandIn u) = true := by kernel_rfl
        exact (show Tryz.prog.wantsStandIn t = false by simpa using List.all_eq_true.1 hall t hm)⟩)
    goes7
#print axioms generationRelative_holds

end Go.Proofs.YtlkkiimmangplaaGreatDoor
