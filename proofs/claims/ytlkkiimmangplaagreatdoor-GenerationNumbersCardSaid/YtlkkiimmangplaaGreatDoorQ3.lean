/- The law GenerationNumbers of the package dasdlaw38: for every input the call returns true, and the input reads as it did. No condition but those that the card names. -/
import Derived.Test.YtlkkiimmangplaaGreatDoorP15
import Derived.Test.YtlkkiimmangplaaGreatDoorX4
import Derived.Test.YtlkkiimmangplaaGreatDoorJ0
import Derived.Test.YtlkkiimmangplaaGreatDoorTie
import Derived.Test.YtlkkiimmangplaaGreatDoorCards
import Derived.ProofKit
import Derived.OpenShut
import Derived.LaidMore
import Derived.Lay
import Derived.SevenTiedAt
import Derived.Stop.Joined
namespace Go.Proofs.YtlkkiimmangplaaGreatDoor
open Go Go.RowKit
set_option linter.unusedVariables false
set_option linter.unusedSimpArgs false

open Go.ChangeShapes Go.WideShapes Go.ChangeAt
set_option maxRecDepth 100000
abbrev laidL : List (String × DataW Unit) := [("math/bits.deBruijn32tab", Rows.laid_math_bits_deBruijn32tab), ("math/bits.deBruijn64tab", Rows.laid_math_bits_deBruijn64tab), ("internal/strconv.uint64pow10", Rows.laid_internal_strconv_uint64pow10), ("unicode/utf8.acceptRanges", Rows.laid_unicode_utf8_acceptRanges), ("unicode/utf8.first", Rows.laid_unicode_utf8_first)]
theorem own3 : ownKnob Tryz.prog.godebug = none := by kernel_rfl
theorem lifted3 (os : Os) (started : os.Started) (H : Type) (enc : TypeId × Value → H) :
    ReturnsInHanded {} Tryz.checked os 3 .any (fun w args => (Rows.generationNumbersSpec.pre enc Tryz.prog Tryz.f3 Rows.generationNumbersRow.domain false w args ∧ laidMetH Tryz.prog laidL w) ∧ sizedMet enc Tryz.prog Tryz.f3 (OpenSpec.ofChange Rows.generationNumbersSpec) false w args)
      (Rows.generationNumbersSpec.post enc Tryz.prog Tryz.f3 false true false false) := by
  refine lift_and_shaped (C := Tryz.checked) (X := fun w _ => laidMetH Tryz.prog laidL w) (fun _ _ _ hh h => h.of_heap hh) own3 started (by kernel_rfl) Tryz.func3
    (ChangeSpec.witness_shaped (enc := enc) (C := Tryz.checked) (os := os) (X := fun w _ => laidMetH Tryz.prog laidL w) false (World.laidAll Tryz.prog os laidL) #[.agg #[.string ⟨#[]⟩, .int .i64 0, .slice none 0 0], .int .i64 0] 8 (World.laidAll_os _ _ _)
      (World.shaped_of_ZipB (by kernel_rfl) (by kernel_rfl)) (by kernel_rfl) (by kernel_rfl) (by kernel_rfl)
      (by rw [MakeChecks.laidMetH_plain _ _ _ (by kernel_rfl)]; exact laidMet_laidAll _ (by kernel_rfl) (by kernel_rfl))) ?_
  intro W base args ds gs before hval0 hW hc hsz hL' hsh _
  have hg : Good W := ⟨hsh⟩
  have hval : ∀ (j : Nat) t v, Tryz.f3.params[j]? = some t → args[j]? = some v → Value.okWide Tryz.prog W .any base t v := hval0
  have hW' := hW
  obtain ⟨p, q, hA0, hV, rfl, _, _⟩ := hW
  have hA : DataW.TrodAll enc Tryz.prog W 0 (fun _ => true) true Tryz.f3.params.toList args.toList ds p := hA0
  rw [Tryz.params3] at hA hval
  obtain ⟨rfl, rfl⟩ := trodVars_none hV
  obtain ⟨v0, vs0, d0, ds0, p0, q0, hv0, rfl, rfl, h0, hr0⟩ := trodAll_cons hA
  obtain ⟨v1, vs1, d1, ds1, p1, q1, rfl, rfl, rfl, h1, hr1⟩ := trodAll_cons hr0
  obtain ⟨rfl, rfl, rfl⟩ := trodAll_nil hr1
  obtain rfl : args = #[v0, v1] := by cases args; simp_all
  have w0 : Wok 24 d0 := wok_each hsz 0 _ _ rfl rfl
  obtain ⟨n0, h0⟩ := h0
  have ok0 := hval 0 24 v0 rfl rfl
  obtain ⟨cs0, rfl, _⟩ := okWide_struct Tryz.underlying24 ok0
  obtain ⟨base0, last0, A0, c0, x0, e0, bb0, bl0, b0, lc0, s0⟩ := op24 h0 w0
  obtain rfl : cs0 = #[.string base0, .int .i64 last0, .slice A0 x0.length c0] := agg_cells e0
  have w1 : Wok 3 d1 := wok_each hsz 1 _ _ rfl rfl
  obtain ⟨n1, h1⟩ := h1
  have ok1 := hval 1 3 v1 rfl rfl
  obtain ⟨a1, rfl⟩ := okWide_int Tryz.underlying3 ok1
  obtain ⟨_, e1, b1⟩ := op3 h1
  simp [Value.cells] at e1; subst e1
  refine (numbers_law base0 last0 A0 c0 x0 a1 W hg s0 b1).mono fun e W' h => ?_
  obtain ⟨rfl, hst⟩ := h
  exact ⟨_, rfl, post_kept ownClosed (by rw [Tryz.params3]; decide) Tryz.underlying4 rfl rfl rfl hW' hst.below⟩
theorem jf3_0 : (Rows.generationNumbersRow.wf (OpenSpec.ofChange Rows.generationNumbersSpec)) = true := by kernel_rfl
theorem jf3_3 : (Tryz.f3.params.all (Tryz.prog.readableRec ·)) = true := by kernel_rfl
theorem jf3_4 : (namedTie Tryz.prog Rows.generationNumbersRow.named Rows.generationNumbersSpec.vars) = true := by kernel_rfl
theorem jf3_5 : ((Rows.generationNumbersRow.stops == [])) = true := by kernel_rfl
theorem jf3_7 : ((Rows.generationNumbersRow.knobs == [])) = true := by kernel_rfl
theorem jf3_9 : ((Rows.generationNumbersRow.inPlace == Tryz.prog.inPlace 3)) = true := by kernel_rfl
theorem jf3_10 : ((Rows.generationNumbersRow.unfollowed == Tryz.prog.unfollowed 3)) = true := by kernel_rfl
theorem jf3_11 : ((Rows.generationNumbersRow.recurses == Tryz.prog.recurses 3)) = true := by kernel_rfl
theorem jf3_12 : ((Rows.generationNumbersRow.named == Tryz.prog.varsNamed 3)) = true := by kernel_rfl
theorem jf3_13 : ((Rows.generationNumbersRow.maps == (Tryz.f3.params.toList ++ Rows.generationNumbersSpec.plain.varTypes Tryz.prog).any (Tryz.prog.mapsRec ·))) = true := by kernel_rfl
theorem jf3_14 : ((Rows.generationNumbersRow.ifaces == (Tryz.f3.params.toList ++ Rows.generationNumbersSpec.plain.varTypes Tryz.prog).any (Tryz.prog.ifacesRec ·))) = true := by kernel_rfl
theorem jf3_15 : ((Rows.generationNumbersRow.mapsOut == Tryz.prog.mapsAmong Tryz.f3.resultTypes.toList)) = true := by kernel_rfl
theorem jf3_16 : ((Rows.generationNumbersRow.loops == (Tryz.f3.params.toList ++ Rows.generationNumbersSpec.plain.varTypes Tryz.prog).any (Tryz.prog.loopsFrom ·))) = true := by kernel_rfl
theorem jf3_17 : ((Rows.generationNumbersRow.wideKeys == (Tryz.f3.params.toList ++ Rows.generationNumbersSpec.plain.varTypes Tryz.prog ++ Tryz.f3.resultTypes.toList).any (Tryz.prog.wideKeysFrom ·))) = true := by kernel_rfl
theorem jf3_18 : (Rows.generationNumbersSpec.vars.all (Tryz.prog.varReadable ·)) = true := by kernel_rfl
theorem jf3_19 : (Tryz.f3.resultTypes.all (fun t => Tryz.prog.readableRec t && decide (t < Tryz.prog.types.size))) = true := by kernel_rfl
theorem jf3_20 : ((Rows.generationNumbersRow.ifacesOut == Tryz.f3.resultTypes.toList.any (Tryz.prog.ifacesRec ·))) = true := by kernel_rfl
theorem jf3_21 : ((Rows.generationNumbersRow.loopsOut == Tryz.f3.resultTypes.toList.any (Tryz.prog.loopsFrom ·))) = true := by kernel_rfl
theorem jf3_23 : (Rows.generationNumbersRow.shortTexts.isNone) = true := by kernel_rfl
theorem jf3_28 : ((Rows.generationNumbersRow.kinds == (if Rows.generationNumbersRow.domain.isEmpty then [] else Tryz.f3.params.toList.map fun t => match Tryz.prog.underlying t with | some (.int k) => some k | _ => none))) = true := by kernel_rfl
theorem jf3_29 : ((Rows.generationNumbersRow.pinned == Rows.generationNumbersRow.pinnedBy)) = true := by kernel_rfl
theorem jf3_30 : ((Rows.generationNumbersRow.veiled == (Tryz.f3.params.toList ++ Rows.generationNumbersSpec.plain.varTypes Tryz.prog ++ Tryz.f3.resultTypes.toList).any (Tryz.prog.veiledRec ·))) = true := by kernel_rfl
theorem jf3_31 : (Rows.generationNumbersRow.veiledFits Tryz.prog Tryz.f3.params.toList (Tryz.f3.params.toList ++ Rows.generationNumbersSpec.plain.varTypes Tryz.prog ++ Tryz.f3.resultTypes.toList)) = true := by kernel_rfl
theorem joined3 : joinedFacts Tryz.prog 3 Tryz.f3 Rows.generationNumbersSpec Rows.generationNumbersRow = true := by
  unfold joinedFacts
  simp only [Bool.and_eq_true]
  exact ⟨⟨⟨⟨⟨⟨⟨⟨⟨⟨⟨⟨⟨⟨⟨⟨⟨⟨⟨⟨⟨⟨⟨⟨⟨⟨⟨⟨⟨⟨⟨jf3_0, jf_1⟩, jf_2⟩, jf3_3⟩, jf3_4⟩, jf3_5⟩, jf_6⟩, jf3_7⟩, jf_8⟩, jf3_9⟩, jf3_10⟩, jf3_11⟩, jf3_12⟩, jf3_13⟩, jf3_14⟩, jf3_15⟩, jf3_16⟩, jf3_17⟩, jf3_18⟩, jf3_19⟩, jf3_20⟩, jf3_21⟩, jf_22⟩, jf3_23⟩, jf_24⟩, jf_25⟩, jf_26⟩, jf_27⟩, jf3_28⟩, jf3_29⟩, jf3_30⟩, jf3_31⟩
theorem named3 : Tryz.prog.funcNamed Rows.generationNumbersRow.func = some 3 := by kernel_rfl
theorem inst3 : decide (Tryz.f3.isInstance Tryz.prog Rows.generationNumbersRow.origin Rows.generationNumbersRow.targs) = true := by kernel_rfl
theorem goes3 : false = Rows.generationNumbersRow.goesBy Tryz.prog := by kernel_rfl
theorem wf3 : Rows.generationNumbersRow.wfByText (OpenSpec.ofChange Rows.generationNumbersSpec) = true := by kernel_rfl
theorem holds3 : Rows.GenerationNumbersSaid :=
  OpenClaim.holds_of_wide 3 Tryz.f3 rfl rfl rfl rfl rfl rfl rfl ⟨rfl, rfl, rfl, rfl, rfl⟩ rfl rfl rfl rfl rfl named3 Tryz.func3 joined3
    (of_decide_eq_true inst3) (by unfold Func.isWrapper; first | (rw [if_pos (by decide +kernel)]; kernel_rfl) | (rw [if_neg (by decide +kernel)]; exact ⟨rfl, rfl⟩))
    (fun os started H enc _ => lifted3 os started H enc)
theorem generationNumbers_holds : Rows.GenerationNumbersCardSaid :=
  Claim7.holds_tied_plain_at .later [] [.data, .data, .data, .data, .pinned] true (true, "1f55a028107fcf6cc6d30742e76c2172639d12f8ca8a28f69385b22ba6fbaccc") false holds3 (fun _ h => by cases h) wf3 (fun _ h => by cases h) generationNumbers_row_tie rfl ⟨rfl, rfl⟩ jmain rfl
    (fun f fn hf hfn => by
      obtain rfl : f = 3 := Option.some.inj (named3.symm.trans hf) |>.symm
      obtain rfl : fn = Tryz.f3 := (Option.some.inj (Tryz.func3.symm.trans hfn)).symm
      exact ⟨jlooks, fun j t ht => by
        rw [Tryz.params3] at ht
        have hm : t ∈ [24, 3] := by simpa using Array.mem_of_getElem? ht
        have hall : ([24, 3].all fun u => !Tryz.prog.wantsStandIn u) = true := by kernel_rfl
        exact (show Tryz.prog.wantsStandIn t = false by simpa using List.all_eq_true.1 hall t hm)⟩)
    goes3
#print axioms generationNumbers_holds

end Go.Proofs.YtlkkiimmangplaaGreatDoor
