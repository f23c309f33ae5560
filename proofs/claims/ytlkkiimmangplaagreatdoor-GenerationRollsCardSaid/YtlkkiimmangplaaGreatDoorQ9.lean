/- The law GenerationRolls of the package dasdlaw38: for every input the call returns true, and the input reads as it did. No condition but those that the card names. -/
import Derived.Test.YtlkkiimmangplaaGreatDoorP22
import Derived.Test.YtlkkiimmangplaaGreatDoorX4
import Derived.Test.YtlkkiimmangplaaGreatDoorJ0
import Derived.Test.YtlkkiimmangplaaGreatDoorTie
import Derived.Test.YtlkkiimmangplaaGreatDoorCards
import Derived.ProofKit
import Derived.OpenShut
import Derived.LaidMore
import Derived.Lay
import Derived.SevenTiedAt
import Derived.Stop.Joined
namespace Go.Proofs.YtlkkiimmangplaaGreatDoor
open Go Go.RowKit
set_option linter.unusedVariables false
set_option linter.unusedSimpArgs false

open Go.ChangeShapes Go.WideShapes Go.ChangeAt
set_option maxRecDepth 100000
abbrev laidL : List (String × DataW Unit) := [("math/bits.deBruijn32tab", Rows.laid_math_bits_deBruijn32tab), ("math/bits.deBruijn64tab", Rows.laid_math_bits_deBruijn64tab), ("internal/strconv.uint64pow10", Rows.laid_internal_strconv_uint64pow10), ("unicode/utf8.acceptRanges", Rows.laid_unicode_utf8_acceptRanges), ("unicode/utf8.first", Rows.laid_unicode_utf8_first)]
theorem own9 : ownKnob Tryz.prog.godebug = none := by kernel_rfl
theorem lifted9 (os : Os) (started : os.Started) (H : Type) (enc : TypeId × Value → H) :
    ReturnsInHanded {} Tryz.checked os 9 .any (fun w args => (Rows.generationRollsSpec.pre enc Tryz.prog Tryz.f9 Rows.generationRollsRow.domain false w args ∧ laidMetH Tryz.prog laidL w) ∧ sizedMet enc Tryz.prog Tryz.f9 (OpenSpec.ofChange Rows.generationRollsSpec) false w args)
      (Rows.generationRollsSpec.post enc Tryz.prog Tryz.f9 false true false false) := by
  refine lift_and_shaped (C := Tryz.checked) (X := fun w _ => laidMetH Tryz.prog laidL w) (fun _ _ _ hh h => h.of_heap hh) own9 started (by kernel_rfl) Tryz.func9
    (ChangeSpec.witness_shaped (enc := enc) (C := Tryz.checked) (os := os) (X := fun w _ => laidMetH Tryz.prog laidL w) false (World.laidAll Tryz.prog os laidL) #[.agg (E.cells E.zero (.slice none 0 0) (.slice none 0 0)), .slice none 0 0, .int .i64 0, .int .i64 0] 8 (World.laidAll_os _ _ _)
      (World.shaped_of_ZipB (by kernel_rfl) (by kernel_rfl)) (by kernel_rfl) (by kernel_rfl) (by kernel_rfl)
      (by rw [MakeChecks.laidMetH_plain _ _ _ (by kernel_rfl)]; exact laidMet_laidAll _ (by kernel_rfl) (by kernel_rfl))) ?_
  intro W base args ds gs before hval0 hW hc hsz hL' hsh _
  have hg : Good W := ⟨hsh⟩
  have hval : ∀ (j : Nat) t v, Tryz.f9.params[j]? = some t → args[j]? = some v → Value.okWide Tryz.prog W .any base t v := hval0
  have hW' := hW
  obtain ⟨p, q, hA0, hV, rfl, _, _⟩ := hW
  have hA : DataW.TrodAll enc Tryz.prog W 0 (fun _ => true) true Tryz.f9.params.toList args.toList ds p := hA0
  rw [Tryz.params9] at hA hval
  obtain ⟨rfl, rfl⟩ := trodVars_none hV
  obtain ⟨v0, vs0, d0, ds0, p0, q0, hv0, rfl, rfl, h0, hr0⟩ := trodAll_cons hA
  obtain ⟨v1, vs1, d1, ds1, p1, q1, rfl, rfl, rfl, h1, hr1⟩ := trodAll_cons hr0
  obtain ⟨v2, vs2, d2, ds2, p2, q2, rfl, rfl, rfl, h2, hr2⟩ := trodAll_cons hr1
  obtain ⟨v3, vs3, d3, ds3, p3, q3, rfl, rfl, rfl, h3, hr3⟩ := trodAll_cons hr2
  obtain ⟨rfl, rfl, rfl⟩ := trodAll_nil hr3
  obtain rfl : args = #[v0, v1, v2, v3] := by cases args; simp_all
  have w0 : Wok 34 d0 := wok_each hsz 0 _ _ rfl rfl
  obtain ⟨n0, h0⟩ := h0
  have ok0 := hval 0 34 v0 rfl rfl
  obtain ⟨cs0, rfl, _⟩ := okWide_struct Tryz.underlying34 ok0
  obtain ⟨x0, va0, vg0, e0, b0, at0⟩ := op34 h0 w0
  obtain rfl := agg_cells e0
  have w1 : Wok 22 d1 := wok_each hsz 1 _ _ rfl rfl
  obtain ⟨n1, h1⟩ := h1
  have ok1 := hval 1 22 v1 rfl rfl
  obtain ⟨A1, c1, x1, e1, lc1, cc1, b1, s1, z1⟩ := op22 h1 w1
  obtain rfl := slice_of Tryz.underlying22 ok1 e1
  have w2 : Wok 3 d2 := wok_each hsz 2 _ _ rfl rfl
  obtain ⟨n2, h2⟩ := h2
  have ok2 := hval 2 3 v2 rfl rfl
  obtain ⟨a2, rfl⟩ := okWide_int Tryz.underlying3 ok2
  obtain ⟨_, e2, b2⟩ := op3 h2
  simp [Value.cells] at e2; subst e2
  have w3 : Wok 3 d3 := wok_each hsz 3 _ _ rfl rfl
  obtain ⟨n3, h3⟩ := h3
  have ok3 := hval 3 3 v3 rfl rfl
  obtain ⟨a3, rfl⟩ := okWide_int Tryz.underlying3 ok3
  obtain ⟨_, e3, b3⟩ := op3 h3
  simp [Value.cells] at e3; subst e3
  refine (rolls_law x0 va0 vg0 A1 c1 x1 a2 a3 W hg at0 s1 lc1 z1).mono fun e W' h => ?_
  obtain ⟨rfl, hst⟩ := h
  exact ⟨_, rfl, post_kept ownClosed (by rw [Tryz.params9]; decide) Tryz.underlying4 rfl rfl rfl hW' hst.below⟩
theorem jf9_0 : (Rows.generationRollsRow.wf (OpenSpec.ofChange Rows.generationRollsSpec)) = true := by kernel_rfl
theorem jf9_3 : (Tryz.f9.params.all (Tryz.prog.readableRec ·)) = true := by kernel_rfl
theorem jf9_4 : (namedTie Tryz.prog Rows.generationRollsRow.named Rows.generationRollsSpec.vars) = true := by kernel_rfl
theorem jf9_5 : ((Rows.generationRollsRow.stops == [])) = true := by kernel_rfl
theorem jf9_7 : ((Rows.generationRollsRow.knobs == [])) = true := by kernel_rfl
theorem jf9_9 : ((Rows.generationRollsRow.inPlace == Tryz.prog.inPlace 9)) = true := by kernel_rfl
theorem jf9_10 : ((Rows.generationRollsRow.unfollowed == Tryz.prog.unfollowed 9)) = true := by kernel_rfl
theorem jf9_11 : ((Rows.generationRollsRow.recurses == Tryz.prog.recurses 9)) = true := by kernel_rfl
theorem jf9_12 : ((Rows.generationRollsRow.named == Tryz.prog.varsNamed 9)) = true := by kernel_rfl
theorem jf9_13 : ((Rows.generationRollsRow.maps == (Tryz.f9.params.toList ++ Rows.generationRollsSpec.plain.varTypes Tryz.prog).any (Tryz.prog.mapsRec ·))) = true := by kernel_rfl
theorem jf9_14 : ((Rows.generationRollsRow.ifaces == (Tryz.f9.params.toList ++ Rows.generationRollsSpec.plain.varTypes Tryz.prog).any (Tryz.prog.ifacesRec ·))) = true := by kernel_rfl
theorem jf9_15 : ((Rows.generationRollsRow.mapsOut == Tryz.prog.mapsAmong Tryz.f9.resultTypes.toList)) = true := by kernel_rfl
theorem jf9_16 : ((Rows.generationRollsRow.loops == (Tryz.f9.params.toList ++ Rows.generationRollsSpec.plain.varTypes Tryz.prog).any (Tryz.prog.loopsFrom ·))) = true := by kernel_rfl
theorem jf9_17 : ((Rows.generationRollsRow.wideKeys == (Tryz.f9.params.toList ++ Rows.generationRollsSpec.plain.varTypes Tryz.prog ++ Tryz.f9.resultTypes.toList).any (Tryz.prog.wideKeysFrom ·))) = true := by kernel_rfl
theorem jf9_18 : (Rows.generationRollsSpec.vars.all (Tryz.prog.varReadable ·)) = true := by kernel_rfl
theorem jf9_19 : (Tryz.f9.resultTypes.all (fun t => Tryz.prog.readableRec t && decide (t < Tryz.prog.types.size))) = true := by kernel_rfl
theorem jf9_20 : ((Rows.generationRollsRow.ifacesOut == Tryz.f9.resultTypes.toList.any (Tryz.prog.ifacesRec ·))) = true := by kernel_rfl
theorem jf9_21 : ((Rows.generationRollsRow.loopsOut == Tryz.f9.resultTypes.toList.any (Tryz.prog.loopsFrom ·))) = true := by kernel_rfl
theorem jf9_23 : (Rows.generationRollsRow.shortTexts.isNone) = true := by kernel_rfl
theorem jf9_28 : ((Rows.generationRollsRow.kinds == (if Rows.generationRollsRow.domain.isEmpty then [] else Tryz.f9.params.toList.map fun t => match Tryz.prog.underlying t with | some (.int k) => some k | _ => none))) = true := by kernel_rfl
theorem jf9_29 : ((Rows.generationRollsRow.pinned == Rows.generationRollsRow.pinnedBy)) = true := by kernel_rfl
theorem jf9_30 : ((Rows.generationRollsRow.veiled == (Tryz.f9.params.toList ++ Rows.generationRollsSpec.plain.varTypes Tryz.prog ++ Tryz.f9.resultTypes.toList).any (Tryz.prog.veiledRec ·))) = true := by kernel_rfl
theorem jf9_31 : (Rows.generationRollsRow.veiledFits Tryz.prog Tryz.f9.params.toList (Tryz.f9.params.toList ++ Rows.generationRollsSpec.plain.varTypes Tryz.prog ++ Tryz.f9.resultTypes.toList)) = true := by kernel_rfl
theorem joined9 : joinedFacts Tryz.prog 9 Tryz.f9 Rows.generationRollsSpec Rows.generationRollsRow = true := by
  unfold joinedFacts
  simp only [Bool.and_eq_true]
  exact ⟨⟨⟨⟨⟨⟨⟨⟨⟨⟨⟨⟨⟨⟨⟨⟨⟨⟨⟨⟨⟨⟨⟨⟨⟨⟨⟨⟨⟨⟨⟨jf9_0, jf_1⟩, jf_2⟩, jf9_3⟩, jf9_4⟩, jf9_5⟩, jf_6⟩, jf9_7⟩, jf_8⟩, jf9_9⟩, jf9_10⟩, jf9_11⟩, jf9_12⟩, jf9_13⟩, jf9_14⟩, jf9_15⟩, jf9_16⟩, jf9_17⟩, jf9_18⟩, jf9_19⟩, jf9_20⟩, jf9_21⟩, jf_22⟩, jf9_23⟩, jf_24⟩, jf_25⟩, jf_26⟩, jf_27⟩, jf9_28⟩, jf9_29⟩, jf9_30⟩, jf9_31⟩
theorem named9 : Tryz.prog.funcNamed Rows.generationRollsRow.func = some 9 := by kernel_rfl
theorem inst9 : decide (Tryz.f9.isInstance Tryz.prog Rows.generationRollsRow.origin Rows.generationRollsRow.targs) = true := by kernel_rfl
theorem goes9 : false = Rows.generationRollsRow.goesBy Tryz.prog := by kernel_rfl
theorem wf9 : Rows.generationRollsRow.wfByText (OpenSpec.ofChange Rows.generationRollsSpec) = true := by kernel_rfl
theorem holds9 : Rows.GenerationRollsSaid :=
  OpenClaim.holds_of_wide 9 Tryz.f9 rfl rfl rfl rfl rfl rfl rfl ⟨rfl, rfl, rfl, rfl, rfl⟩ rfl rfl rfl rfl rfl named9 Tryz.func9 joined9
    (of_decide_eq_true inst9) (by unfold Func.isWrapper; first | (rw [if_pos (by decide +kernel)]; kernel_rfl) | (rw [if_neg (by decide +kernel)]; exact ⟨rfl, rfl⟩))
    (fun os started H enc _ => lifted9 os started H enc)
theorem generationRolls_holds : Rows.GenerationRollsCardSaid :=
  Claim7.holds_tied_plain_at .later [] [.data, .data, .data, .data, .pinned] true (true, "1f55a028107fcf6cc6d30742e76c2172639d12f8ca8a28f69385b22ba6fbaccc") false holds9 (fun _ h => by cases h) wf9 (fun _ h => by cases h) generationRolls_row_tie rfl ⟨rfl, rfl⟩ jmain rfl
    (fun f fn hf hfn => by
      obtain rfl : f = 9 := Option.some.inj (named9.symm.trans hf) |>.symm
      obtain rfl : fn = Tryz.f9 := (Option.some.inj (Tryz.func9.symm.trans hfn)).symm
      exact ⟨jlooks, fun j t ht => by
        rw [Tryz.params9] at ht
        have hm : t ∈ [34, 22, 3, 3] := by simpa using Array.mem_of_getElem? ht
        have hall : ([34, 22, 3, 3].all fun u => !Tryz.prog.wantsStandIn u) = true := by kernel_rfl
        exact (show Tryz.prog.wantsStandIn t = false by simpa using List.all_eq_true.1 hall t hm)⟩)
    goes9
#print axioms generationRolls_holds

end Go.Proofs.YtlkkiimmangplaaGreatDoor
