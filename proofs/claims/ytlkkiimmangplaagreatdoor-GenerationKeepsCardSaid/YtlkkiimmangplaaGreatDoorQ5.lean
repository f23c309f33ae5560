/- The law GenerationKeeps of the package dasdlaw38: for every input the call returns true, and the input reads as it did. No condition but those that the card names. -/
import Derived.Test.YtlkkiimmangplaaGreatDoorP26
import Derived.Test.YtlkkiimmangplaaGreatDoorX4
import Derived.Test.YtlkkiimmangplaaGreatDoorJ0
import Derived.Test.YtlkkiimmangplaaGreatDoorTie
import Derived.Test.YtlkkiimmangplaaGreatDoorCards
import Derived.ProofKit
import Derived.OpenShut
import Derived.LaidMore
import Derived.Lay
import Derived.SevenTiedAt
import Derived.Stop.Joined
namespace Go.Proofs.YtlkkiimmangplaaGreatDoor
open Go Go.RowKit
set_option linter.unusedVariables false
set_option linter.unusedSimpArgs false

open Go.ChangeShapes Go.WideShapes Go.ChangeAt
set_option maxRecDepth 100000
abbrev laidL : List (String × DataW Unit) := [("math/bits.deBruijn32tab", Rows.laid_math_bits_deBruijn32tab), ("math/bits.deBruijn64tab", Rows.laid_math_bits_deBruijn64tab), ("internal/strconv.uint64pow10", Rows.laid_internal_strconv_uint64pow10), ("unicode/utf8.acceptRanges", Rows.laid_unicode_utf8_acceptRanges), ("unicode/utf8.first", Rows.laid_unicode_utf8_first)]
theorem own5 : ownKnob Tryz.prog.godebug = none := by kernel_rfl
theorem lifted5 (os : Os) (started : os.Started) (H : Type) (enc : TypeId × Value → H) :
    ReturnsInHanded {} Tryz.checked os 5 .any (fun w args => (Rows.generationKeepsSpec.pre enc Tryz.prog Tryz.f5 Rows.generationKeepsRow.domain false w args ∧ laidMetH Tryz.prog laidL w) ∧ sizedMet enc Tryz.prog Tryz.f5 (OpenSpec.ofChange Rows.generationKeepsSpec) false w args)
      (Rows.generationKeepsSpec.post enc Tryz.prog Tryz.f5 false true false false) := by
  refine lift_and_shaped (C := Tryz.checked) (X := fun w _ => laidMetH Tryz.prog laidL w) (fun _ _ _ hh h => h.of_heap hh) own5 started (by kernel_rfl) Tryz.func5
    (ChangeSpec.witness_shaped (enc := enc) (C := Tryz.checked) (os := os) (X := fun w _ => laidMetH Tryz.prog laidL w) false (World.laidAll Tryz.prog os laidL) #[.agg (E.cells E.zero (.slice none 0 0) (.slice none 0 0)), .slice none 0 0, .slice none 0 0] 8 (World.laidAll_os _ _ _)
      (World.shaped_of_ZipB (by kernel_rfl) (by kernel_rfl)) (by kernel_rfl) (by kernel_rfl) (by kernel_rfl)
      (by rw [MakeChecks.laidMetH_plain _ _ _ (by kernel_rfl)]; exact laidMet_laidAll _ (by kernel_rfl) (by kernel_rfl))) ?_
  intro W base args ds gs before hval0 hW hc hsz hL' hsh _
  have hg : Good W := ⟨hsh⟩
  have hval : ∀ (j : Nat) t v, Tryz.f5.params[j]? = some t → args[j]? = some v → Value.okWide Tryz.prog W .any base t v := hval0
  have hW' := hW
  obtain ⟨p, q, hA0, hV, rfl, _, _⟩ := hW
  have hA : DataW.TrodAll enc Tryz.prog W 0 (fun _ => true) true Tryz.f5.params.toList args.toList ds p := hA0
  rw [Tryz.params5] at hA hval
  obtain ⟨rfl, rfl⟩ := trodVars_none hV
  obtain ⟨v0, vs0, d0, ds0, p0, q0, hv0, rfl, rfl, h0, hr0⟩ := trodAll_cons hA
  obtain ⟨v1, vs1, d1, ds1, p1, q1, rfl, rfl, rfl, h1, hr1⟩ := trodAll_cons hr0
  obtain ⟨v2, vs2, d2, ds2, p2, q2, rfl, rfl, rfl, h2, hr2⟩ := trodAll_cons hr1
  obtain ⟨rfl, rfl, rfl⟩ := trodAll_nil hr2
  obtain rfl : args = #[v0, v1, v2] := by cases args; simp_all
  have w0 : Wok 34 d0 := wok_each hsz 0 _ _ rfl rfl
  obtain ⟨n0, h0⟩ := h0
  have ok0 := hval 0 34 v0 rfl rfl
  obtain ⟨cs0, rfl, _⟩ := okWide_struct Tryz.underlying34 ok0
  obtain ⟨x0, va0, vg0, e0, b0, at0⟩ := op34 h0 w0
  obtain rfl := agg_cells e0
  have w1 : Wok 22 d1 := wok_each hsz 1 _ _ rfl rfl
  obtain ⟨n1, h1⟩ := h1
  have ok1 := hval 1 22 v1 rfl rfl
  obtain ⟨A1, c1, x1, e1, lc1, cc1, b1, s1, z1⟩ := op22 h1 w1
  obtain rfl := slice_of Tryz.underlying22 ok1 e1
  have w2 : Wok 22 d2 := wok_each hsz 2 _ _ rfl rfl
  obtain ⟨n2, h2⟩ := h2
  have ok2 := hval 2 22 v2 rfl rfl
  obtain ⟨A2, c2, x2, e2, lc2, cc2, b2, s2, z2⟩ := op22 h2 w2
  obtain rfl := slice_of Tryz.underlying22 ok2 e2
  refine (keeps_law x0 va0 vg0 A1 A2 c1 c2 x1 x2 W hg at0 s1 s2 lc1 z1 z2).mono fun e W' h => ?_
  obtain ⟨rfl, hst⟩ := h
  exact ⟨_, rfl, post_kept ownClosed (by rw [Tryz.params5]; decide) Tryz.underlying4 rfl rfl rfl hW' hst.below⟩
theorem jf5_0 : (Rows.generationKeepsRow.wf (OpenSpec.ofChange Rows.generationKeepsSpec)) = true := by kernel_rfl
theorem jf5_3 : (Tryz.f5.params.all (Tryz.prog.readableRec ·)) = true := by kernel_rfl
theorem jf5_4 : (namedTie Tryz.prog Rows.generationKeepsRow.named Rows.generationKeepsSpec.vars) = true := by kernel_rfl
theorem jf5_5 : ((Rows.generationKeepsRow.stops == [])) = true := by kernel_rfl
theorem jf5_7 : ((Rows.generationKeepsRow.knobs == [])) = true := by kernel_rfl
theorem jf5_9 : ((Rows.generationKeepsRow.inPlace == Tryz.prog.inPlace 5)) = true := by kernel_rfl
theorem jf5_10 : ((Rows.generationKeepsRow.unfollowed == Tryz.prog.unfollowed 5)) = true := by kernel_rfl
theorem jf5_11 : ((Rows.generationKeepsRow.recurses == Tryz.prog.recurses 5)) = true := by kernel_rfl
theorem jf5_12 : ((Rows.generationKeepsRow.named == Tryz.prog.varsNamed 5)) = true := by kernel_rfl
theorem jf5_13 : ((Rows.generationKeepsRow.maps == (Tryz.f5.params.toList ++ Rows.generationKeepsSpec.plain.varTypes Tryz.prog).any (Tryz.prog.mapsRec ·))) = true := by kernel_rfl
theorem jf5_14 : ((Rows.generationKeepsRow.ifaces == (Tryz.f5.params.toList ++ Rows.generationKeepsSpec.plain.varTypes Tryz.prog).any (Tryz.prog.ifacesRec ·))) = true := by kernel_rfl
theorem jf5_15 : ((Rows.generationKeepsRow.mapsOut == Tryz.prog.mapsAmong Tryz.f5.resultTypes.toList)) = true := by kernel_rfl
theorem jf5_16 : ((Rows.generationKeepsRow.loops == (Tryz.f5.params.toList ++ Rows.generationKeepsSpec.plain.varTypes Tryz.prog).any (Tryz.prog.loopsFrom ·))) = true := by kernel_rfl
theorem jf5_17 : ((Rows.generationKeepsRow.wideKeys == (Tryz.f5.params.toList ++ Rows.generationKeepsSpec.plain.varTypes Tryz.prog ++ Tryz.f5.resultTypes.toList).any (Tryz.prog.wideKeysFrom ·))) = true := by kernel_rfl
theorem jf5_18 : (Rows.generationKeepsSpec.vars.all (Tryz.prog.varReadable ·)) = true := by kernel_rfl
theorem jf5_19 : (Tryz.f5.resultTypes.all (fun t => Tryz.prog.readableRec t && decide (t < Tryz.prog.types.size))) = true := by kernel_rfl
theorem jf5_20 : ((Rows.generationKeepsRow.ifacesOut == Tryz.f5.resultTypes.toList.any (Tryz.prog.ifacesRec ·))) = true := by kernel_rfl
theorem jf5_21 : ((Rows.generationKeepsRow.loopsOut == Tryz.f5.resultTypes.toList.any (Tryz.prog.loopsFrom ·))) = true := by kernel_rfl
theorem jf5_23 : (Rows.generationKeepsRow.shortTexts.isNone) = true := by kernel_rfl
theorem jf5_28 : ((Rows.generationKeepsRow.kinds == (if Rows.generationKeepsRow.domain.isEmpty then [] else Tryz.f5.params.toList.map fun t => match Tryz.prog.underlying t with | some (.int k) => some k | _ => none))) = true := by kernel_rfl
theorem jf5_29 : ((Rows.generationKeepsRow.pinned == Rows.generationKeepsRow.pinnedBy)) = true := by kernel_rfl
theorem jf5_30 : ((Rows.generationKeepsRow.veiled == (Tryz.f5.params.toList ++ Rows.generationKeepsSpec.plain.varTypes Tryz.prog ++ Tryz.f5.resultTypes.toList).any (Tryz.prog.veiledRec ·))) = true := by kernel_rfl
theorem jf5_31 : (Rows.generationKeepsRow.veiledFits Tryz.prog Tryz.f5.params.toList (Tryz.f5.params.toList ++ Rows.generationKeepsSpec.plain.varTypes Tryz.prog ++ Tryz.f5.resultTypes.toList)) = true := by kernel_rfl
theorem joined5 : joinedFacts Tryz.prog 5 Tryz.f5 Rows.generationKeepsSpec Rows.generationKeepsRow = true := by
  unfold joinedFacts
  simp only [Bool.and_eq_true]
  exact ⟨⟨⟨⟨⟨⟨⟨⟨⟨⟨⟨⟨⟨⟨⟨⟨⟨⟨⟨⟨⟨⟨⟨⟨⟨⟨⟨⟨⟨⟨⟨jf5_0, jf_1⟩, jf_2⟩, jf5_3⟩, jf5_4⟩, jf5_5⟩, jf_6⟩, jf5_7⟩, jf_8⟩, jf5_9⟩, jf5_10⟩, jf5_11⟩, jf5_12⟩, jf5_13⟩, jf5_14⟩, jf5_15⟩, jf5_16⟩, jf5_17⟩, jf5_18⟩, jf5_19⟩, jf5_20⟩, jf5_21⟩, jf_22⟩, jf5_23⟩, jf_24⟩, jf_25⟩, jf_26⟩, jf_27⟩, jf5_28⟩, jf5_29⟩, jf5_30⟩, jf5_31⟩
theorem named5 : Tryz.prog.funcNamed Rows.generationKeepsRow.func = some 5 := by kernel_rfl
theorem inst5 : decide (Tryz.f5.isInstance Tryz.prog Rows.generationKeepsRow.origin Rows.generationKeepsRow.targs) = true := by kernel_rfl
theorem goes5 : false = Rows.generationKeepsRow.goesBy Tryz.prog := by kernel_rfl
theorem wf5 : Rows.generationKeepsRow.wfByText (OpenSpec.ofChange Rows.generationKeepsSpec) = true := by kernel_rfl
theorem holds5 : Rows.GenerationKeepsSaid :=
  OpenClaim.holds_of_wide 5 Tryz.f5 rfl rfl rfl rfl rfl rfl rfl ⟨rfl, rfl, rfl, rfl, rfl⟩ rfl rfl rfl rfl rfl named5 Tryz.func5 joined5
    (of_decide_eq_true inst5) (by unfold Func.isWrapper; first | (rw [if_pos (by decide +kernel)]; kernel_rfl) | (rw [if_neg (by decide +kernel)]; exact ⟨rfl, rfl⟩))
    (fun os started H enc _ => lifted5 os started H enc)
theorem generationKeeps_holds : Rows.GenerationKeepsCardSaid :=
  Claim7.holds_tied_plain_at .later [] [.data, .data, .data, .data, .pinned] true (true, "1f55a028107fcf6cc6d30742e76c2172639d12f8ca8a28f69385b22ba6fbaccc") false holds5 (fun _ h => by cases h) wf5 (fun _ h => by cases h) generationKeeps_row_tie rfl ⟨rfl, rfl⟩ jmain rfl
    (fun f fn hf hfn => by
      obtain rfl : f = 5 := Option.some.inj (named5.symm.trans hf) |>.symm
      obtain rfl : fn = Tryz.f5 := (Option.some.inj (Tryz.func5.symm.trans hfn)).symm
      exact ⟨jlooks, fun j t ht => by
        rw [Tryz.params5] at ht
        have hm : t ∈ [34, 22, 22] := by simpa using Array.mem_of_getElem? ht
        have hall : ([34, 22, 22].all fun u => !Tryz.prog.wantsStandIn u) = true := by kernel_rfl
        exact (show Tryz.prog.wantsStandIn t = false by simpa using List.all_eq_true.1 hall t hm)⟩)
    goes5
#print axioms generationKeeps_holds

end Go.Proofs.YtlkkiimmangplaaGreatDoor
