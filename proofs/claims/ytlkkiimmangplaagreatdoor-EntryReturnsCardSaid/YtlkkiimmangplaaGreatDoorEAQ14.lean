/- The law EntryReturns of the package dasdlaw33: for every input the call returns true, and the input reads as it did. No condition but those that the card names. -/
import Derived.Test.YtlkkiimmangplaaGreatDoorEA5
import Derived.Test.YtlkkiimmangplaaGreatDoorTie
import Derived.Test.YtlkkiimmangplaaGreatDoorCards
import Derived.ProofKit
import Derived.OpenShut
import Derived.LaidMore
import Derived.Lay
import Derived.SevenTiedAt
import Derived.Stop.Joined
namespace Go.Proofs.YtlkkiimmangplaaGreatDoor
open Go Go.RowKit
set_option linter.unusedVariables false
set_option linter.unusedSimpArgs false

open Go.ChangeShapes Go.WideShapes Go.ChangeAt
set_option maxRecDepth 100000
theorem own14 : ownKnob Tryz.prog.godebug = none := by kernel_rfl
theorem lifted14 (os : Os) (started : os.Started) (H : Type) (enc : TypeId × Value → H) :
    ReturnsInHanded {} Tryz.checked os 14 .any (fun w args => (Rows.entryReturnsSpec.pre enc Tryz.prog Tryz.f14 Rows.entryReturnsRow.domain false w args ∧ laidMetH Tryz.prog laidL w) ∧ sizedMet enc Tryz.prog Tryz.f14 (OpenSpec.ofChange Rows.entryReturnsSpec) false w args)
      (Rows.entryReturnsSpec.post enc Tryz.prog Tryz.f14 false true false false) := by
  refine lift_and_shaped (C := Tryz.checked) (X := fun w _ => laidMetH Tryz.prog laidL w) (fun _ _ _ hh h => h.of_heap hh) own14 started (by kernel_rfl) Tryz.func14
    (ChangeSpec.witness_shaped (enc := enc) (C := Tryz.checked) (os := os) (X := fun w _ => laidMetH Tryz.prog laidL w) false (World.laidAll Tryz.prog os laidL) #[.agg (E.cells E.zero (.slice none 0 0) (.slice none 0 0))] 8 (World.laidAll_os _ _ _)
      (World.shaped_of_ZipB (by kernel_rfl) (by kernel_rfl)) (by kernel_rfl) (by kernel_rfl) (by kernel_rfl)
      (by rw [MakeChecks.laidMetH_plain _ _ _ (by kernel_rfl)]; exact laidMet_laidAll _ (by kernel_rfl) (by kernel_rfl))) ?_
  intro W base args ds gs before hval0 hW hc hsz hL' hsh _
  have hg : Good W := good_of hsh hL'
  have hval : ∀ (j : Nat) t v, Tryz.f14.params[j]? = some t → args[j]? = some v → Value.okWide Tryz.prog W .any base t v := hval0
  have hW' := hW
  obtain ⟨p, q, hA0, hV, rfl, _, _⟩ := hW
  have hA : DataW.TrodAll enc Tryz.prog W 0 (fun _ => true) true Tryz.f14.params.toList args.toList ds p := hA0
  rw [Tryz.params14] at hA hval
  obtain ⟨rfl, rfl⟩ := trodVars_none hV
  obtain ⟨v0, vs0, d0, ds0, p0, q0, hv0, rfl, rfl, h0, hr0⟩ := trodAll_cons hA
  obtain ⟨rfl, rfl, rfl⟩ := trodAll_nil hr0
  obtain rfl : args = #[v0] := by cases args; simp_all
  have w0 : Wok 34 d0 := wok_each hsz 0 _ _ rfl rfl
  obtain ⟨n0, h0⟩ := h0
  have ok0 := hval 0 34 v0 rfl rfl
  obtain ⟨cs0, rfl, _⟩ := okWide_struct Tryz.underlying34 ok0
  obtain ⟨x0, va0, vg0, e0, b0, at0⟩ := op34 h0 w0
  obtain rfl := agg_cells e0
  refine (returns33_law x0 va0 vg0 W hg at0 b0).mono fun e W' h => ?_
  obtain ⟨rfl, hst⟩ := h
  exact ⟨_, rfl, post_kept ownClosed (by rw [Tryz.params14]; decide) Tryz.underlying4 rfl rfl rfl hW' hst.below⟩
theorem jf14_0 : (Rows.entryReturnsRow.wf (OpenSpec.ofChange Rows.entryReturnsSpec)) = true := by kernel_rfl
theorem jf14_3 : (Tryz.f14.params.all (Tryz.prog.readableRec ·)) = true := by kernel_rfl
theorem jf14_4 : (namedTie Tryz.prog Rows.entryReturnsRow.named Rows.entryReturnsSpec.vars) = true := by kernel_rfl
theorem jf14_5 : ((Rows.entryReturnsRow.stops == [])) = true := by kernel_rfl
theorem jf14_7 : ((Rows.entryReturnsRow.knobs == [])) = true := by kernel_rfl
theorem jf14_9 : ((Rows.entryReturnsRow.inPlace == Tryz.prog.inPlace 14)) = true := by kernel_rfl
theorem jf14_10 : ((Rows.entryReturnsRow.unfollowed == Tryz.prog.unfollowed 14)) = true := by kernel_rfl
theorem jf14_11 : ((Rows.entryReturnsRow.recurses == Tryz.prog.recurses 14)) = true := by kernel_rfl
theorem jf14_12 : ((Rows.entryReturnsRow.named == Tryz.prog.varsNamed 14)) = true := by kernel_rfl
theorem jf14_13 : ((Rows.entryReturnsRow.maps == (Tryz.f14.params.toList ++ Rows.entryReturnsSpec.plain.varTypes Tryz.prog).any (Tryz.prog.mapsRec ·))) = true := by kernel_rfl
theorem jf14_14 : ((Rows.entryReturnsRow.ifaces == (Tryz.f14.params.toList ++ Rows.entryReturnsSpec.plain.varTypes Tryz.prog).any (Tryz.prog.ifacesRec ·))) = true := by kernel_rfl
theorem jf14_15 : ((Rows.entryReturnsRow.mapsOut == Tryz.prog.mapsAmong Tryz.f14.resultTypes.toList)) = true := by kernel_rfl
theorem jf14_16 : ((Rows.entryReturnsRow.loops == (Tryz.f14.params.toList ++ Rows.entryReturnsSpec.plain.varTypes Tryz.prog).any (Tryz.prog.loopsFrom ·))) = true := by kernel_rfl
theorem jf14_17 : ((Rows.entryReturnsRow.wideKeys == (Tryz.f14.params.toList ++ Rows.entryReturnsSpec.plain.varTypes Tryz.prog ++ Tryz.f14.resultTypes.toList).any (Tryz.prog.wideKeysFrom ·))) = true := by kernel_rfl
theorem jf14_18 : (Rows.entryReturnsSpec.vars.all (Tryz.prog.varReadable ·)) = true := by kernel_rfl
theorem jf14_19 : (Tryz.f14.resultTypes.all (fun t => Tryz.prog.readableRec t && decide (t < Tryz.prog.types.size))) = true := by kernel_rfl
theorem jf14_20 : ((Rows.entryReturnsRow.ifacesOut == Tryz.f14.resultTypes.toList.any (Tryz.prog.ifacesRec ·))) = true := by kernel_rfl
theorem jf14_21 : ((Rows.entryReturnsRow.loopsOut == Tryz.f14.resultTypes.toList.any (Tryz.prog.loopsFrom ·))) = true := by kernel_rfl
theorem jf14_23 : (Rows.entryReturnsRow.shortTexts.isNone) = true := by kernel_rfl
theorem jf14_28 : ((Rows.entryReturnsRow.kinds == (if Rows.entryReturnsRow.domain.isEmpty then [] else Tryz.f14.params.toList.map fun t => match Tryz.prog.underlying t with | some (.int k) => some k | _ => none))) = true := by kernel_rfl
theorem jf14_29 : ((Rows.entryReturnsRow.pinned == Rows.entryReturnsRow.pinnedBy)) = true := by kernel_rfl
theorem jf14_30 : ((Rows.entryReturnsRow.veiled == (Tryz.f14.params.toList ++ Rows.entryReturnsSpec.plain.varTypes Tryz.prog ++ Tryz.f14.resultTypes.toList).any (Tryz.prog.veiledRec ·))) = true := by kernel_rfl
theorem jf14_31 : (Rows.entryReturnsRow.veiledFits Tryz.prog Tryz.f14.params.toList (Tryz.f14.params.toList ++ Rows.entryReturnsSpec.plain.varTypes Tryz.prog ++ Tryz.f14.resultTypes.toList)) = true := by kernel_rfl
theorem joined14 : joinedFacts Tryz.prog 14 Tryz.f14 Rows.entryReturnsSpec Rows.entryReturnsRow = true := by
  unfold joinedFacts
  simp only [Bool.and_eq_true]
  exact ⟨⟨⟨⟨⟨⟨⟨⟨⟨⟨⟨⟨⟨⟨⟨⟨⟨⟨⟨⟨⟨⟨⟨⟨⟨⟨⟨⟨⟨⟨⟨jf14_0, jf_1⟩, jf_2⟩, jf14_3⟩, jf14_4⟩, jf14_5⟩, jf_6⟩, jf14_7⟩, jf_8⟩, jf14_9⟩, jf14_10⟩, jf14_11⟩, jf14_12⟩, jf14_13⟩, jf14_14⟩, jf14_15⟩, jf14_16⟩, jf14_17⟩, jf14_18⟩, jf14_19⟩, jf14_20⟩, jf14_21⟩, jf_22⟩, jf14_23⟩, jf_24⟩, jf_25⟩, jf_26⟩, jf_27⟩, jf14_28⟩, jf14_29⟩, jf14_30⟩, jf14_31⟩
theorem named14 : Tryz.prog.funcNamed Rows.entryReturnsRow.func = some 14 := by kernel_rfl
theorem inst14 : decide (Tryz.f14.isInstance Tryz.prog Rows.entryReturnsRow.origin Rows.entryReturnsRow.targs) = true := by kernel_rfl
theorem goes14 : false = Rows.entryReturnsRow.goesBy Tryz.prog := by kernel_rfl
theorem wf14 : Rows.entryReturnsRow.wfByText (OpenSpec.ofChange Rows.entryReturnsSpec) = true := by kernel_rfl
theorem holds14 : Rows.EntryReturnsSaid :=
  OpenClaim.holds_of_wide 14 Tryz.f14 rfl rfl rfl rfl rfl rfl rfl ⟨rfl, rfl, rfl, rfl, rfl⟩ rfl rfl rfl rfl rfl named14 Tryz.func14 joined14
    (of_decide_eq_true inst14) (by unfold Func.isWrapper; first | (rw [if_pos (by decide +kernel)]; kernel_rfl) | (rw [if_neg (by decide +kernel)]; exact ⟨rfl, rfl⟩))
    (fun os started H enc _ => lifted14 os started H enc)
theorem entryReturns_holds : Rows.EntryReturnsCardSaid :=
  Claim7.holds_tied_plain_at .later [] [.data, .data, .data, .data, .pinned] true (true, "1f55a028107fcf6cc6d30742e76c2172639d12f8ca8a28f69385b22ba6fbaccc") false holds14 (fun _ h => by cases h) wf14 (fun _ h => by cases h) entryReturns_row_tie rfl ⟨rfl, rfl⟩ jmain rfl
    (fun f fn hf hfn => by
      obtain rfl : f = 14 := Option.some.inj (named14.symm.trans hf) |>.symm
      obtain rfl : fn = Tryz.f14 := (Option.some.inj (Tryz.func14.symm.trans hfn)).symm
      exact ⟨jlooks, fun j t ht => by
        rw [Tryz.params14] at ht
        have hm : t ∈ [34] := by simpa using Array.mem_of_getElem? ht
        have hall : ([34].all fun u => !Tryz.prog.wantsStandIn u) = true := by kernel_rfl
        exact (show Tryz.prog.wantsStandIn t = false by simpa using List.all_eq_true.1 hall t hm)⟩)
    goes14
#print axioms entryReturns_holds

end Go.Proofs.YtlkkiimmangplaaGreatDoor
