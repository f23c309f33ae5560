/- The law EntryRecords of the package dasdlaw33: for every input the call returns true, and the input reads as it did. No condition but those that the card names. -/
import Derived.Test.YtlkkiimmangplaaGreatDoorRA6
import Derived.Test.YtlkkiimmangplaaGreatDoorTie
import Derived.Test.YtlkkiimmangplaaGreatDoorCards
import Derived.ProofKit
import Derived.OpenShut
import Derived.LaidMore
import Derived.Lay
import Derived.SevenTiedAt
import Derived.Stop.Joined
namespace Go.Proofs.YtlkkiimmangplaaGreatDoor
open Go Go.RowKit
set_option linter.unusedVariables false
set_option linter.unusedSimpArgs false

open Go.ChangeShapes Go.WideShapes Go.ChangeAt
set_option maxRecDepth 100000
theorem own12 : ownKnob Tryz.prog.godebug = none := by kernel_rfl
theorem lifted12 (os : Os) (started : os.Started) (H : Type) (enc : TypeId × Value → H) :
    ReturnsInHanded {} Tryz.checked os 12 .any (fun w args => (Rows.entryRecordsSpec.pre enc Tryz.prog Tryz.f12 Rows.entryRecordsRow.domain false w args ∧ laidMetH Tryz.prog laidL w) ∧ sizedMet enc Tryz.prog Tryz.f12 (OpenSpec.ofChange Rows.entryRecordsSpec) false w args)
      (Rows.entryRecordsSpec.post enc Tryz.prog Tryz.f12 false true false false) := by
  refine lift_and_shaped (C := Tryz.checked) (X := fun w _ => laidMetH Tryz.prog laidL w) (fun _ _ _ hh h => h.of_heap hh) own12 started (by kernel_rfl) Tryz.func12
    (ChangeSpec.witness_shaped (enc := enc) (C := Tryz.checked) (os := os) (X := fun w _ => laidMetH Tryz.prog laidL w) false (World.laidAll Tryz.prog os laidL) #[.agg (E.cells E.zero (.slice none 0 0) (.slice none 0 0))] 8 (World.laidAll_os _ _ _)
      (World.shaped_of_ZipB (by kernel_rfl) (by kernel_rfl)) (by kernel_rfl) (by kernel_rfl) (by kernel_rfl)
      (by rw [MakeChecks.laidMetH_plain _ _ _ (by kernel_rfl)]; exact laidMet_laidAll _ (by kernel_rfl) (by kernel_rfl))) ?_
  intro W base args ds gs before hval0 hW hc hsz hL' hsh _
  have hg : Good W := good_of hsh hL'
  have hval : ∀ (j : Nat) t v, Tryz.f12.params[j]? = some t → args[j]? = some v → Value.okWide Tryz.prog W .any base t v := hval0
  have hW' := hW
  obtain ⟨p, q, hA0, hV, rfl, _, _⟩ := hW
  have hA : DataW.TrodAll enc Tryz.prog W 0 (fun _ => true) true Tryz.f12.params.toList args.toList ds p := hA0
  rw [Tryz.params12] at hA hval
  obtain ⟨rfl, rfl⟩ := trodVars_none hV
  obtain ⟨v0, vs0, d0, ds0, p0, q0, hv0, rfl, rfl, h0, hr0⟩ := trodAll_cons hA
  obtain ⟨rfl, rfl, rfl⟩ := trodAll_nil hr0
  obtain rfl : args = #[v0] := by cases args; simp_all
  have w0 : Wok 34 d0 := wok_each hsz 0 _ _ rfl rfl
  obtain ⟨n0, h0⟩ := h0
  have ok0 := hval 0 34 v0 rfl rfl
  obtain ⟨cs0, rfl, _⟩ := okWide_struct Tryz.underlying34 ok0
  obtain ⟨x0, va0, vg0, e0, b0, at0⟩ := op34 h0 w0
  obtain rfl := agg_cells e0
  refine (records33_law x0 va0 vg0 W hg at0 b0).mono fun e W' h => ?_
  obtain ⟨rfl, hst⟩ := h
  exact ⟨_, rfl, post_kept ownClosed (by rw [Tryz.params12]; decide) Tryz.underlying4 rfl rfl rfl hW' hst.below⟩
theorem jf12_0 : (Rows.entryRecordsRow.wf (OpenSpec.ofChange Rows.entryRecordsSpec)) = true := by kernel_rfl
theorem jf12_3 : (Tryz.f12.params.all (Tryz.prog.readableRec ·)) = true := by kernel_rfl
theorem jf12_4 : (namedTie Tryz.prog Rows.entryRecordsRow.named Rows.entryRecordsSpec.vars) = true := by kernel_rfl
theorem jf12_5 : ((Rows.entryRecordsRow.stops == [])) = true := by kernel_rfl
theorem jf12_7 : ((Rows.entryRecordsRow.knobs == [])) = true := by kernel_rfl
theorem jf12_9 : ((Rows.entryRecordsRow.inPlace == Tryz.prog.inPlace 12)) = true := by kernel_rfl
theorem jf12_10 : ((Rows.entryRecordsRow.unfollowed == Tryz.prog.unfollowed 12)) = true := by kernel_rfl
theorem jf12_11 : ((Rows.entryRecordsRow.recurses == Tryz.prog.recurses 12)) = true := by kernel_rfl
theorem jf12_12 : ((Rows.entryRecordsRow.named == Tryz.prog.varsNamed 12)) = true := by kernel_rfl
theorem jf12_13 : ((Rows.entryRecordsRow.maps == (Tryz.f12.params.toList ++ Rows.entryRecordsSpec.plain.varTypes Tryz.prog).any (Tryz.prog.mapsRec ·))) = true := by kernel_rfl
theorem jf12_14 : ((Rows.entryRecordsRow.ifaces == (Tryz.f12.params.toList ++ Rows.entryRecordsSpec.plain.varTypes Tryz.prog).any (Tryz.prog.ifacesRec ·))) = true := by kernel_rfl
theorem jf12_15 : ((Rows.entryRecordsRow.mapsOut == Tryz.prog.mapsAmong Tryz.f12.resultTypes.toList)) = true := by kernel_rfl
theorem jf12_16 : ((Rows.entryRecordsRow.loops == (Tryz.f12.params.toList ++ Rows.entryRecordsSpec.plain.varTypes Tryz.prog).any (Tryz.prog.loopsFrom ·))) = true := by kernel_rfl
theorem jf12_17 : ((Rows.entryRecordsRow.wideKeys == (Tryz.f12.params.toList ++ Rows.entryRecordsSpec.plain.varTypes Tryz.prog ++ Tryz.f12.resultTypes.toList).any (Tryz.prog.wideKeysFrom ·))) = true := by kernel_rfl
theorem jf12_18 : (Rows.entryRecordsSpec.vars.all (Tryz.prog.varReadable ·)) = true := by kernel_rfl
theorem jf12_19 : (Tryz.f12.resultTypes.all (fun t => Tryz.prog.readableRec t && decide (t < Tryz.prog.types.size))) = true := by kernel_rfl
theorem jf12_20 : ((Rows.entryRecordsRow.ifacesOut == Tryz.f12.resultTypes.toList.any (Tryz.prog.ifacesRec ·))) = true := by kernel_rfl
theorem jf12_21 : ((Rows.entryRecordsRow.loopsOut == Tryz.f12.resultTypes.toList.any (Tryz.prog.loopsFrom ·))) = true := by kernel_rfl
theorem jf12_23 : (Rows.entryRecordsRow.shortTexts.isNone) = true := by kernel_rfl
theorem jf12_28 : ((Rows.entryRecordsRow.kinds == (if Rows.entryRecordsRow.domain.isEmpty then [] else Tryz.f12.params.toList.map fun t => match Tryz.prog.underlying t with | some (.int k) => some k | _ => none))) = true := by kernel_rfl
theorem jf12_29 : ((Rows.entryRecordsRow.pinned == Rows.entryRecordsRow.pinnedBy)) = true := by kernel_rfl
theorem jf12_30 : ((Rows.entryRecordsRow.veiled == (Tryz.f12.params.toList ++ Rows.entryRecordsSpec.plain.varTypes Tryz.prog ++ Tryz.f12.resultTypes.toList).any (Tryz.prog.veiledRec ·))) = true := by kernel_rfl
theorem jf12_31 : (Rows.entryRecordsRow.veiledFits Tryz.prog Tryz.f12.params.toList (Tryz.f12.params.toList ++ Rows.entryRecordsSpec.plain.varTypes Tryz.prog ++ Tryz.f12.resultTypes.toList)) = true := by kernel_rfl
theorem joined12 : joinedFacts Tryz.prog 12 Tryz.f12 Rows.entryRecordsSpec Rows.entryRecordsRow = true := by
  unfold joinedFacts
  simp only [Bool.and_eq_true]
  exact ⟨⟨⟨⟨⟨⟨⟨⟨⟨⟨⟨⟨⟨⟨⟨⟨⟨⟨⟨⟨⟨⟨⟨⟨⟨⟨⟨⟨⟨⟨⟨jf12_0, jf_1⟩, jf_2⟩, jf12_3⟩, jf12_4⟩, jf12_5⟩, jf_6⟩, jf12_7⟩, jf_8⟩, jf12_9⟩, jf12_10⟩, jf12_11⟩, jf12_12⟩, jf12_13⟩, jf12_14⟩, jf12_15⟩, jf12_16⟩, jf12_17⟩, jf12_18⟩, jf12_19⟩, jf12_20⟩, jf12_21⟩, jf_22⟩, jf12_23⟩, jf_24⟩, jf_25⟩, jf_26⟩, jf_27⟩, jf12_28⟩, jf12_29⟩, jf12_30⟩, jf12_31⟩
theorem named12 : Tryz.prog.funcNamed Rows.entryRecordsRow.func = some 12 := by kernel_rfl
theorem inst12 : decide (Tryz.f12.isInstance Tryz.prog Rows.entryRecordsRow.origin Rows.entryRecordsRow.targs) = true := by kernel_rfl
theorem goes12 : false = Rows.entryRecordsRow.goesBy Tryz.prog := by kernel_rfl
theorem wf12 : Rows.entryRecordsRow.wfByText (OpenSpec.ofChange Rows.entryRecordsSpec) = true := by kernel_rfl
theorem holds12 : Rows.EntryRecordsSaid :=
  OpenClaim.holds_of_wide 12 Tryz.f12 rfl rfl rfl rfl rfl rfl rfl ⟨rfl, rfl, rfl, rfl, rfl⟩ rfl rfl rfl rfl rfl named12 Tryz.func12 joined12
    (of_decide_eq_true inst12) (by unfold Func.isWrapper; first | (rw [if_pos (by decide +kernel)]; kernel_rfl) | (rw [if_neg (by decide +kernel)]; exact ⟨rfl, rfl⟩))
    (fun os started H enc _ => lifted12 os started H enc)
theorem entryRecords_holds : Rows.EntryRecordsCardSaid :=
  Claim7.holds_tied_plain_at .later [] [.data, .data, .data, .data, .pinned] true (true, "1f55a028107fcf6cc6d30742e76c2172639d12f8ca8a28f69385b22ba6fbaccc") false holds12 (fun _ h => by cases h) wf12 (fun _ h => by cases h) entryRecords_row_tie rfl ⟨rfl, rfl⟩ jmain rfl
    (fun f fn hf hfn => by
      obtain rfl : f = 12 := Option.some.inj (named12.symm.trans hf) |>.symm
      obtain rfl : fn = Tryz.f12 := (Option.some.inj (Tryz.func12.symm.trans hfn)).symm
      exact ⟨jlooks, fun j t ht => by
        rw [Tryz.params12] at ht
        have hm : t ∈ [34] := by simpa using Array.mem_of_getElem? ht
        have hall : ([34].all fun u => !Tryz.prog.wantsStandIn u) = true := by kernel_rfl
        exact (show Tryz.prog.wantsStandIn t = false by simpa using List.all_eq_true.1 hall t hm)⟩)
    goes12
#print axioms entryRecords_holds

end Go.Proofs.YtlkkiimmangplaaGreatDoor
