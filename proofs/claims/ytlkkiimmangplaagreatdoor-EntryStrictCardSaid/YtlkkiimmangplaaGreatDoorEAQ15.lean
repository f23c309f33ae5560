/- The law EntryStrict of the package dasdlaw33: for every input the call returns true, and the input reads as it did. No condition but those that the card names. -/
import Derived.Test.YtlkkiimmangplaaGreatDoorEA5
import Derived.Test.YtlkkiimmangplaaGreatDoorTie
import Derived.Test.YtlkkiimmangplaaGreatDoorCards
import Derived.ProofKit
import Derived.OpenShut
import Derived.LaidMore
import Derived.Lay
import Derived.SevenTiedAt
import Derived.Stop.Joined
namespace Go.Proofs.YtlkkiimmangplaaGreatDoor
open Go Go.RowKit
set_option linter.unusedVariables false
set_option linter.unusedSimpArgs false

open Go.ChangeShapes Go.WideShapes Go.ChangeAt
set_option maxRecDepth 100000
theorem own15 : ownKnob Tryz.prog.godebug = none := by kernel_rfl
theorem lifted15 (os : Os) (started : os.Started) (H : Type) (enc : TypeId × Value → H) :
    ReturnsInHanded {} Tryz.checked os 15 .any (fun w args => (Rows.entryStrictSpec.pre enc Tryz.prog Tryz.f15 Rows.entryStrictRow.domain false w args ∧ laidMetH Tryz.prog laidL w) ∧ sizedMet enc Tryz.prog Tryz.f15 (OpenSpec.ofChange Rows.entryStrictSpec) false w args)
      (Rows.entryStrictSpec.post enc Tryz.prog Tryz.f15 false true false false) := by
  refine lift_and_shaped (C := Tryz.checked) (X := fun w _ => laidMetH Tryz.prog laidL w) (fun _ _ _ hh h => h.of_heap hh) own15 started (by kernel_rfl) Tryz.func15
    (ChangeSpec.witness_shaped (enc := enc) (C := Tryz.checked) (os := os) (X := fun w _ => laidMetH Tryz.prog laidL w) false (World.laidAll Tryz.prog os laidL) #[.string ⟨#[]⟩] 8 (World.laidAll_os _ _ _)
      (World.shaped_of_ZipB (by kernel_rfl) (by kernel_rfl)) (by kernel_rfl) (by kernel_rfl) (by kernel_rfl)
      (by rw [MakeChecks.laidMetH_plain _ _ _ (by kernel_rfl)]; exact laidMet_laidAll _ (by kernel_rfl) (by kernel_rfl))) ?_
  intro W base args ds gs before hval0 hW hc hsz hL' hsh _
  have hg : Good W := good_of hsh hL'
  have hval : ∀ (j : Nat) t v, Tryz.f15.params[j]? = some t → args[j]? = some v → Value.okWide Tryz.prog W .any base t v := hval0
  have hW' := hW
  obtain ⟨p, q, hA0, hV, rfl, _, _⟩ := hW
  have hA : DataW.TrodAll enc Tryz.prog W 0 (fun _ => true) true Tryz.f15.params.toList args.toList ds p := hA0
  rw [Tryz.params15] at hA hval
  obtain ⟨rfl, rfl⟩ := trodVars_none hV
  obtain ⟨v0, vs0, d0, ds0, p0, q0, hv0, rfl, rfl, h0, hr0⟩ := trodAll_cons hA
  obtain ⟨rfl, rfl, rfl⟩ := trodAll_nil hr0
  obtain rfl : args = #[v0] := by cases args; simp_all
  have w0 : Wok 9 d0 := wok_each hsz 0 _ _ rfl rfl
  obtain ⟨n0, h0⟩ := h0
  have ok0 := hval 0 9 v0 rfl rfl
  obtain ⟨a0, rfl⟩ := okWide_string Tryz.underlying9 ok0
  obtain ⟨_, e0, b0⟩ := op9 h0 w0
  simp [Value.cells] at e0; subst e0
  refine (strict33_law a0 W hg).mono fun e W' h => ?_
  obtain ⟨rfl, hst⟩ := h
  exact ⟨_, rfl, post_kept ownClosed (by rw [Tryz.params15]; decide) Tryz.underlying4 rfl rfl rfl hW' hst.below⟩
theorem jf15_0 : (Rows.entryStrictRow.wf (OpenSpec.ofChange Rows.entryStrictSpec)) = true := by kernel_rfl
theorem jf15_3 : (Tryz.f15.params.all (Tryz.prog.readableRec ·)) = true := by kernel_rfl
theorem jf15_4 : (namedTie Tryz.prog Rows.entryStrictRow.named Rows.entryStrictSpec.vars) = true := by kernel_rfl
theorem jf15_5 : ((Rows.entryStrictRow.stops == [])) = true := by kernel_rfl
theorem jf15_7 : ((Rows.entryStrictRow.knobs == [])) = true := by kernel_rfl
theorem jf15_9 : ((Rows.entryStrictRow.inPlace == Tryz.prog.inPlace 15)) = true := by kernel_rfl
theorem jf15_10 : ((Rows.entryStrictRow.unfollowed == Tryz.prog.unfollowed 15)) = true := by kernel_rfl
theorem jf15_11 : ((Rows.entryStrictRow.recurses == Tryz.prog.recurses 15)) = true := by kernel_rfl
theorem jf15_12 : ((Rows.entryStrictRow.named == Tryz.prog.varsNamed 15)) = true := by kernel_rfl
theorem jf15_13 : ((Rows.entryStrictRow.maps == (Tryz.f15.params.toList ++ Rows.entryStrictSpec.plain.varTypes Tryz.prog).any (Tryz.prog.mapsRec ·))) = true := by kernel_rfl
theorem jf15_14 : ((Rows.entryStrictRow.ifaces == (Tryz.f15.params.toList ++ Rows.entryStrictSpec.plain.varTypes Tryz.prog).any (Tryz.prog.ifacesRec ·))) = true := by kernel_rfl
theorem jf15_15 : ((Rows.entryStrictRow.mapsOut == Tryz.prog.mapsAmong Tryz.f15.resultTypes.toList)) = true := by kernel_rfl
theorem jf15_16 : ((Rows.entryStrictRow.loops == (Tryz.f15.params.toList ++ Rows.entryStrictSpec.plain.varTypes Tryz.prog).any (Tryz.prog.loopsFrom ·))) = true := by kernel_rfl
theorem jf15_17 : ((Rows.entryStrictRow.wideKeys == (Tryz.f15.params.toList ++ Rows.entryStrictSpec.plain.varTypes Tryz.prog ++ Tryz.f15.resultTypes.toList).any (Tryz.prog.wideKeysFrom ·))) = true := by kernel_rfl
theorem jf15_18 : (Rows.entryStrictSpec.vars.all (Tryz.prog.varReadable ·)) = true := by kernel_rfl
theorem jf15_19 : (Tryz.f15.resultTypes.all (fun t => Tryz.prog.readableRec t && decide (t < Tryz.prog.types.size))) = true := by kernel_rfl
theorem jf15_20 : ((Rows.entryStrictRow.ifacesOut == Tryz.f15.resultTypes.toList.any (Tryz.prog.ifacesRec ·))) = true := by kernel_rfl
theorem jf15_21 : ((Rows.entryStrictRow.loopsOut == Tryz.f15.resultTypes.toList.any (Tryz.prog.loopsFrom ·))) = true := by kernel_rfl
theorem jf15_23 : (Rows.entryStrictRow.shortTexts.isNone) = true := by kernel_rfl
theorem jf15_28 : ((Rows.entryStrictRow.kinds == (if Rows.entryStrictRow.domain.isEmpty then [] else Tryz.f15.params.toList.map fun t => match Tryz.prog.underlying t with | some (.int k) => some k | _ => none))) = true := by kernel_rfl
theorem jf15_29 : ((Rows.entryStrictRow.pinned == Rows.entryStrictRow.pinnedBy)) = true := by kernel_rfl
theorem jf15_30 : ((Rows.entryStrictRow.veiled == (Tryz.f15.params.toList ++ Rows.entryStrictSpec.plain.varTypes Tryz.prog ++ Tryz.f15.resultTypes.toList).any (Tryz.prog.veiledRec ·))) = true := by kernel_rfl
theorem jf15_31 : (Rows.entryStrictRow.veiledFits Tryz.prog Tryz.f15.params.toList (Tryz.f15.params.toList ++ Rows.entryStrictSpec.plain.varTypes Tryz.prog ++ Tryz.f15.resultTypes.toList)) = true := by kernel_rfl
theorem joined15 : joinedFacts Tryz.prog 15 Tryz.f15 Rows.entryStrictSpec Rows.entryStrictRow = true := by
  unfold joinedFacts
  simp only [Bool.and_eq_true]
  exact ⟨⟨⟨⟨⟨⟨⟨⟨⟨⟨⟨⟨⟨⟨⟨⟨⟨⟨⟨⟨⟨⟨⟨⟨⟨⟨⟨⟨⟨⟨⟨jf15_0, jf_1⟩, jf_2⟩, jf15_3⟩, jf15_4⟩, jf15_5⟩, jf_6⟩, jf15_7⟩, jf_8⟩, jf15_9⟩, jf15_10⟩, jf15_11⟩, jf15_12⟩, jf15_13⟩, jf15_14⟩, jf15_15⟩, jf15_16⟩, jf15_17⟩, jf15_18⟩, jf15_19⟩, jf15_20⟩, jf15_21⟩, jf_22⟩, jf15_23⟩, jf_24⟩, jf_25⟩, jf_26⟩, jf_27⟩, jf15_28⟩, jf15_29⟩, jf15_30⟩, jf15_31⟩
theorem named15 : Tryz.prog.funcNamed Rows.entryStrictRow.func = some 15 := by kernel_rfl
theorem inst15 : decide (Tryz.f15.isInstance Tryz.prog Rows.entryStrictRow.origin Rows.entryStrictRow.targs) = true := by kernel_rfl
theorem goes15 : false = Rows.entryStrictRow.goesBy Tryz.prog := by kernel_rfl
theorem wf15 : Rows.entryStrictRow.wfByText (OpenSpec.ofChange Rows.entryStrictSpec) = true := by kernel_rfl
theorem holds15 : Rows.EntryStrictSaid :=
  OpenClaim.holds_of_wide 15 Tryz.f15 rfl rfl rfl rfl rfl rfl rfl ⟨rfl, rfl, rfl, rfl, rfl⟩ rfl rfl rfl rfl rfl named15 Tryz.func15 joined15
    (of_decide_eq_true inst15) (by unfold Func.isWrapper; first | (rw [if_pos (by decide +kernel)]; kernel_rfl) | (rw [if_neg (by decide +kernel)]; exact ⟨rfl, rfl⟩))
    (fun os started H enc _ => lifted15 os started H enc)
theorem entryStrict_holds : Rows.EntryStrictCardSaid :=
  Claim7.holds_tied_plain_at .later [] [.data, .data, .data, .data, .pinned] true (true, "1f55a028107fcf6cc6d30742e76c2172639d12f8ca8a28f69385b22ba6fbaccc") false holds15 (fun _ h => by cases h) wf15 (fun _ h => by cases h) entryStrict_row_tie rfl ⟨rfl, rfl⟩ jmain rfl
    (fun f fn hf hfn => by
      obtain rfl : f = 15 := Option.some.inj (named15.symm.trans hf) |>.symm
      obtain rfl : fn = Tryz.f15 := (Option.some.inj (Tryz.func15.symm.trans hfn)).symm
      exact ⟨jlooks, fun j t ht => by
        rw [Tryz.params15] at ht
        have hm : t ∈ [9] := by simpa using Array.mem_of_getElem? ht
        have hall : ([9].all fun u => !Tryz.prog.wantsStandIn u) = true := by kernel_rfl
        exact (show Tryz.prog.wantsStandIn t = false by simpa using List.all_eq_true.1 hall t hm)⟩)
    goes15
#print axioms entryStrict_holds

end Go.Proofs.YtlkkiimmangplaaGreatDoor
