/- The law EntryCuts of the package dasdlaw33: for every input the call returns true, and the input reads as it did. No condition but those that the card names. -/
import Derived.Test.YtlkkiimmangplaaGreatDoorEA5
import Derived.Test.YtlkkiimmangplaaGreatDoorTie
import Derived.Test.YtlkkiimmangplaaGreatDoorCards
import Derived.ProofKit
import Derived.OpenShut
import Derived.LaidMore
import Derived.Lay
import Derived.SevenTiedAt
import Derived.Stop.Joined
namespace Go.Proofs.YtlkkiimmangplaaGreatDoor
open Go Go.RowKit
set_option linter.unusedVariables false
set_option linter.unusedSimpArgs false

open Go.ChangeShapes Go.WideShapes Go.ChangeAt
set_option maxRecDepth 100000
theorem own17 : ownKnob Tryz.prog.godebug = none := by kernel_rfl
theorem lifted17 (os : Os) (started : os.Started) (H : Type) (enc : TypeId × Value → H) :
    ReturnsInHanded {} Tryz.checked os 17 .any (fun w args => (Rows.entryCutsSpec.pre enc Tryz.prog Tryz.f17 Rows.entryCutsRow.domain false w args ∧ laidMetH Tryz.prog laidL w) ∧ sizedMet enc Tryz.prog Tryz.f17 (OpenSpec.ofChange Rows.entryCutsSpec) false w args)
      (Rows.entryCutsSpec.post enc Tryz.prog Tryz.f17 false true false false) := by
  refine lift_and_shaped (C := Tryz.checked) (X := fun w _ => laidMetH Tryz.prog laidL w) (fun _ _ _ hh h => h.of_heap hh) own17 started (by kernel_rfl) Tryz.func17
    (ChangeSpec.witness_shaped (enc := enc) (C := Tryz.checked) (os := os) (X := fun w _ => laidMetH Tryz.prog laidL w) false (World.laidAll Tryz.prog os laidL) #[.agg (E.cells E.zero (.slice none 0 0) (.slice none 0 0)), .int .u8 0, .int .u8 0] 8 (World.laidAll_os _ _ _)
      (World.shaped_of_ZipB (by kernel_rfl) (by kernel_rfl)) (by kernel_rfl) (by kernel_rfl) (by kernel_rfl)
      (by rw [MakeChecks.laidMetH_plain _ _ _ (by kernel_rfl)]; exact laidMet_laidAll _ (by kernel_rfl) (by kernel_rfl))) ?_
  intro W base args ds gs before hval0 hW hc hsz hL' hsh _
  have hg : Good W := good_of hsh hL'
  have hval : ∀ (j : Nat) t v, Tryz.f17.params[j]? = some t → args[j]? = some v → Value.okWide Tryz.prog W .any base t v := hval0
  have hW' := hW
  obtain ⟨p, q, hA0, hV, rfl, _, _⟩ := hW
  have hA : DataW.TrodAll enc Tryz.prog W 0 (fun _ => true) true Tryz.f17.params.toList args.toList ds p := hA0
  rw [Tryz.params17] at hA hval
  obtain ⟨rfl, rfl⟩ := trodVars_none hV
  obtain ⟨v0, vs0, d0, ds0, p0, q0, hv0, rfl, rfl, h0, hr0⟩ := trodAll_cons hA
  obtain ⟨v1, vs1, d1, ds1, p1, q1, rfl, rfl, rfl, h1, hr1⟩ := trodAll_cons hr0
  obtain ⟨v2, vs2, d2, ds2, p2, q2, rfl, rfl, rfl, h2, hr2⟩ := trodAll_cons hr1
  obtain ⟨rfl, rfl, rfl⟩ := trodAll_nil hr2
  obtain rfl : args = #[v0, v1, v2] := by cases args; simp_all
  have w0 : Wok 34 d0 := wok_each hsz 0 _ _ rfl rfl
  obtain ⟨n0, h0⟩ := h0
  have ok0 := hval 0 34 v0 rfl rfl
  obtain ⟨cs0, rfl, _⟩ := okWide_struct Tryz.underlying34 ok0
  obtain ⟨x0, va0, vg0, e0, b0, at0⟩ := op34 h0 w0
  obtain rfl := agg_cells e0
  have w1 : Wok 5 d1 := wok_each hsz 1 _ _ rfl rfl
  obtain ⟨n1, h1⟩ := h1
  have ok1 := hval 1 5 v1 rfl rfl
  obtain ⟨a1, rfl⟩ := okWide_int Tryz.underlying5 ok1
  obtain ⟨_, e1, b1⟩ := op5 h1
  simp [Value.cells] at e1; subst e1
  have w2 : Wok 5 d2 := wok_each hsz 2 _ _ rfl rfl
  obtain ⟨n2, h2⟩ := h2
  have ok2 := hval 2 5 v2 rfl rfl
  obtain ⟨a2, rfl⟩ := okWide_int Tryz.underlying5 ok2
  obtain ⟨_, e2, b2⟩ := op5 h2
  simp [Value.cells] at e2; subst e2
  refine (cuts33_law x0 va0 vg0 a1 a2 W hg at0 b0 b1 b2).mono fun e W' h => ?_
  obtain ⟨rfl, hst⟩ := h
  exact ⟨_, rfl, post_kept ownClosed (by rw [Tryz.params17]; decide) Tryz.underlying4 rfl rfl rfl hW' hst.below⟩
theorem jf17_0 : (Rows.entryCutsRow.wf (OpenSpec.ofChange Rows.entryCutsSpec)) = true := by kernel_rfl
theorem jf17_3 : (Tryz.f17.params.all (Tryz.prog.readableRec ·)) = true := by kernel_rfl
theorem jf17_4 : (namedTie Tryz.prog Rows.entryCutsRow.named Rows.entryCutsSpec.vars) = true := by kernel_rfl
theorem jf17_5 : ((Rows.entryCutsRow.stops == [])) = true := by kernel_rfl
theorem jf17_7 : ((Rows.entryCutsRow.knobs == [])) = true := by kernel_rfl
theorem jf17_9 : ((Rows.entryCutsRow.inPlace == Tryz.prog.inPlace 17)) = true := by kernel_rfl
theorem jf17_10 : ((Rows.entryCutsRow.unfollowed == Tryz.prog.unfollowed 17)) = true := by kernel_rfl
theorem jf17_11 : ((Rows.entryCutsRow.recurses == Tryz.prog.recurses 17)) = true := by kernel_rfl
theorem jf17_12 : ((Rows.entryCutsRow.named == Tryz.prog.varsNamed 17)) = true := by kernel_rfl
theorem jf17_13 : ((Rows.entryCutsRow.maps == (Tryz.f17.params.toList ++ Rows.entryCutsSpec.plain.varTypes Tryz.prog).any (Tryz.prog.mapsRec ·))) = true := by kernel_rfl
theorem jf17_14 : ((Rows.entryCutsRow.ifaces == (Tryz.f17.params.toList ++ Rows.entryCutsSpec.plain.varTypes Tryz.prog).any (Tryz.prog.ifacesRec ·))) = true := by kernel_rfl
theorem jf17_15 : ((Rows.entryCutsRow.mapsOut == Tryz.prog.mapsAmong Tryz.f17.resultTypes.toList)) = true := by kernel_rfl
theorem jf17_16 : ((Rows.entryCutsRow.loops == (Tryz.f17.params.toList ++ Rows.entryCutsSpec.plain.varTypes Tryz.prog).any (Tryz.prog.loopsFrom ·))) = true := by kernel_rfl
theorem jf17_17 : ((Rows.entryCutsRow.wideKeys == (Tryz.f17.params.toList ++ Rows.entryCutsSpec.plain.varTypes Tryz.prog ++ Tryz.f17.resultTypes.toList).any (Tryz.prog.wideKeysFrom ·))) = true := by kernel_rfl
theorem jf17_18 : (Rows.entryCutsSpec.vars.all (Tryz.prog.varReadable ·)) = true := by kernel_rfl
theorem jf17_19 : (Tryz.f17.resultTypes.all (fun t => Tryz.prog.readableRec t && decide (t < Tryz.prog.types.size))) = true := by kernel_rfl
theorem jf17_20 : ((Rows.entryCutsRow.ifacesOut == Tryz.f17.resultTypes.toList.any (Tryz.prog.ifacesRec ·))) = true := by kernel_rfl
theorem jf17_21 : ((Rows.entryCutsRow.loopsOut == Tryz.f17.resultTypes.toList.any (Tryz.prog.loopsFrom ·))) = true := by kernel_rfl
theorem jf17_23 : (Rows.entryCutsRow.shortTexts.isNone) = true := by kernel_rfl
theorem jf17_28 : ((Rows.entryCutsRow.kinds == (if Rows.entryCutsRow.domain.isEmpty then [] else Tryz.f17.params.toList.map fun t => match Tryz.prog.underlying t with | some (.int k) => some k | _ => none))) = true := by kernel_rfl
theorem jf17_29 : ((Rows.entryCutsRow.pinned == Rows.entryCutsRow.pinnedBy)) = true := by kernel_rfl
theorem jf17_30 : ((Rows.entryCutsRow.veiled == (Tryz.f17.params.toList ++ Rows.entryCutsSpec.plain.varTypes Tryz.prog ++ Tryz.f17.resultTypes.toList).any (Tryz.prog.veiledRec ·))) = true := by kernel_rfl
theorem jf17_31 : (Rows.entryCutsRow.veiledFits Tryz.prog Tryz.f17.params.toList (Tryz.f17.params.toList ++ Rows.entryCutsSpec.plain.varTypes Tryz.prog ++ Tryz.f17.resultTypes.toList)) = true := by kernel_rfl
theorem joined17 : joinedFacts Tryz.prog 17 Tryz.f17 Rows.entryCutsSpec Rows.entryCutsRow = true := by
  unfold joinedFacts
  simp only [Bool.and_eq_true]
  exact ⟨⟨⟨⟨⟨⟨⟨⟨⟨⟨⟨⟨⟨⟨⟨⟨⟨⟨⟨⟨⟨⟨⟨⟨⟨⟨⟨⟨⟨⟨⟨jf17_0, jf_1⟩, jf_2⟩, jf17_3⟩, jf17_4⟩, jf17_5⟩, jf_6⟩, jf17_7⟩, jf_8⟩, jf17_9⟩, jf17_10⟩, jf17_11⟩, jf17_12⟩, jf17_13⟩, jf17_14⟩, jf17_15⟩, jf17_16⟩, jf17_17⟩, jf17_18⟩, jf17_19⟩, jf17_20⟩, jf17_21⟩, jf_22⟩, jf17_23⟩, jf_24⟩, jf_25⟩, jf_26⟩, jf_27⟩, jf17_28⟩, jf17_29⟩, jf17_30⟩, jf17_31⟩
theorem named17 : Tryz.prog.funcNamed Rows.entryCutsRow.func = some 17 := by kernel_rfl
theorem inst17 : decide (Tryz.f17.isInstance Tryz.prog Rows.entryCutsRow.origin Rows.entryCutsRow.targs) = true := by kernel_rfl
theorem goes17 : false = Rows.entryCutsRow.goesBy Tryz.prog := by kernel_rfl
theorem wf17 : Rows.entryCutsRow.wfByText (OpenSpec.ofChange Rows.entryCutsSpec) = true := by kernel_rfl
theorem holds17 : Rows.EntryCutsSaid :=
  OpenClaim.holds_of_wide 17 Tryz.f17 rfl rfl rfl rfl rfl rfl rfl ⟨rfl, rfl, rfl, rfl, rfl⟩ rfl rfl rfl rfl rfl named17 Tryz.func17 joined17
    (of_decide_eq_true inst17) (by unfold Func.isWrapper; first | (rw [if_pos (by decide +kernel)]; kernel_rfl) | (rw [if_neg (by decide +kernel)]; exact ⟨rfl, rfl⟩))
    (fun os started H enc _ => lifted17 os started H enc)
theorem entryCuts_holds : Rows.EntryCutsCardSaid :=
  Claim7.holds_tied_plain_at .later [] [.data, .data, .data, .data, .pinned] true (true, "1f55a028107fcf6cc6d30742e76c2172639d12f8ca8a28f69385b22ba6fbaccc") false holds17 (fun _ h => by cases h) wf17 (fun _ h => by cases h) entryCuts_row_tie rfl ⟨rfl, rfl⟩ jmain rfl
    (fun f fn hf hfn => by
      obtain rfl : f = 17 := Option.some.inj (named17.symm.trans hf) |>.symm
      obtain rfl : fn = Tryz.f17 := (Option.some.inj (Tryz.func17.symm.trans hfn)).symm
      exact ⟨jlooks, fun j t ht => by
        rw [Tryz.params17] at ht
        have hm : t ∈ [34, 5, 5] := by simpa using Array.mem_of_getElem? ht
        have hall : ([34, 5, 5].all fun u => !Tryz.prog.wantsStandIn u) = true := by kernel_rfl
        exact (show Tryz.prog.wantsStandIn t = false by simpa using List.all_eq_true.1 hall t hm)⟩)
    goes17
#print axioms entryCuts_holds

end Go.Proofs.YtlkkiimmangplaaGreatDoor
