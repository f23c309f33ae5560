/- The law EntryKeys of the package dasdlaw33: for every input the call returns true, and the input reads as it did. No condition but those that the card names. -/
import Derived.Test.YtlkkiimmangplaaGreatDoorEA5
import Derived.Test.YtlkkiimmangplaaGreatDoorTie
import Derived.Test.YtlkkiimmangplaaGreatDoorCards
import Derived.ProofKit
import Derived.OpenShut
import Derived.LaidMore
import Derived.Lay
import Derived.SevenTiedAt
import Derived.Stop.Joined
namespace Go.Proofs.YtlkkiimmangplaaGreatDoor
open Go Go.RowKit
set_option linter.unusedVariables false
set_option linter.unusedSimpArgs false

open Go.ChangeShapes Go.WideShapes Go.ChangeAt
set_option maxRecDepth 100000
theorem own16 : ownKnob Tryz.prog.godebug = none := by kernel_rfl
theorem lifted16 (os : Os) (started : os.Started) (H : Type) (enc : TypeId × Value → H) :
    ReturnsInHanded {} Tryz.checked os 16 .any (fun w args => (Rows.entryKeysSpec.pre enc Tryz.prog Tryz.f16 Rows.entryKeysRow.domain false w args ∧ laidMetH Tryz.prog laidL w) ∧ sizedMet enc Tryz.prog Tryz.f16 (OpenSpec.ofChange Rows.entryKeysSpec) false w args)
      (Rows.entryKeysSpec.post enc Tryz.prog Tryz.f16 false true false false) := by
  refine lift_and_shaped (C := Tryz.checked) (X := fun w _ => laidMetH Tryz.prog laidL w) (fun _ _ _ hh h => h.of_heap hh) own16 started (by kernel_rfl) Tryz.func16
    (ChangeSpec.witness_shaped (enc := enc) (C := Tryz.checked) (os := os) (X := fun w _ => laidMetH Tryz.prog laidL w) false (World.laidAll Tryz.prog os laidL) #[.int .i64 0, .int .i64 0, .string ⟨#[]⟩, .string ⟨#[]⟩] 8 (World.laidAll_os _ _ _)
      (World.shaped_of_ZipB (by kernel_rfl) (by kernel_rfl)) (by kernel_rfl) (by kernel_rfl) (by kernel_rfl)
      (by rw [MakeChecks.laidMetH_plain _ _ _ (by kernel_rfl)]; exact laidMet_laidAll _ (by kernel_rfl) (by kernel_rfl))) ?_
  intro W base args ds gs before hval0 hW hc hsz hL' hsh _
  have hg : Good W := good_of hsh hL'
  have hval : ∀ (j : Nat) t v, Tryz.f16.params[j]? = some t → args[j]? = some v → Value.okWide Tryz.prog W .any base t v := hval0
  have hW' := hW
  obtain ⟨p, q, hA0, hV, rfl, _, _⟩ := hW
  have hA : DataW.TrodAll enc Tryz.prog W 0 (fun _ => true) true Tryz.f16.params.toList args.toList ds p := hA0
  rw [Tryz.params16] at hA hval
  obtain ⟨rfl, rfl⟩ := trodVars_none hV
  obtain ⟨v0, vs0, d0, ds0, p0, q0, hv0, rfl, rfl, h0, hr0⟩ := trodAll_cons hA
  obtain ⟨v1, vs1, d1, ds1, p1, q1, rfl, rfl, rfl, h1, hr1⟩ := trodAll_cons hr0
  obtain ⟨v2, vs2, d2, ds2, p2, q2, rfl, rfl, rfl, h2, hr2⟩ := trodAll_cons hr1
  obtain ⟨v3, vs3, d3, ds3, p3, q3, rfl, rfl, rfl, h3, hr3⟩ := trodAll_cons hr2
  obtain ⟨rfl, rfl, rfl⟩ := trodAll_nil hr3
  obtain rfl : args = #[v0, v1, v2, v3] := by cases args; simp_all
  have w0 : Wok 3 d0 := wok_each hsz 0 _ _ rfl rfl
  obtain ⟨n0, h0⟩ := h0
  have ok0 := hval 0 3 v0 rfl rfl
  obtain ⟨a0, rfl⟩ := okWide_int Tryz.underlying3 ok0
  obtain ⟨_, e0, b0⟩ := op3 h0
  simp [Value.cells] at e0; subst e0
  have w1 : Wok 3 d1 := wok_each hsz 1 _ _ rfl rfl
  obtain ⟨n1, h1⟩ := h1
  have ok1 := hval 1 3 v1 rfl rfl
  obtain ⟨a1, rfl⟩ := okWide_int Tryz.underlying3 ok1
  obtain ⟨_, e1, b1⟩ := op3 h1
  simp [Value.cells] at e1; subst e1
  have w2 : Wok 9 d2 := wok_each hsz 2 _ _ rfl rfl
  obtain ⟨n2, h2⟩ := h2
  have ok2 := hval 2 9 v2 rfl rfl
  obtain ⟨a2, rfl⟩ := okWide_string Tryz.underlying9 ok2
  obtain ⟨_, e2, b2⟩ := op9 h2 w2
  simp [Value.cells] at e2; subst e2
  have w3 : Wok 9 d3 := wok_each hsz 3 _ _ rfl rfl
  obtain ⟨n3, h3⟩ := h3
  have ok3 := hval 3 9 v3 rfl rfl
  obtain ⟨a3, rfl⟩ := okWide_string Tryz.underlying9 ok3
  obtain ⟨_, e3, b3⟩ := op9 h3 w3
  simp [Value.cells] at e3; subst e3
  refine (keys33_law a0 a1 a2 a3 W hg).mono fun e W' h => ?_
  obtain ⟨rfl, hst⟩ := h
  exact ⟨_, rfl, post_kept ownClosed (by rw [Tryz.params16]; decide) Tryz.underlying4 rfl rfl rfl hW' hst.below⟩
theorem jf16_0 : (Rows.entryKeysRow.wf (OpenSpec.ofChange Rows.entryKeysSpec)) = true := by kernel_rfl
theorem jf16_3 : (Tryz.f16.params.all (Tryz.prog.readableRec ·)) = true := by kernel_rfl
theorem jf16_4 : (namedTie Tryz.prog Rows.entryKeysRow.named Rows.entryKeysSpec.vars) = true := by kernel_rfl
theorem jf16_5 : ((Rows.entryKeysRow.stops == [])) = true := by kernel_rfl
theorem jf16_7 : ((Rows.entryKeysRow.knobs == [])) = true := by kernel_rfl
theorem jf16_9 : ((Rows.entryKeysRow.inPlace == Tryz.prog.inPlace 16)) = true := by kernel_rfl
theorem jf16_10 : ((Rows.entryKeysRow.unfollowed == Tryz.prog.unfollowed 16)) = true := by kernel_rfl
theorem jf16_11 : ((Rows.entryKeysRow.recurses == Tryz.prog.recurses 16)) = true := by kernel_rfl
theorem jf16_12 : ((Rows.entryKeysRow.named == Tryz.prog.varsNamed 16)) = true := by kernel_rfl
theorem jf16_13 : ((Rows.entryKeysRow.maps == (Tryz.f16.params.toList ++ Rows.entryKeysSpec.plain.varTypes Tryz.prog).any (Tryz.prog.mapsRec ·))) = true := by kernel_rfl
theorem jf16_14 : ((Rows.entryKeysRow.ifaces == (Tryz.f16.params.toList ++ Rows.entryKeysSpec.plain.varTypes Tryz.prog).any (Tryz.prog.ifacesRec ·))) = true := by kernel_rfl
theorem jf16_15 : ((Rows.entryKeysRow.mapsOut == Tryz.prog.mapsAmong Tryz.f16.resultTypes.toList)) = true := by kernel_rfl
theorem jf16_16 : ((Rows.entryKeysRow.loops == (Tryz.f16.params.toList ++ Rows.entryKeysSpec.plain.varTypes Tryz.prog).any (Tryz.prog.loopsFrom ·))) = true := by kernel_rfl
theorem jf16_17 : ((Rows.entryKeysRow.wideKeys == (Tryz.f16.params.toList ++ Rows.entryKeysSpec.plain.varTypes Tryz.prog ++ Tryz.f16.resultTypes.toList).any (Tryz.prog.wideKeysFrom ·))) = true := by kernel_rfl
theorem jf16_18 : (Rows.entryKeysSpec.vars.all (Tryz.prog.varReadable ·)) = true := by kernel_rfl
theorem jf16_19 : (Tryz.f16.resultTypes.all (fun t => Tryz.prog.readableRec t && decide (t < Tryz.prog.types.size))) = true := by kernel_rfl
theorem jf16_20 : ((Rows.entryKeysRow.ifacesOut == Tryz.f16.resultTypes.toList.any (Tryz.prog.ifacesRec ·))) = true := by kernel_rfl
theorem jf16_21 : ((Rows.entryKeysRow.loopsOut == Tryz.f16.resultTypes.toList.any (Tryz.prog.loopsFrom ·))) = true := by kernel_rfl
theorem jf16_23 : (Rows.entryKeysRow.shortTexts.isNone) = true := by kernel_rfl
theorem jf16_28 : ((Rows.entryKeysRow.kinds == (if Rows.entryKeysRow.domain.isEmpty then [] else Tryz.f16.params.toList.map fun t => match Tryz.prog.underlying t with | some (.int k) => some k | _ => none))) = true := by kernel_rfl
theorem jf16_29 : ((Rows.entryKeysRow.pinned == Rows.entryKeysRow.pinnedBy)) = true := by kernel_rfl
theorem jf16_30 : ((Rows.entryKeysRow.veiled == (Tryz.f16.params.toList ++ Rows.entryKeysSpec.plain.varTypes Tryz.prog ++ Tryz.f16.resultTypes.toList).any (Tryz.prog.veiledRec ·))) = true := by kernel_rfl
theorem jf16_31 : (Rows.entryKeysRow.veiledFits Tryz.prog Tryz.f16.params.toList (Tryz.f16.params.toList ++ Rows.entryKeysSpec.plain.varTypes Tryz.prog ++ Tryz.f16.resultTypes.toList)) = true := by kernel_rfl
theorem joined16 : joinedFacts Tryz.prog 16 Tryz.f16 Rows.entryKeysSpec Rows.entryKeysRow = true := by
  unfold joinedFacts
  simp only [Bool.and_eq_true]
  exact ⟨⟨⟨⟨⟨⟨⟨⟨⟨⟨⟨⟨⟨⟨⟨⟨⟨⟨⟨⟨⟨⟨⟨⟨⟨⟨⟨⟨⟨⟨⟨jf16_0, jf_1⟩, jf_2⟩, jf16_3⟩, jf16_4⟩, jf16_5⟩, jf_6⟩, jf16_7⟩, jf_8⟩, jf16_9⟩, jf16_10⟩, jf16_11⟩, jf16_12⟩, jf16_13⟩, jf16_14⟩, jf16_15⟩, jf16_16⟩, jf16_17⟩, jf16_18⟩, jf16_19⟩, jf16_20⟩, jf16_21⟩, jf_22⟩, jf16_23⟩, jf_24⟩, jf_25⟩, jf_26⟩, jf_27⟩, jf16_28⟩, jf16_29⟩, jf16_30⟩, jf16_31⟩
theorem named16 : Tryz.prog.funcNamed Rows.entryKeysRow.func = some 16 := by kernel_rfl
theorem inst16 : decide (Tryz.f16.isInstance Tryz.prog Rows.entryKeysRow.origin Rows.entryKeysRow.targs) = true := by kernel_rfl
theorem goes16 : false = Rows.entryKeysRow.goesBy Tryz.prog := by kernel_rfl
theorem wf16 : Rows.entryKeysRow.wfByText (OpenSpec.ofChange Rows.entryKeysSpec) = true := by kernel_rfl
theorem holds16 : Rows.EntryKeysSaid :=
  OpenClaim.holds_of_wide 16 Tryz.f16 rfl rfl rfl rfl rfl rfl rfl ⟨rfl, rfl, rfl, rfl, rfl⟩ rfl rfl rfl rfl rfl named16 Tryz.func16 joined16
    (of_decide_eq_true inst16) (by unfold Func.isWrapper; first | (rw [if_pos (by decide +kernel)]; kernel_rfl) | (rw [if_neg (by decide +kernel)]; exact ⟨rfl, rfl⟩))
    (fun os started H enc _ => lifted16 os started H enc)
theorem entryKeys_holds : Rows.EntryKeysCardSaid :=
  Claim7.holds_tied_plain_at .later [] [.data, .data, .data, .data, .pinned] true (true, "1f55a028107fcf6cc6d30742e76c2172639d12f8ca8a28f69385b22ba6fbaccc") false holds16 (fun _ h => by cases h) wf16 (fun _ h => by cases h) entryKeys_row_tie rfl ⟨rfl, rfl⟩ jmain rfl
    (fun f fn hf hfn => by
      obtain rfl : f = 16 := Option.some.inj (named16.symm.trans hf) |>.symm
      obtain rfl : fn = Tryz.f16 := (Option.some.inj (Tryz.func16.symm.trans hfn)).symm
      exact ⟨jlooks, fun j t ht => by
        rw [Tryz.params16] at ht
        have hm : t ∈ [3, 3, 9, 9] := by simpa using Array.mem_of_getElem? ht
        have hall : ([3, 3, 9, 9].all fun u => !Tryz.prog.wantsStandIn u) = true := by kernel_rfl
        exact (show Tryz.prog.wantsStandIn t = false by simpa using List.all_eq_true.1 hall t hm)⟩)
    goes16
#print axioms entryKeys_holds

end Go.Proofs.YtlkkiimmangplaaGreatDoor
