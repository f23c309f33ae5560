/- The law TopAccess of the package dasdtop: for every input the call returns true, and the input reads as it did. No condition but those that the card names. -/
import Derived.Test.YtlkkiimmangplaaGreatDoorTA5
import Derived.Test.YtlkkiimmangplaaGreatDoorTie
import Derived.Test.YtlkkiimmangplaaGreatDoorCards
import Derived.ProofKit
import Derived.OpenShut
import Derived.LaidMore
import Derived.Lay
import Derived.SevenTiedAt
import Derived.Stop.Joined
namespace Go.Proofs.YtlkkiimmangplaaGreatDoor
open Go Go.RowKit
set_option linter.unusedVariables false
set_option linter.unusedSimpArgs false

open Go.ChangeShapes Go.WideShapes Go.ChangeAt
set_option maxRecDepth 100000
theorem own8 : ownKnob Tryz.prog.godebug = none := by kernel_rfl
theorem lifted8 (os : Os) (started : os.Started) (H : Type) (enc : TypeId × Value → H) :
    ReturnsInHanded {} Tryz.checked os 8 .any (fun w args => (Rows.topAccessSpec.pre enc Tryz.prog Tryz.f8 Rows.topAccessRow.domain false w args ∧ laidMetH Tryz.prog laidL w) ∧ sizedMet enc Tryz.prog Tryz.f8 (OpenSpec.ofChange Rows.topAccessSpec) false w args)
      (Rows.topAccessSpec.post enc Tryz.prog Tryz.f8 false true false false) := by
  refine lift_and_shaped (C := Tryz.checked) (X := fun w _ => laidMetH Tryz.prog laidL w) (fun _ _ _ hh h => h.of_heap hh) own8 started (by kernel_rfl) Tryz.func8
    (ChangeSpec.witness_shaped (enc := enc) (C := Tryz.checked) (os := os) (X := fun w _ => laidMetH Tryz.prog laidL w) false (World.laidAll Tryz.prog os laidL) #[.slice none 0 0, .slice none 0 0, .string ⟨#[]⟩, .slice none 0 0, .string ⟨#[]⟩, .agg (E.cells E.zero (.slice none 0 0) (.slice none 0 0))] 8 (World.laidAll_os _ _ _)
      (World.shaped_of_ZipB (by kernel_rfl) (by kernel_rfl)) (by kernel_rfl) (by kernel_rfl) (by kernel_rfl)
      (by rw [MakeChecks.laidMetH_plain _ _ _ (by kernel_rfl)]; exact laidMet_laidAll _ (by kernel_rfl) (by kernel_rfl))) ?_
  intro W base args ds gs before hval0 hW hc hsz hL' hsh _
  have hg : Good W := good_of hsh hL'
  have hval : ∀ (j : Nat) t v, Tryz.f8.params[j]? = some t → args[j]? = some v → Value.okWide Tryz.prog W .any base t v := hval0
  have hW' := hW
  obtain ⟨p, q, hA0, hV, rfl, _, _⟩ := hW
  have hA : DataW.TrodAll enc Tryz.prog W 0 (fun _ => true) true Tryz.f8.params.toList args.toList ds p := hA0
  rw [Tryz.params8] at hA hval
  obtain ⟨rfl, rfl⟩ := trodVars_none hV
  obtain ⟨v0, vs0, d0, ds0, p0, q0, hv0, rfl, rfl, h0, hr0⟩ := trodAll_cons hA
  obtain ⟨v1, vs1, d1, ds1, p1, q1, rfl, rfl, rfl, h1, hr1⟩ := trodAll_cons hr0
  obtain ⟨v2, vs2, d2, ds2, p2, q2, rfl, rfl, rfl, h2, hr2⟩ := trodAll_cons hr1
  obtain ⟨v3, vs3, d3, ds3, p3, q3, rfl, rfl, rfl, h3, hr3⟩ := trodAll_cons hr2
  obtain ⟨v4, vs4, d4, ds4, p4, q4, rfl, rfl, rfl, h4, hr4⟩ := trodAll_cons hr3
  obtain ⟨v5, vs5, d5, ds5, p5, q5, rfl, rfl, rfl, h5, hr5⟩ := trodAll_cons hr4
  obtain ⟨rfl, rfl, rfl⟩ := trodAll_nil hr5
  obtain rfl : args = #[v0, v1, v2, v3, v4, v5] := by cases args; simp_all
  have w0 : Wok 46 d0 := wok_each hsz 0 _ _ rfl rfl
  obtain ⟨n0, h0⟩ := h0
  have ok0 := hval 0 46 v0 rfl rfl
  obtain ⟨A0, c0, x0, e0, lc0, cc0, b0, s0, z0⟩ := op46 h0 w0
  obtain rfl := slice_of Tryz.underlying46 ok0 e0
  have w1 : Wok 47 d1 := wok_each hsz 1 _ _ rfl rfl
  obtain ⟨n1, h1⟩ := h1
  have ok1 := hval 1 47 v1 rfl rfl
  obtain ⟨A1, c1, x1, e1, lc1, cc1, b1, s1, z1⟩ := op47 h1 w1
  obtain rfl := slice_of Tryz.underlying47 ok1 e1
  have w2 : Wok 9 d2 := wok_each hsz 2 _ _ rfl rfl
  obtain ⟨n2, h2⟩ := h2
  have ok2 := hval 2 9 v2 rfl rfl
  obtain ⟨a2, rfl⟩ := okWide_string Tryz.underlying9 ok2
  obtain ⟨_, e2, b2⟩ := op9 h2 w2
  simp [Value.cells] at e2; subst e2
  have w3 : Wok 48 d3 := wok_each hsz 3 _ _ rfl rfl
  obtain ⟨n3, h3⟩ := h3
  have ok3 := hval 3 48 v3 rfl rfl
  obtain ⟨A3, c3, x3, e3, lc3, cc3, b3, s3, z3⟩ := op48 h3 w3
  obtain rfl := slice_of Tryz.underlying48 ok3 e3
  have w4 : Wok 9 d4 := wok_each hsz 4 _ _ rfl rfl
  obtain ⟨n4, h4⟩ := h4
  have ok4 := hval 4 9 v4 rfl rfl
  obtain ⟨a4, rfl⟩ := okWide_string Tryz.underlying9 ok4
  obtain ⟨_, e4, b4⟩ := op9 h4 w4
  simp [Value.cells] at e4; subst e4
  have w5 : Wok 34 d5 := wok_each hsz 5 _ _ rfl rfl
  obtain ⟨n5, h5⟩ := h5
  have ok5 := hval 5 34 v5 rfl rfl
  obtain ⟨cs5, rfl, _⟩ := okWide_struct Tryz.underlying34 ok5
  obtain ⟨x5, va5, vg5, e5, b5, at5⟩ := op34 h5 w5
  obtain rfl := agg_cells e5
  refine (topaccess_law A0 c0 x0 A1 c1 x1 a2 A3 c3 x3 a4 x5 va5 vg5 W hg s0 (fun x hx => (b0 x hx).2) z0 s1 b1 s3 at5).mono fun e W' h => ?_
  obtain ⟨rfl, hst⟩ := h
  exact ⟨_, rfl, post_kept ownClosed (by rw [Tryz.params8]; decide) Tryz.underlying4 rfl rfl rfl hW' hst.below⟩
theorem jf8_0 : (Rows.topAccessRow.wf (OpenSpec.ofChange Rows.topAccessSpec)) = true := by kernel_rfl
theorem jf8_3 : (Tryz.f8.params.all (Tryz.prog.readableRec ·)) = true := by kernel_rfl
theorem jf8_4 : (namedTie Tryz.prog Rows.topAccessRow.named Rows.topAccessSpec.vars) = true := by kernel_rfl
theorem jf8_5 : ((Rows.topAccessRow.stops == [])) = true := by kernel_rfl
theorem jf8_7 : ((Rows.topAccessRow.knobs == [])) = true := by kernel_rfl
theorem jf8_9 : ((Rows.topAccessRow.inPlace == Tryz.prog.inPlace 8)) = true := by kernel_rfl
theorem jf8_10 : ((Rows.topAccessRow.unfollowed == Tryz.prog.unfollowed 8)) = true := by kernel_rfl
theorem jf8_11 : ((Rows.topAccessRow.recurses == Tryz.prog.recurses 8)) = true := by kernel_rfl
theorem jf8_12 : ((Rows.topAccessRow.named == Tryz.prog.varsNamed 8)) = true := by kernel_rfl
theorem jf8_13 : ((Rows.topAccessRow.maps == (Tryz.f8.params.toList ++ Rows.topAccessSpec.plain.varTypes Tryz.prog).any (Tryz.prog.mapsRec ·))) = true := by kernel_rfl
theorem jf8_14 : ((Rows.topAccessRow.ifaces == (Tryz.f8.params.toList ++ Rows.topAccessSpec.plain.varTypes Tryz.prog).any (Tryz.prog.ifacesRec ·))) = true := by kernel_rfl
theorem jf8_15 : ((Rows.topAccessRow.mapsOut == Tryz.prog.mapsAmong Tryz.f8.resultTypes.toList)) = true := by kernel_rfl
theorem jf8_16 : ((Rows.topAccessRow.loops == (Tryz.f8.params.toList ++ Rows.topAccessSpec.plain.varTypes Tryz.prog).any (Tryz.prog.loopsFrom ·))) = true := by kernel_rfl
theorem jf8_17 : ((Rows.topAccessRow.wideKeys == (Tryz.f8.params.toList ++ Rows.topAccessSpec.plain.varTypes Tryz.prog ++ Tryz.f8.resultTypes.toList).any (Tryz.prog.wideKeysFrom ·))) = true := by kernel_rfl
theorem jf8_18 : (Rows.topAccessSpec.vars.all (Tryz.prog.varReadable ·)) = true := by kernel_rfl
theorem jf8_19 : (Tryz.f8.resultTypes.all (fun t => Tryz.prog.readableRec t && decide (t < Tryz.prog.types.size))) = true := by kernel_rfl
theorem jf8_20 : ((Rows.topAccessRow.ifacesOut == Tryz.f8.resultTypes.toList.any (Tryz.prog.ifacesRec ·))) = true := by kernel_rfl
theorem jf8_21 : ((Rows.topAccessRow.loopsOut == Tryz.f8.resultTypes.toList.any (Tryz.prog.loopsFrom ·))) = true := by kernel_rfl
theorem jf8_23 : (Rows.topAccessRow.shortTexts.isNone) = true := by kernel_rfl
theorem jf8_28 : ((Rows.topAccessRow.kinds == (if Rows.topAccessRow.domain.isEmpty then [] else Tryz.f8.params.toList.map fun t => match Tryz.prog.underlying t with | some (.int k) => some k | _ => none))) = true := by kernel_rfl
theorem jf8_29 : ((Rows.topAccessRow.pinned == Rows.topAccessRow.pinnedBy)) = true := by kernel_rfl
theorem jf8_30 : ((Rows.topAccessRow.veiled == (Tryz.f8.params.toList ++ Rows.topAccessSpec.plain.varTypes Tryz.prog ++ Tryz.f8.resultTypes.toList).any (Tryz.prog.veiledRec ·))) = true := by kernel_rfl
theorem jf8_31 : (Rows.topAccessRow.veiledFits Tryz.prog Tryz.f8.params.toList (Tryz.f8.params.toList ++ Rows.topAccessSpec.plain.varTypes Tryz.prog ++ Tryz.f8.resultTypes.toList)) = true := by kernel_rfl
theorem joined8 : joinedFacts Tryz.prog 8 Tryz.f8 Rows.topAccessSpec Rows.topAccessRow = true := by
  unfold joinedFacts
  simp only [Bool.and_eq_true]
  exact ⟨⟨⟨⟨⟨⟨⟨⟨⟨⟨⟨⟨⟨⟨⟨⟨⟨⟨⟨⟨⟨⟨⟨⟨⟨⟨⟨⟨⟨⟨⟨jf8_0, jf_1⟩, jf_2⟩, jf8_3⟩, jf8_4⟩, jf8_5⟩, jf_6⟩, jf8_7⟩, jf_8⟩, jf8_9⟩, jf8_10⟩, jf8_11⟩, jf8_12⟩, jf8_13⟩, jf8_14⟩, jf8_15⟩, jf8_16⟩, jf8_17⟩, jf8_18⟩, jf8_19⟩, jf8_20⟩, jf8_21⟩, jf_22⟩, jf8_23⟩, jf_24⟩, jf_25⟩, jf_26⟩, jf_27⟩, jf8_28⟩, jf8_29⟩, jf8_30⟩, jf8_31⟩
theorem named8 : Tryz.prog.funcNamed Rows.topAccessRow.func = some 8 := by kernel_rfl
theorem inst8 : decide (Tryz.f8.isInstance Tryz.prog Rows.topAccessRow.origin Rows.topAccessRow.targs) = true := by kernel_rfl
theorem goes8 : false = Rows.topAccessRow.goesBy Tryz.prog := by kernel_rfl
theorem wf8 : Rows.topAccessRow.wfByText (OpenSpec.ofChange Rows.topAccessSpec) = true := by kernel_rfl
theorem holds8 : Rows.TopAccessSaid :=
  OpenClaim.holds_of_wide 8 Tryz.f8 rfl rfl rfl rfl rfl rfl rfl ⟨rfl, rfl, rfl, rfl, rfl⟩ rfl rfl rfl rfl rfl named8 Tryz.func8 joined8
    (of_decide_eq_true inst8) (by unfold Func.isWrapper; first | (rw [if_pos (by decide +kernel)]; kernel_rfl) | (rw [if_neg (by decide +kernel)]; exact ⟨rfl, rfl⟩))
    (fun os started H enc _ => lifted8 os started H enc)
theorem topAccess_holds : Rows.TopAccessCardSaid :=
  Claim7.holds_tied_plain_at .later [] [.data, .data, .data, .data, .pinned] true (true, "1f55a028107fcf6cc6d30742e76c2172639d12f8ca8a28f69385b22ba6fbaccc") false holds8 (fun _ h => by cases h) wf8 (fun _ h => by cases h) topAccess_row_tie rfl ⟨rfl, rfl⟩ jmain rfl
    (fun f fn hf hfn => by
      obtain rfl : f = 8 := Option.some.inj (named8.symm.trans hf) |>.symm
      obtain rfl : fn = Tryz.f8 := (Option.some.inj (Tryz.func8.symm.trans hfn)).symm
      exact ⟨jlooks, fun j t ht => by
        rw [Tryz.params8] at ht
        have hm : t ∈ [46, 47, 9, 48, 9, 34] := by simpa using Array.mem_of_getElem? ht
        have hall : ([46, 47, 9, 48, 9, 34].all fun u => !Tryz.prog.wantsStandIn u) = true := by kernel_rfl
        exact (show Tryz.prog.wantsStandIn t = false by simpa using List.all_eq_true.1 hall t hm)⟩)
    goes8
#print axioms topAccess_holds

end Go.Proofs.YtlkkiimmangplaaGreatDoor
