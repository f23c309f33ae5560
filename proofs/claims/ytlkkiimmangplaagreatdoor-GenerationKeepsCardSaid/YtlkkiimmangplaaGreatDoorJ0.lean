/- The closed facts of the program that all rows ask. -/
import Derived.Test.YtlkkiimmangplaaGreatDoorRows
import Derived.JoinedOf
import Derived.KernelRfl
import Derived.SevenTiedAt
namespace Go.Proofs.YtlkkiimmangplaaGreatDoor
open Go
set_option linter.unusedVariables false
set_option linter.unusedSimpArgs false

open Go.ChangeShapes Go.WideShapes
set_option maxRecDepth 100000

theorem words_of {l : List (List Char)} {h s c : List Char} (hl : l.take 3 = [h, s, c]) : ∃ r, l = h :: s :: c :: r := by
  match l, hl with
  | a :: b :: d :: r, hl =>
    simp only [List.take_succ_cons, List.take_zero, List.cons.injEq, and_true] at hl
    obtain ⟨rfl, rfl, rfl⟩ := hl
    exact ⟨r, rfl⟩
  | [], hl => cases hl
  | [_], hl => cases hl
  | [_, _], hl => cases hl
theorem behind_of {l : List (List Char)} {h s c : List Char} (hl : l.take 3 = [h, s, c]) (hs : ((h == "harness".toList || h == "ownmain".toList) && isSumSigns s) = true) : ∃ r, behindMainWord l = c :: r := by
  obtain ⟨r, rfl⟩ := words_of hl
  refine ⟨r, ?_⟩
  simp only [behindMainWord]
  rw [if_pos hs]
theorem main_of {P : Program} {s c : List Char} {h : List Char} (hl : (wordsSigns P.initOrder.toList).take 3 = [h, s, c]) (hs : isSumSigns s = true) (hh : (h == "harness".toList) = true) : P.mainIs = some (true, s) := by
  obtain ⟨r, hr⟩ := words_of hl
  unfold Program.mainIs
  rw [hr]
  simp only [hs, hh]
  rfl
theorem may_of {P : Program} {r : List (List Char)} {c : List Char} (h : behindMainWord (wordsSigns P.initOrder.toList) = c :: r) (hs : stripLifts liftWords (c :: r) = ([], c :: r)) (hc : (some c == some "cut".toList) = true) (h1 : P.laysLater = false) (h2 : P.bearsReflect = false) (h3 : P.doorFits [] = true) : P.mayEnter = true := by
  unfold Program.mayEnter
  rw [h]
  simp only [hs, h1, h2, h3, List.head?_cons, hc]
  simp
theorem head_of {P : Program} {r : List (List Char)} {c : List Char} (h : behindMainWord (wordsSigns P.initOrder.toList) = c :: r) (hs : stripLifts liftWords (c :: r) = ([], c :: r)) : P.headLifts = [] := by
  unfold Program.headLifts
  rw [h]
  simp only [hs]
  simp
theorem final_of {P : Program} {r : List (List Char)} {c : List Char} (h : behindMainWord (wordsSigns P.initOrder.toList) = c :: r) (hh : P.headLifts = []) (hc : (some c == some "carried".toList) = false) : P.liftsFinal = false := by
  unfold Program.liftsFinal
  rw [h, hh]
  simp only [List.head?_cons, hc]
  simp
theorem make_of {P : Program} {r : List (List Char)} {c : List Char} (h : behindMainWord (wordsSigns P.initOrder.toList) = c :: r) (h1 : (c == "gc".toList) = false) (h2 : (c == "spec".toList) = false) (h3 : (c == "cut".toList) = true) : P.make = some .cut := by
  unfold Program.make
  rw [h]
  simp only [h1, h2, h3]
  rfl
theorem strip_cut (r : List (List Char)) : stripLifts liftWords ("cut".toList :: r) = ([], "cut".toList :: r) := by rfl
theorem jw3 : (wordsSigns Tryz.prog.initOrder.toList).take 3 = ["harness".toList, "1f55a028107fcf6cc6d30742e76c2172639d12f8ca8a28f69385b22ba6fbaccc".toList, "cut".toList] := by kernel_rfl
theorem jlays : Tryz.prog.laysLater = false := by kernel_rfl
theorem jrefl : Tryz.prog.bearsReflect = false := by kernel_rfl
theorem jdoor : Tryz.prog.doorFits [] = true := by kernel_rfl
theorem jsum : (("harness".toList == "harness".toList || "harness".toList == "ownmain".toList) && isSumSigns "1f55a028107fcf6cc6d30742e76c2172639d12f8ca8a28f69385b22ba6fbaccc".toList) = true := by kernel_rfl
theorem jsum1 : isSumSigns "1f55a028107fcf6cc6d30742e76c2172639d12f8ca8a28f69385b22ba6fbaccc".toList = true := by kernel_rfl
theorem jb : ∃ r, behindMainWord (wordsSigns Tryz.prog.initOrder.toList) = "cut".toList :: r := behind_of jw3 jsum
theorem jmain : Tryz.prog.mainIs = some (true, "1f55a028107fcf6cc6d30742e76c2172639d12f8ca8a28f69385b22ba6fbaccc".toList) := main_of jw3 jsum1 (by kernel_rfl)
theorem jf_25 : Tryz.prog.mayEnter = true := by
  obtain ⟨r, hr⟩ := jb
  exact may_of hr (strip_cut r) (by kernel_rfl) jlays jrefl jdoor
theorem jheadLifts : Tryz.prog.headLifts = [] := by
  obtain ⟨r, hr⟩ := jb
  exact head_of hr (strip_cut r)
theorem jf_26 : ((Rows.generationNumbersRow.lifted == Tryz.prog.liftsFinal)) = true := by
  obtain ⟨r, hr⟩ := jb
  rw [final_of hr jheadLifts (by kernel_rfl)]; rfl
theorem jf_27 : ((Tryz.prog.make == some Rows.generationNumbersRow.make)) = true := by
  obtain ⟨r, hr⟩ := jb
  rw [make_of hr (by kernel_rfl) (by kernel_rfl) (by kernel_rfl)]; rfl
theorem jlooks : false = Tryz.prog.looks [] := by kernel_rfl

theorem jf_1 : (laidOutB Tryz.prog) = true := by kernel_rfl

theorem jf_2 : (mapsRowed Tryz.prog) = true := by kernel_rfl

theorem jf_6 : ((Tryz.prog.stops == [])) = true := by kernel_rfl

theorem jf_8 : ((Tryz.prog.stopKnobs == [])) = true := by kernel_rfl

theorem jf_22 : ((Rows.generationNumbersRow.plainKeys == Tryz.prog.plainKeys)) = true := by kernel_rfl

theorem jf_24 : (Tryz.prog.stopsHeard) = true := by kernel_rfl

end Go.Proofs.YtlkkiimmangplaaGreatDoor
