/- What comes in, opened: numbers, texts, slices, entries. -/
import Derived.Test.YtlkkiimmangplaaGreatDoorX3
import Derived.Test.YtlkkiimmangplaaGreatDoorL
import Derived.ChangeArms
import Derived.DataReads
namespace Go.Proofs.YtlkkiimmangplaaGreatDoor
open Go Go.RowKit
set_option linter.unusedVariables false
set_option linter.unusedSimpArgs false

set_option maxRecDepth 100000

open Go.ChangeShapes Go.WideShapes Go.ChangeAt
variable {H : Type} {enc : TypeId × Value → H} {w : World}
abbrev Wok (t : TypeId) (d : DataW H) : Prop := (d.weights Tryz.prog t).all (fun n => decide (n ≤ reachBytes)) = true
theorem wok_each : ∀ {ts : List TypeId} {ds : List (DataW H)}, (DataW.weightsEach Tryz.prog ts ds).all (fun n => decide (n ≤ reachBytes)) = true → ∀ (i : Nat) (t : TypeId) (d : DataW H), ts[i]? = some t → ds[i]? = some d → Wok t d
  | [], _, _, i, t, d, ht, _ => by simp at ht
  | _ :: _, [], _, i, t, d, _, hd => by simp at hd
  | t0 :: ts, d0 :: ds, h, i, t, d, ht, hd => by
    unfold DataW.weightsEach at h
    rw [List.all_append, Bool.and_eq_true] at h
    cases i with
    | zero => simp at ht hd; subst ht; subst hd; exact h.1
    | succ i => exact wok_each h.2 i t d (by simpa using ht) (by simpa using hd)
theorem wok_all {e : TypeId} : ∀ {ds : List (DataW H)}, (DataW.weightsAll Tryz.prog e ds).all (fun n => decide (n ≤ reachBytes)) = true → ∀ d ∈ ds, Wok e d
  | [], _, d, hd => by cases hd
  | d0 :: ds, h, d, hd => by
    unfold DataW.weightsAll at h
    rw [List.all_append, Bool.and_eq_true] at h
    rcases List.mem_cons.1 hd with rfl | hd
    · exact h.1
    · exact wok_all h.2 d hd
theorem reach_is : reachBytes = 140737488351232 := rfl
theorem wok_string {t : TypeId} {s : ByteArray} (h : Wok (H := H) t (.lit (.string s.data.toList))) : s.size ≤ 140737488351232 := by
  unfold Wok DataW.weights at h
  rw [List.all_cons, Bool.and_eq_true, decide_eq_true_eq, reach_is] at h
  exact h.1
theorem add_zero (a : Addr) : a.add 0 = a := by simp [Addr.add]
theorem cut_list (cs : List Value) (o n m : Nat) (h : o + n = m) : cs.drop o = (cs.drop o).take n ++ cs.drop m := by
  subst h
  rw [← List.drop_drop]
  exact (List.take_append_drop _ _).symm
/-- A slice whose elements read. -/
theorem open_slice_cells {t e sz : Nat} {fuel : Nat} {cs : List Value} {x : DataW H × List MemPlace} (ht : Tryz.prog.underlying t = some (.slice e)) (hsz : Tryz.prog.cellsOf e = sz) (h0 : 0 < sz) (hby : 1 ≤ Tryz.prog.bytesOf e)
    (h : DataW.trod enc Tryz.prog w 0 (fun _ => true) true fuel t cs = some x) (hw : Wok t x.1) {R : List Value → Prop} (hR : ∀ n cs y, DataW.trod enc Tryz.prog w 0 (fun _ => true) true n e cs = some y → Wok e y.1 → R cs) :
    ∃ (A : Option Addr) (len cap : Nat) (xs : List (List Value)), cs = [.slice A len cap] ∧ len ≤ cap ∧ cap ≤ 140737488351232 ∧ xs.length = len ∧ (∀ c ∈ xs, R c) ∧ (A = none → cap = 0) ∧
      (0 < len → ∃ b off, A = some ⟨b, off, none⟩ ∧ ∀ (k : Nat) (c : List Value), xs[k]? = some c → ∀ (i : Nat) (u : Value), c[i]? = some u → w.cell? ⟨b, off + (k : Int).toNat * sz + i, none⟩ = some u) := by
  rcases DataW.trod_slice ht h with ⟨rfl, rfl⟩ | ⟨a, len, cap, elems, rest, n, rfl, rfl, rfl, _, hl, hm, hlen, hel, hrest, _⟩
  · exact ⟨none, 0, 0, [], rfl, Nat.le_refl _, by decide, rfl, (fun c hc => by cases hc), (fun _ => rfl), fun h => absurd h (by decide)⟩
  · have hr := (hrest rfl).1
    have hw1 : ((elems.length + rest.length) * Tryz.prog.bytesOf e ≤ reachBytes) ∧ (DataW.weightsAll Tryz.prog e (elems.map (·.1))).all (fun n => decide (n ≤ reachBytes)) = true := by
      unfold Wok at hw
      unfold DataW.weights at hw
      rw [ht] at hw
      simp only [List.length_map, List.all_cons, List.all_append, Bool.and_eq_true, decide_eq_true_eq] at hw
      exact ⟨hw.1, hw.2.1⟩
    have hcap : cap ≤ 140737488351232 := by
      have h1 : (elems.length + rest.length) * 1 ≤ (elems.length + rest.length) * Tryz.prog.bytesOf e := Nat.mul_le_mul_left _ hby
      have := hw1.1
      rw [reach_is] at this
      omega
    have hE : ∀ i, i < len → ∃ c y, w.cells? 0 (a.add (i * sz)) sz = some c ∧ DataW.trod enc Tryz.prog w 0 (fun _ => true) true n e c = some y ∧ elems[i]? = some y := fun i hi => by
      have h1 := hel i hi
      rw [hsz, List.getElem?_eq_getElem (by omega)] at h1
      obtain ⟨c, h2, h3⟩ := Option.bind_eq_some_iff.1 h1
      exact ⟨c, _, h2, h3, List.getElem?_eq_getElem (by omega)⟩
    refine ⟨some a, len, cap, (List.range len).map (fun i => (w.cells? 0 (a.add (i * sz)) sz).getD []), rfl, hl, hcap, by simp, ?_, (fun h => by cases h), ?_⟩
    · intro c hc
      obtain ⟨i, hi, rfl⟩ := List.mem_map.1 hc
      obtain ⟨c, y, h2, h3, h4⟩ := hE i (List.mem_range.1 hi)
      rw [h2]
      exact hR n c y h3 (wok_all hw1.2 y.1 (List.mem_map.2 ⟨y, List.mem_of_getElem? h4, rfl⟩))
    · intro hp
      obtain ⟨c0, y0, h2, _, _⟩ := hE 0 hp
      obtain ⟨_, hl0, hc0⟩ := World.cells?_some h2
      have h5 := hc0 0 h0
      rw [List.getElem?_eq_getElem (by omega), Nat.zero_mul, add_zero, add_zero] at h5
      have hs := World.cell?_spot h5
      obtain ⟨b, off, sp⟩ := a
      simp only at hs
      subst hs
      refine ⟨b, off, rfl, fun k c hk i u hu => ?_⟩
      rw [List.getElem?_map] at hk
      obtain ⟨k', hk', rfl⟩ := Option.map_eq_some_iff.1 hk
      have hkl : k < len := by
        rcases Nat.lt_or_ge k len with h | h
        · exact h
        · rw [List.getElem?_eq_none (by simpa using h)] at hk'; cases hk'
      rw [List.getElem?_range hkl] at hk'
      simp at hk'
      subst hk'
      obtain ⟨c, y, h6, _, _⟩ := hE k hkl
      rw [h6] at hu
      simp only [Option.getD_some] at hu
      obtain ⟨_, hl6, hc6⟩ := World.cells?_some h6
      have hi : i < sz := by
        have := (List.getElem?_eq_some_iff.1 hu).1
        omega
      have := hc6 i hi
      rw [add0, add0, hu] at this
      simpa using this
theorem choose_list {α : Type} {E : α → List Value} {p : α → Prop} : ∀ {xs : List (List Value)}, (∀ c ∈ xs, ∃ y, c = E y ∧ p y) → ∃ ys : List α, xs = ys.map E ∧ ∀ y ∈ ys, p y
  | [], _ => ⟨[], rfl, fun y hy => by cases hy⟩
  | c :: xs, h => by
    obtain ⟨y, rfl, hy⟩ := h c (by simp)
    obtain ⟨ys, rfl, hys⟩ := choose_list (xs := xs) (fun c hc => h c (by simp [hc]))
    exact ⟨y :: ys, rfl, fun z hz => by
      rcases List.mem_cons.1 hz with rfl | hz
      · exact hy
      · exact hys z hz⟩
/-- A slice as my reading says it. -/
theorem open_sl {α : Type} (E : α → List Value) (p : α → Prop) {t e sz : Nat} {fuel : Nat} {cs : List Value} {x : DataW H × List MemPlace} (ht : Tryz.prog.underlying t = some (.slice e)) (hsz : Tryz.prog.cellsOf e = sz) (h0 : 0 < sz) (hby : 1 ≤ Tryz.prog.bytesOf e)
    (h : DataW.trod enc Tryz.prog w 0 (fun _ => true) true fuel t cs = some x) (hw : Wok t x.1) (hR : ∀ n cs y, DataW.trod enc Tryz.prog w 0 (fun _ => true) true n e cs = some y → Wok e y.1 → ∃ y, cs = E y ∧ p y) :
    ∃ (A : Option Addr) (cap : Nat) (ys : List α), cs = [.slice A ys.length cap] ∧ ys.length ≤ cap ∧ cap ≤ 140737488351232 ∧ (∀ y ∈ ys, p y) ∧ Sl E sz w A ys ∧ (A = none → cap = 0) := by
  obtain ⟨A, len, cap, xs, rfl, h1, h2, rfl, h4, h6, h5⟩ := open_slice_cells ht hsz h0 hby h hw hR
  obtain ⟨ys, rfl, hp⟩ := choose_list h4
  rw [List.length_map] at h1 h5 ⊢
  refine ⟨A, cap, ys, rfl, h1, h2, hp, ⟨by omega, fun hpos => ?_⟩, h6⟩
  obtain ⟨b, off, rfl, hc⟩ := h5 hpos
  exact ⟨b, off, rfl, fun k y hk i u hu => hc k (E y) (by rw [List.getElem?_map, hk]; rfl) i u hu⟩
abbrev I64 (n : Int) : Prop := -9223372036854775808 ≤ n ∧ n ≤ 9223372036854775807
theorem wf_i64 {n : Int} (h : (Lit.int .i64 n).wf = true) : I64 n := by
  simp [Lit.wf, IntKind.min, IntKind.max, IntKind.signed, IntKind.bits] at h
  unfold I64; omega
theorem wf_u8 {n : Int} (h : (Lit.int .u8 n).wf = true) : 0 ≤ n ∧ n < 256 := by
  simp [Lit.wf, IntKind.min, IntKind.max, IntKind.signed, IntKind.bits] at h
  omega
theorem bytes3 : 1 ≤ Tryz.prog.bytesOf 3 := by rw [show Tryz.prog.bytesOf 3 = 8 by kernel_rfl]; decide
theorem bytes9 : 1 ≤ Tryz.prog.bytesOf 9 := by rw [show Tryz.prog.bytesOf 9 = 16 by kernel_rfl]; decide
theorem bytes51 : 1 ≤ Tryz.prog.bytesOf 51 := by rw [show Tryz.prog.bytesOf 51 = 32 by kernel_rfl]; decide
theorem bytes34 : 1 ≤ Tryz.prog.bytesOf 34 := by rw [show Tryz.prog.bytesOf 34 = 336 by kernel_rfl]; decide
theorem cells3 : Tryz.prog.cellsOf 3 = 1 := by kernel_rfl
theorem cells4 : Tryz.prog.cellsOf 4 = 1 := by kernel_rfl
theorem cells5 : Tryz.prog.cellsOf 5 = 1 := by kernel_rfl
theorem cells9 : Tryz.prog.cellsOf 9 = 1 := by kernel_rfl
theorem cells22 : Tryz.prog.cellsOf 22 = 1 := by kernel_rfl
theorem cells32 : Tryz.prog.cellsOf 32 = 1 := by kernel_rfl
theorem cells48 : Tryz.prog.cellsOf 48 = 1 := by kernel_rfl
theorem cells46 : Tryz.prog.cellsOf 46 = 1 := by kernel_rfl
theorem cells24 : Tryz.prog.cellsOf 24 = 3 := by kernel_rfl
theorem cells31 : Tryz.prog.cellsOf 31 = 21 := by kernel_rfl
theorem cells34 : Tryz.prog.cellsOf 34 = 33 := by kernel_rfl
theorem cells51 : Tryz.prog.cellsOf 51 = 3 := by kernel_rfl
variable {n : Nat} {cs : List Value} {x : DataW H × List MemPlace}
abbrev Td (enc : TypeId × Value → H) (w : World) (n t : Nat) (cs : List Value) (x : DataW H × List MemPlace) : Prop := DataW.trod enc Tryz.prog w 0 (fun _ => true) true n t cs = some x
theorem op3 (h : Td enc w n 3 cs x) : ∃ k, cs = [.int .i64 k] ∧ I64 k := by
  obtain ⟨k, h1, _, h2⟩ := DataW.trod_int Tryz.underlying3 h
  exact ⟨k, h1, wf_i64 h2⟩
theorem op5 (h : Td enc w n 5 cs x) : ∃ k, cs = [.int .u8 k] ∧ 0 ≤ k ∧ k < 256 := by
  obtain ⟨k, h1, _, h2⟩ := DataW.trod_int Tryz.underlying5 h
  exact ⟨k, h1, wf_u8 h2⟩
theorem op4 (h : Td enc w n 4 cs x) : ∃ b, cs = [.bool b] := by
  obtain ⟨k, h1, _⟩ := DataW.trod_bool Tryz.underlying4 h
  exact ⟨k, h1⟩
theorem op9 (h : Td enc w n 9 cs x) (hw : Wok 9 x.1) : ∃ s, cs = [.string s] ∧ s.size ≤ 140737488351232 := by
  obtain ⟨s, h1, rfl, _⟩ := DataW.trod_string Tryz.underlying9 h
  exact ⟨s, h1, wok_string hw⟩
theorem op22 (h : Td enc w n 22 cs x) (hw : Wok 22 x.1) : ∃ (A : Option Addr) (cap : Nat) (ys : List Int), cs = [.slice A ys.length cap] ∧ ys.length ≤ cap ∧ cap ≤ 140737488351232 ∧ (∀ y ∈ ys, I64 y) ∧ Sl encI 1 w A ys ∧ (A = none → cap = 0) :=
  open_sl encI I64 Tryz.underlying22 cells3 (by decide) bytes3 h hw (fun n cs y h _ => op3 h)
theorem op48 (h : Td enc w n 48 cs x) (hw : Wok 48 x.1) : ∃ (A : Option Addr) (cap : Nat) (ys : List ByteArray), cs = [.slice A ys.length cap] ∧ ys.length ≤ cap ∧ cap ≤ 140737488351232 ∧ (∀ y ∈ ys, y.size ≤ 140737488351232) ∧ Sl encS 1 w A ys ∧ (A = none → cap = 0) :=
  open_sl encS (fun s => s.size ≤ 140737488351232) Tryz.underlying48 cells9 (by decide) bytes9 h hw (fun n cs y h hw => op9 h hw)

set_option maxRecDepth 100000 in
theorem op51 (h : Td enc w n 51 cs x) (hw : Wok 51 x.1) : ∃ g : Gr, cs = g.cells ∧ (g.who.size ≤ 140737488351232 ∧ I64 g.level) := by
  obtain ⟨xs, m, rfl, rfl, hl, hxs, hel⟩ := DataW.trod_struct Tryz.underlying51 h
  have hw' : (DataW.weightsEach Tryz.prog [9, 4, 3] (xs.map (·.1))).all (fun n => decide (n ≤ reachBytes)) = true := by
    unfold Wok at hw
    unfold DataW.weights at hw
    rw [Tryz.underlying51] at hw
    exact hw
  rw [cells51] at hl
  replace hxs : xs.length = 3 := hxs
  have g0 : Td enc w m 9 ((cs.drop 0).take 1) xs[0] := by
    have g : DataW.trod enc Tryz.prog w 0 (fun _ => true) true m 9 ((cs.drop 0).take (Tryz.prog.cellsOf 9)) = xs[0]? := hel 0 _ rfl
    rw [cells9, List.getElem?_eq_getElem (by omega)] at g
    exact g
  have q0 : Wok 9 xs[0].1 := wok_each hw' 0 _ _ rfl (by rw [List.getElem?_map, List.getElem?_eq_getElem (by omega)]; rfl)
  obtain ⟨f0, e0, b0⟩ := op9 g0 q0
  have g1 : Td enc w m 4 ((cs.drop 1).take 1) xs[1] := by
    have g : DataW.trod enc Tryz.prog w 0 (fun _ => true) true m 4 ((cs.drop 1).take (Tryz.prog.cellsOf 4)) = xs[1]? := hel 1 _ rfl
    rw [cells4, List.getElem?_eq_getElem (by omega)] at g
    exact g
  obtain ⟨f1, e1⟩ := op4 g1
  have g2 : Td enc w m 3 ((cs.drop 2).take 1) xs[2] := by
    have g : DataW.trod enc Tryz.prog w 0 (fun _ => true) true m 3 ((cs.drop 2).take (Tryz.prog.cellsOf 3)) = xs[2]? := hel 2 _ rfl
    rw [cells3, List.getElem?_eq_getElem (by omega)] at g
    exact g
  obtain ⟨f2, e2, b2⟩ := op3 g2
  have ee : cs.drop 0 = [.string f0] ++ ([.bool f1] ++ ([.int .i64 f2] ++ [])) := by
    rw [cut_list cs 0 1 1 rfl, e0, cut_list cs 1 1 2 rfl, e1, cut_list cs 2 1 3 rfl, e2, show cs.drop 3 = [] from List.drop_eq_nil_of_le (by omega)]
  rw [List.drop_zero] at ee
  exact ⟨⟨f0, f1, f2⟩, ee, b0, b2⟩

structure DSb (d : DS) : Prop where
  id : I64 d.id
  org : I64 d.org
  format : I64 d.format
  length : I64 d.length
  block : I64 d.block
  keyAt : I64 d.keyAt
  keyLength : I64 d.keyLength
  interval : I64 d.interval
  area : I64 d.area
  freeInterval : I64 d.freeInterval
  freeArea : I64 d.freeArea
  base : I64 d.base
  altAt : I64 d.altAt
  altLength : I64 d.altLength
  cls : I64 d.cls
  volume : d.volume.size ≤ 140737488351232
  owner : d.owner.size ≤ 140737488351232
  created : I64 d.created
  expires : I64 d.expires

set_option maxRecDepth 100000 in
theorem op31 (h : Td enc w n 31 cs x) (hw : Wok 31 x.1) : ∃ d : DS, cs = d.cells.toList ∧ DSb d := by
  obtain ⟨xs, m, rfl, rfl, hl, hxs, hel⟩ := DataW.trod_struct Tryz.underlying31 h
  have hw' : (DataW.weightsEach Tryz.prog [3, 3, 3, 3, 3, 3, 3, 3, 3, 3, 3, 3, 3, 3, 4, 3, 9, 9, 3, 3, 4] (xs.map (·.1))).all (fun n => decide (n ≤ reachBytes)) = true := by
    unfold Wok at hw
    unfold DataW.weights at hw
    rw [Tryz.underlying31] at hw
    exact hw
  rw [cells31] at hl
  replace hxs : xs.length = 21 := hxs
  have g0 : Td enc w m 3 ((cs.drop 0).take 1) xs[0] := by
    have g : DataW.trod enc Tryz.prog w 0 (fun _ => true) true m 3 ((cs.drop 0).take (Tryz.prog.cellsOf 3)) = xs[0]? := hel 0 _ rfl
    rw [cells3, List.getElem?_eq_getElem (by omega)] at g
    exact g
  obtain ⟨f0, e0, b0⟩ := op3 g0
  have g1 : Td enc w m 3 ((cs.drop 1).take 1) xs[1] := by
    have g : DataW.trod enc Tryz.prog w 0 (fun _ => true) true m 3 ((cs.drop 1).take (Tryz.prog.cellsOf 3)) = xs[1]? := hel 1 _ rfl
    rw [cells3, List.getElem?_eq_getElem (by omega)] at g
    exact g
  obtain ⟨f1, e1, b1⟩ := op3 g1
  have g2 : Td enc w m 3 ((cs.drop 2).take 1) xs[2] := by
    have g : DataW.trod enc Tryz.prog w 0 (fun _ => true) true m 3 ((cs.drop 2).take (Tryz.prog.cellsOf 3)) = xs[2]? := hel 2 _ rfl
    rw [cells3, List.getElem?_eq_getElem (by omega)] at g
    exact g
  obtain ⟨f2, e2, b2⟩ := op3 g2
  have g3 : Td enc w m 3 ((cs.drop 3).take 1) xs[3] := by
    have g : DataW.trod enc Tryz.prog w 0 (fun _ => true) true m 3 ((cs.drop 3).take (Tryz.prog.cellsOf 3)) = xs[3]? := hel 3 _ rfl
    rw [cells3, List.getElem?_eq_getElem (by omega)] at g
    exact g
  obtain ⟨f3, e3, b3⟩ := op3 g3
  have g4 : Td enc w m 3 ((cs.drop 4).take 1) xs[4] := by
    have g : DataW.trod enc Tryz.prog w 0 (fun _ => true) true m 3 ((cs.drop 4).take (Tryz.prog.cellsOf 3)) = xs[4]? := hel 4 _ rfl
    rw [cells3, List.getElem?_eq_getElem (by omega)] at g
    exact g
  obtain ⟨f4, e4, b4⟩ := op3 g4
  have g5 : Td enc w m 3 ((cs.drop 5).take 1) xs[5] := by
    have g : DataW.trod enc Tryz.prog w 0 (fun _ => true) true m 3 ((cs.drop 5).take (Tryz.prog.cellsOf 3)) = xs[5]? := hel 5 _ rfl
    rw [cells3, List.getElem?_eq_getElem (by omega)] at g
    exact g
  obtain ⟨f5, e5, b5⟩ := op3 g5
  have g6 : Td enc w m 3 ((cs.drop 6).take 1) xs[6] := by
    have g : DataW.trod enc Tryz.prog w 0 (fun _ => true) true m 3 ((cs.drop 6).take (Tryz.prog.cellsOf 3)) = xs[6]? := hel 6 _ rfl
    rw [cells3, List.getElem?_eq_getElem (by omega)] at g
    exact g
  obtain ⟨f6, e6, b6⟩ := op3 g6
  have g7 : Td enc w m 3 ((cs.drop 7).take 1) xs[7] := by
    have g : DataW.trod enc Tryz.prog w 0 (fun _ => true) true m 3 ((cs.drop 7).take (Tryz.prog.cellsOf 3)) = xs[7]? := hel 7 _ rfl
    rw [cells3, List.getElem?_eq_getElem (by omega)] at g
    exact g
  obtain ⟨f7, e7, b7⟩ := op3 g7
  have g8 : Td enc w m 3 ((cs.drop 8).take 1) xs[8] := by
    have g : DataW.trod enc Tryz.prog w 0 (fun _ => true) true m 3 ((cs.drop 8).take (Tryz.prog.cellsOf 3)) = xs[8]? := hel 8 _ rfl
    rw [cells3, List.getElem?_eq_getElem (by omega)] at g
    exact g
  obtain ⟨f8, e8, b8⟩ := op3 g8
  have g9 : Td enc w m 3 ((cs.drop 9).take 1) xs[9] := by
    have g : DataW.trod enc Tryz.prog w 0 (fun _ => true) true m 3 ((cs.drop 9).take (Tryz.prog.cellsOf 3)) = xs[9]? := hel 9 _ rfl
    rw [cells3, List.getElem?_eq_getElem (by omega)] at g
    exact g
  obtain ⟨f9, e9, b9⟩ := op3 g9
  have g10 : Td enc w m 3 ((cs.drop 10).take 1) xs[10] := by
    have g : DataW.trod enc Tryz.prog w 0 (fun _ => true) true m 3 ((cs.drop 10).take (Tryz.prog.cellsOf 3)) = xs[10]? := hel 10 _ rfl
    rw [cells3, List.getElem?_eq_getElem (by omega)] at g
    exact g
  obtain ⟨f10, e10, b10⟩ := op3 g10
  have g11 : Td enc w m 3 ((cs.drop 11).take 1) xs[11] := by
    have g : DataW.trod enc Tryz.prog w 0 (fun _ => true) true m 3 ((cs.drop 11).take (Tryz.prog.cellsOf 3)) = xs[11]? := hel 11 _ rfl
    rw [cells3, List.getElem?_eq_getElem (by omega)] at g
    exact g
  obtain ⟨f11, e11, b11⟩ := op3 g11
  have g12 : Td enc w m 3 ((cs.drop 12).take 1) xs[12] := by
    have g : DataW.trod enc Tryz.prog w 0 (fun _ => true) true m 3 ((cs.drop 12).take (Tryz.prog.cellsOf 3)) = xs[12]? := hel 12 _ rfl
    rw [cells3, List.getElem?_eq_getElem (by omega)] at g
    exact g
  obtain ⟨f12, e12, b12⟩ := op3 g12
  have g13 : Td enc w m 3 ((cs.drop 13).take 1) xs[13] := by
    have g : DataW.trod enc Tryz.prog w 0 (fun _ => true) true m 3 ((cs.drop 13).take (Tryz.prog.cellsOf 3)) = xs[13]? := hel 13 _ rfl
    rw [cells3, List.getElem?_eq_getElem (by omega)] at g
    exact g
  obtain ⟨f13, e13, b13⟩ := op3 g13
  have g14 : Td enc w m 4 ((cs.drop 14).take 1) xs[14] := by
    have g : DataW.trod enc Tryz.prog w 0 (fun _ => true) true m 4 ((cs.drop 14).take (Tryz.prog.cellsOf 4)) = xs[14]? := hel 14 _ rfl
    rw [cells4, List.getElem?_eq_getElem (by omega)] at g
    exact g
  obtain ⟨f14, e14⟩ := op4 g14
  have g15 : Td enc w m 3 ((cs.drop 15).take 1) xs[15] := by
    have g : DataW.trod enc Tryz.prog w 0 (fun _ => true) true m 3 ((cs.drop 15).take (Tryz.prog.cellsOf 3)) = xs[15]? := hel 15 _ rfl
    rw [cells3, List.getElem?_eq_getElem (by omega)] at g
    exact g
  obtain ⟨f15, e15, b15⟩ := op3 g15
  have g16 : Td enc w m 9 ((cs.drop 16).take 1) xs[16] := by
    have g : DataW.trod enc Tryz.prog w 0 (fun _ => true) true m 9 ((cs.drop 16).take (Tryz.prog.cellsOf 9)) = xs[16]? := hel 16 _ rfl
    rw [cells9, List.getElem?_eq_getElem (by omega)] at g
    exact g
  have q16 : Wok 9 xs[16].1 := wok_each hw' 16 _ _ rfl (by rw [List.getElem?_map, List.getElem?_eq_getElem (by omega)]; rfl)
  obtain ⟨f16, e16, b16⟩ := op9 g16 q16
  have g17 : Td enc w m 9 ((cs.drop 17).take 1) xs[17] := by
    have g : DataW.trod enc Tryz.prog w 0 (fun _ => true) true m 9 ((cs.drop 17).take (Tryz.prog.cellsOf 9)) = xs[17]? := hel 17 _ rfl
    rw [cells9, List.getElem?_eq_getElem (by omega)] at g
    exact g
  have q17 : Wok 9 xs[17].1 := wok_each hw' 17 _ _ rfl (by rw [List.getElem?_map, List.getElem?_eq_getElem (by omega)]; rfl)
  obtain ⟨f17, e17, b17⟩ := op9 g17 q17
  have g18 : Td enc w m 3 ((cs.drop 18).take 1) xs[18] := by
    have g : DataW.trod enc Tryz.prog w 0 (fun _ => true) true m 3 ((cs.drop 18).take (Tryz.prog.cellsOf 3)) = xs[18]? := hel 18 _ rfl
    rw [cells3, List.getElem?_eq_getElem (by omega)] at g
    exact g
  obtain ⟨f18, e18, b18⟩ := op3 g18
  have g19 : Td enc w m 3 ((cs.drop 19).take 1) xs[19] := by
    have g : DataW.trod enc Tryz.prog w 0 (fun _ => true) true m 3 ((cs.drop 19).take (Tryz.prog.cellsOf 3)) = xs[19]? := hel 19 _ rfl
    rw [cells3, List.getElem?_eq_getElem (by omega)] at g
    exact g
  obtain ⟨f19, e19, b19⟩ := op3 g19
  have g20 : Td enc w m 4 ((cs.drop 20).take 1) xs[20] := by
    have g : DataW.trod enc Tryz.prog w 0 (fun _ => true) true m 4 ((cs.drop 20).take (Tryz.prog.cellsOf 4)) = xs[20]? := hel 20 _ rfl
    rw [cells4, List.getElem?_eq_getElem (by omega)] at g
    exact g
  obtain ⟨f20, e20⟩ := op4 g20
  have ee : cs.drop 0 = [.int .i64 f0] ++ ([.int .i64 f1] ++ ([.int .i64 f2] ++ ([.int .i64 f3] ++ ([.int .i64 f4] ++ ([.int .i64 f5] ++ ([.int .i64 f6] ++ ([.int .i64 f7] ++ ([.int .i64 f8] ++ ([.int .i64 f9] ++ ([.int .i64 f10] ++ ([.int .i64 f11] ++ ([.int .i64 f12] ++ ([.int .i64 f13] ++ ([.bool f14] ++ ([.int .i64 f15] ++ ([.string f16] ++ ([.string f17] ++ ([.int .i64 f18] ++ ([.int .i64 f19] ++ ([.bool f20] ++ [])))))))))))))))))))) := by
    rw [cut_list cs 0 1 1 rfl, e0, cut_list cs 1 1 2 rfl, e1, cut_list cs 2 1 3 rfl, e2, cut_list cs 3 1 4 rfl, e3, cut_list cs 4 1 5 rfl, e4, cut_list cs 5 1 6 rfl, e5, cut_list cs 6 1 7 rfl, e6, cut_list cs 7 1 8 rfl, e7, cut_list cs 8 1 9 rfl, e8, cut_list cs 9 1 10 rfl, e9, cut_list cs 10 1 11 rfl, e10, cut_list cs 11 1 12 rfl, e11, cut_list cs 12 1 13 rfl, e12, cut_list cs 13 1 14 rfl, e13, cut_list cs 14 1 15 rfl, e14, cut_list cs 15 1 16 rfl, e15, cut_list cs 16 1 17 rfl, e16, cut_list cs 17 1 18 rfl, e17, cut_list cs 18 1 19 rfl, e18, cut_list cs 19 1 20 rfl, e19, cut_list cs 20 1 21 rfl, e20, show cs.drop 21 = [] from List.drop_eq_nil_of_le (by omega)]
  rw [List.drop_zero] at ee
  exact ⟨⟨f0, f1, f2, f3, f4, f5, f6, f7, f8, f9, f10, f11, f12, f13, f14, f15, f16, f17, f18, f19, f20⟩, ee, ⟨b0, b1, b2, b3, b4, b5, b6, b7, b8, b9, b10, b11, b12, b13, b15, b16, b17, b18, b19⟩⟩

theorem op32 (h : Td enc w n 32 cs x) (hw : Wok 32 x.1) : ∃ (A : Option Addr) (cap : Nat) (ys : List Gr), cs = [.slice A ys.length cap] ∧ ys.length ≤ cap ∧ cap ≤ 140737488351232 ∧ (∀ y ∈ ys, y.who.size ≤ 140737488351232 ∧ I64 y.level) ∧ Sl Gr.cells 3 w A ys ∧ (A = none → cap = 0) :=
  open_sl Gr.cells (fun g => g.who.size ≤ 140737488351232 ∧ I64 g.level) Tryz.underlying32 cells51 (by decide) bytes51 h hw (fun n cs y h hw => op51 h hw)
/-- An entry's numbers and texts are such as the machine bears. -/
structure Eb (e : E) : Prop where
  kind : I64 e.kind
  name : e.name.size ≤ 140737488351232
  ds : DSb e.ds
  altl : e.alt.length ≤ 140737488351232
  alt : ∀ y ∈ e.alt, I64 y
  used : I64 e.used
  limit : I64 e.limit
  last : I64 e.last
  owner : e.owner.size ≤ 140737488351232
  target : e.target.size ≤ 140737488351232
  catalog : I64 e.catalog
  level : I64 e.level
  grl : e.grants.length ≤ 140737488351232
  grants : ∀ y ∈ e.grants, y.who.size ≤ 140737488351232 ∧ I64 y.level

set_option maxRecDepth 100000 in
theorem op34 (h : Td enc w n 34 cs x) (hw : Wok 34 x.1) : ∃ (e : E) (va vg : Value), cs = (e.cells va vg).toList ∧ Eb e ∧ EntAt w e va vg := by
  obtain ⟨xs, m, rfl, rfl, hl, hxs, hel⟩ := DataW.trod_struct Tryz.underlying34 h
  have hw' : (DataW.weightsEach Tryz.prog [3, 9, 31, 22, 3, 3, 3, 4, 9, 9, 3, 3, 32] (xs.map (·.1))).all (fun n => decide (n ≤ reachBytes)) = true := by
    unfold Wok at hw
    unfold DataW.weights at hw
    rw [Tryz.underlying34] at hw
    exact hw
  rw [cells34] at hl
  replace hxs : xs.length = 13 := hxs
  have g0 : Td enc w m 3 ((cs.drop 0).take 1) xs[0] := by
    have g : DataW.trod enc Tryz.prog w 0 (fun _ => true) true m 3 ((cs.drop 0).take (Tryz.prog.cellsOf 3)) = xs[0]? := hel 0 _ rfl
    rw [cells3, List.getElem?_eq_getElem (by omega)] at g
    exact g
  obtain ⟨f0, e0, b0⟩ := op3 g0
  have g1 : Td enc w m 9 ((cs.drop 1).take 1) xs[1] := by
    have g : DataW.trod enc Tryz.prog w 0 (fun _ => true) true m 9 ((cs.drop 1).take (Tryz.prog.cellsOf 9)) = xs[1]? := hel 1 _ rfl
    rw [cells9, List.getElem?_eq_getElem (by omega)] at g
    exact g
  have q1 : Wok 9 xs[1].1 := wok_each hw' 1 _ _ rfl (by rw [List.getElem?_map, List.getElem?_eq_getElem (by omega)]; rfl)
  obtain ⟨f1, e1, b1⟩ := op9 g1 q1
  have g2 : Td enc w m 31 ((cs.drop 2).take 21) xs[2] := by
    have g : DataW.trod enc Tryz.prog w 0 (fun _ => true) true m 31 ((cs.drop 2).take (Tryz.prog.cellsOf 31)) = xs[2]? := hel 2 _ rfl
    rw [cells31, List.getElem?_eq_getElem (by omega)] at g
    exact g
  have q2 : Wok 31 xs[2].1 := wok_each hw' 2 _ _ rfl (by rw [List.getElem?_map, List.getElem?_eq_getElem (by omega)]; rfl)
  obtain ⟨f2, e2, b2⟩ := op31 g2 q2
  have g3 : Td enc w m 22 ((cs.drop 23).take 1) xs[3] := by
    have g : DataW.trod enc Tryz.prog w 0 (fun _ => true) true m 22 ((cs.drop 23).take (Tryz.prog.cellsOf 22)) = xs[3]? := hel 3 _ rfl
    rw [cells22, List.getElem?_eq_getElem (by omega)] at g
    exact g
  have q3 : Wok 22 xs[3].1 := wok_each hw' 3 _ _ rfl (by rw [List.getElem?_map, List.getElem?_eq_getElem (by omega)]; rfl)
  obtain ⟨A3, c3, f3, e3, le3, b3, p3, s3, z3⟩ := op22 g3 q3
  have g4 : Td enc w m 3 ((cs.drop 24).take 1) xs[4] := by
    have g : DataW.trod enc Tryz.prog w 0 (fun _ => true) true m 3 ((cs.drop 24).take (Tryz.prog.cellsOf 3)) = xs[4]? := hel 4 _ rfl
    rw [cells3, List.getElem?_eq_getElem (by omega)] at g
    exact g
  obtain ⟨f4, e4, b4⟩ := op3 g4
  have g5 : Td enc w m 3 ((cs.drop 25).take 1) xs[5] := by
    have g : DataW.trod enc Tryz.prog w 0 (fun _ => true) true m 3 ((cs.drop 25).take (Tryz.prog.cellsOf 3)) = xs[5]? := hel 5 _ rfl
    rw [cells3, List.getElem?_eq_getElem (by omega)] at g
    exact g
  obtain ⟨f5, e5, b5⟩ := op3 g5
  have g6 : Td enc w m 3 ((cs.drop 26).take 1) xs[6] := by
    have g : DataW.trod enc Tryz.prog w 0 (fun _ => true) true m 3 ((cs.drop 26).take (Tryz.prog.cellsOf 3)) = xs[6]? := hel 6 _ rfl
    rw [cells3, List.getElem?_eq_getElem (by omega)] at g
    exact g
  obtain ⟨f6, e6, b6⟩ := op3 g6
  have g7 : Td enc w m 4 ((cs.drop 27).take 1) xs[7] := by
    have g : DataW.trod enc Tryz.prog w 0 (fun _ => true) true m 4 ((cs.drop 27).take (Tryz.prog.cellsOf 4)) = xs[7]? := hel 7 _ rfl
    rw [cells4, List.getElem?_eq_getElem (by omega)] at g
    exact g
  obtain ⟨f7, e7⟩ := op4 g7
  have g8 : Td enc w m 9 ((cs.drop 28).take 1) xs[8] := by
    have g : DataW.trod enc Tryz.prog w 0 (fun _ => true) true m 9 ((cs.drop 28).take (Tryz.prog.cellsOf 9)) = xs[8]? := hel 8 _ rfl
    rw [cells9, List.getElem?_eq_getElem (by omega)] at g
    exact g
  have q8 : Wok 9 xs[8].1 := wok_each hw' 8 _ _ rfl (by rw [List.getElem?_map, List.getElem?_eq_getElem (by omega)]; rfl)
  obtain ⟨f8, e8, b8⟩ := op9 g8 q8
  have g9 : Td enc w m 9 ((cs.drop 29).take 1) xs[9] := by
    have g : DataW.trod enc Tryz.prog w 0 (fun _ => true) true m 9 ((cs.drop 29).take (Tryz.prog.cellsOf 9)) = xs[9]? := hel 9 _ rfl
    rw [cells9, List.getElem?_eq_getElem (by omega)] at g
    exact g
  have q9 : Wok 9 xs[9].1 := wok_each hw' 9 _ _ rfl (by rw [List.getElem?_map, List.getElem?_eq_getElem (by omega)]; rfl)
  obtain ⟨f9, e9, b9⟩ := op9 g9 q9
  have g10 : Td enc w m 3 ((cs.drop 30).take 1) xs[10] := by
    have g : DataW.trod enc Tryz.prog w 0 (fun _ => true) true m 3 ((cs.drop 30).take (Tryz.prog.cellsOf 3)) = xs[10]? := hel 10 _ rfl
    rw [cells3, List.getElem?_eq_getElem (by omega)] at g
    exact g
  obtain ⟨f10, e10, b10⟩ := op3 g10
  have g11 : Td enc w m 3 ((cs.drop 31).take 1) xs[11] := by
    have g : DataW.trod enc Tryz.prog w 0 (fun _ => true) true m 3 ((cs.drop 31).take (Tryz.prog.cellsOf 3)) = xs[11]? := hel 11 _ rfl
    rw [cells3, List.getElem?_eq_getElem (by omega)] at g
    exact g
  obtain ⟨f11, e11, b11⟩ := op3 g11
  have g12 : Td enc w m 32 ((cs.drop 32).take 1) xs[12] := by
    have g : DataW.trod enc Tryz.prog w 0 (fun _ => true) true m 32 ((cs.drop 32).take (Tryz.prog.cellsOf 32)) = xs[12]? := hel 12 _ rfl
    rw [cells32, List.getElem?_eq_getElem (by omega)] at g
    exact g
  have q12 : Wok 32 xs[12].1 := wok_each hw' 12 _ _ rfl (by rw [List.getElem?_map, List.getElem?_eq_getElem (by omega)]; rfl)
  obtain ⟨A12, c12, f12, e12, le12, b12, p12, s12, z12⟩ := op32 g12 q12
  have ee : cs.drop 0 = [.int .i64 f0] ++ ([.string f1] ++ (f2.cells.toList ++ ([.slice A3 f3.length c3] ++ ([.int .i64 f4] ++ ([.int .i64 f5] ++ ([.int .i64 f6] ++ ([.bool f7] ++ ([.string f8] ++ ([.string f9] ++ ([.int .i64 f10] ++ ([.int .i64 f11] ++ ([.slice A12 f12.length c12] ++ [])))))))))))) := by
    rw [cut_list cs 0 1 1 rfl, e0, cut_list cs 1 1 2 rfl, e1, cut_list cs 2 21 23 rfl, e2, cut_list cs 23 1 24 rfl, e3, cut_list cs 24 1 25 rfl, e4, cut_list cs 25 1 26 rfl, e5, cut_list cs 26 1 27 rfl, e6, cut_list cs 27 1 28 rfl, e7, cut_list cs 28 1 29 rfl, e8, cut_list cs 29 1 30 rfl, e9, cut_list cs 30 1 31 rfl, e10, cut_list cs 31 1 32 rfl, e11, cut_list cs 32 1 33 rfl, e12, show cs.drop 33 = [] from List.drop_eq_nil_of_le (by omega)]
  rw [List.drop_zero] at ee
  exact ⟨⟨f0, f1, f2, f3, f4, f5, f6, f7, f8, f9, f10, f11, f12⟩, _, _, ee, ⟨b0, b1, b2, Nat.le_trans le3 b3, p3, b4, b5, b6, b8, b9, b10, b11, Nat.le_trans le12 b12, p12⟩, ⟨⟨A3, c3, rfl, le3, s3⟩, ⟨A12, c12, rfl, le12, s12⟩⟩⟩

set_option maxRecDepth 100000 in
theorem op24 (h : Td enc w n 24 cs x) (hw : Wok 24 x.1) : ∃ (base : ByteArray) (last : Int) (A : Option Addr) (c : Nat) (xs : List Int), cs = [.string base, .int .i64 last, .slice A xs.length c] ∧ base.size ≤ 140737488351232 ∧ I64 last ∧ (∀ y ∈ xs, I64 y) ∧ xs.length ≤ c ∧ Sl encI 1 w A xs := by
  obtain ⟨xs, m, rfl, rfl, hl, hxs, hel⟩ := DataW.trod_struct Tryz.underlying24 h
  have hw' : (DataW.weightsEach Tryz.prog [9, 3, 22] (xs.map (·.1))).all (fun n => decide (n ≤ reachBytes)) = true := by
    unfold Wok at hw
    unfold DataW.weights at hw
    rw [Tryz.underlying24] at hw
    exact hw
  rw [cells24] at hl
  replace hxs : xs.length = 3 := hxs
  have g0 : Td enc w m 9 ((cs.drop 0).take 1) xs[0] := by
    have g : DataW.trod enc Tryz.prog w 0 (fun _ => true) true m 9 ((cs.drop 0).take (Tryz.prog.cellsOf 9)) = xs[0]? := hel 0 _ rfl
    rw [cells9, List.getElem?_eq_getElem (by omega)] at g
    exact g
  have q0 : Wok 9 xs[0].1 := wok_each hw' 0 _ _ rfl (by rw [List.getElem?_map, List.getElem?_eq_getElem (by omega)]; rfl)
  obtain ⟨f0, e0, b0⟩ := op9 g0 q0
  have g1 : Td enc w m 3 ((cs.drop 1).take 1) xs[1] := by
    have g : DataW.trod enc Tryz.prog w 0 (fun _ => true) true m 3 ((cs.drop 1).take (Tryz.prog.cellsOf 3)) = xs[1]? := hel 1 _ rfl
    rw [cells3, List.getElem?_eq_getElem (by omega)] at g
    exact g
  obtain ⟨f1, e1, b1⟩ := op3 g1
  have g2 : Td enc w m 22 ((cs.drop 2).take 1) xs[2] := by
    have g : DataW.trod enc Tryz.prog w 0 (fun _ => true) true m 22 ((cs.drop 2).take (Tryz.prog.cellsOf 22)) = xs[2]? := hel 2 _ rfl
    rw [cells22, List.getElem?_eq_getElem (by omega)] at g
    exact g
  have q2 : Wok 22 xs[2].1 := wok_each hw' 2 _ _ rfl (by rw [List.getElem?_map, List.getElem?_eq_getElem (by omega)]; rfl)
  obtain ⟨A2, c2, f2, e2, le2, b2, p2, s2, z2⟩ := op22 g2 q2
  have ee : cs.drop 0 = [.string f0] ++ ([.int .i64 f1] ++ ([.slice A2 f2.length c2] ++ [])) := by
    rw [cut_list cs 0 1 1 rfl, e0, cut_list cs 1 1 2 rfl, e1, cut_list cs 2 1 3 rfl, e2, show cs.drop 3 = [] from List.drop_eq_nil_of_le (by omega)]
  rw [List.drop_zero] at ee
  exact ⟨f0, f1, A2, c2, f2, ee, b0, b1, p2, le2, s2⟩

theorem agg_cells {cs : Array Value} {l : List Value} (h : (Value.agg cs).cells.toList = l) : cs = l.toArray := by
  subst h
  simp [Value.cells]
theorem slice_of {t e : TypeId} {W : World} {r : Reach} {b : Nat} {v : Value} {A : Option Addr} {n c : Nat} (ht : Tryz.prog.underlying t = some (.slice e)) (hv : Value.okWide Tryz.prog W r b t v) (h : v.cells.toList = [.slice A n c]) : v = .slice A n c := by
  obtain ⟨a, l, k, rfl⟩ := okWide_slice ht hv
  simpa [Value.cells] using h
abbrev Own (t : TypeId) : Prop := t < 349
theorem ownClosed : TClosed Tryz.prog Own := by
  have hall : ((List.range 349).all fun t => match Tryz.prog.underlying t with | some d => (subT d).all (fun e => Nat.blt e 349) && (match d with | .slice e => Nat.blt 0 (Tryz.prog.cellsOf e) | _ => true) | _ => true) = true := by kernel_rfl
  intro t d hS ht
  have := List.all_eq_true.1 hall t (List.mem_range.2 hS)
  rw [ht] at this
  simp only [Bool.and_eq_true] at this
  refine ⟨fun e he => ?_, fun e he => ?_⟩
  · have h1 := List.all_eq_true.1 this.1 e he
    simpa [Nat.blt, Nat.succ_le_iff] using h1
  · subst he
    simpa [Nat.blt, Nat.succ_le_iff] using this.2

end Go.Proofs.YtlkkiimmangplaaGreatDoor
