/- A group's entry. -/
import Derived.Test.YtlkkiimmangplaaGreatDoorP8
import Derived.Test.YtlkkiimmangplaaGreatDoorU
import Derived.Test.YtlkkiimmangplaaGreatDoorP1
namespace Go.Proofs.YtlkkiimmangplaaGreatDoor
open Go.RowKit
set_option linter.unusedVariables false
set_option linter.unusedSimpArgs false

theorem slI_row {w0 w : World} {H : List It} {j b : Nat} {cs : Array Value} {xs : List Int} (hs : St w0 H w) (hj : H[j]? = some (.blk b 3 cs)) (hcs : cs = (xs.map (Value.int .i64)).toArray) (hl : xs.length ≤ 140737488351232) : Sl encI 1 w (some ⟨b, 0, none⟩) xs :=
  ⟨hl, fun _ => ⟨b, 0, rfl, fun k x hx i u hu => by
    have hb := (hs.ok j _ hj).2
    cases i with
    | zero =>
      simp [encI] at hu
      subst hu
      rw [cell_blk hb, hcs]
      simp [hx]
    | succ i => simp [encI] at hu⟩⟩
/-- The fields of a group are in their ranges. -/
def groupOK (e : E) : Bool := inB 1 63 [e.limit] && (inB 0 9999 [e.last] && (decide (e.owner = bempty) || wordB e.owner))
def formG : Array Value := #[.int .u8 71, .func (.func 187) #[] #[], .func (.func 196) #[] #[], .func (.func 200) #[] #[]]
def formsEs : Array MapEntry := #[⟨.int .i64 0, .agg #[.int .u8 68, .func (.func 76) #[] #[], .func (.func 194) #[] #[], .func (.func 195) #[] #[]], 0⟩,
  ⟨.int .i64 1, .agg formG, 1⟩, ⟨.int .i64 2, .agg #[.int .u8 65, .func (.func 203) #[] #[], .func (.func 205) #[] #[], .func (.func 206) #[] #[]], 2⟩,
  ⟨.int .i64 3, .agg #[.int .u8 67, .func (.func 207) #[] #[], .func (.func 209) #[] #[], .func (.func 211) #[] #[]], 3⟩,
  ⟨.int .i64 4, .agg #[.int .u8 80, .func (.func 106) #[] #[], .func (.func 212) #[] #[], .func (.func 213) #[] #[]], 4⟩]
theorem owner_eq {s : ByteArray} (h : (s.toList == (⟨#[]⟩ : ByteArray).toList) = true) : decide (s = bempty) = true := by rw [toList_beq] at h; exact h
theorem owner_ne {s : ByteArray} (h : (s.toList == (⟨#[]⟩ : ByteArray).toList) = false) : decide (s = bempty) = false := by rw [toList_beq] at h; exact h

set_option maxRecDepth 100000 in
theorem groupOK_any (e : E) (va vg : Value) (w : World) (hg : Good w) :
    Calls Tryz.prog 200 #[.agg (e.cells va vg)] w (RetV w (.bool (groupOK e))) := by
  refine enter Tryz.func200 rfl Tryz.ntmps200 rfl ?_
  refine WC.seq ?_
  refine WC.region ?_
  refine WL.box rfl rfl rfl (fun b1 => ?_)
  refine WL.p rfl rfl rfl (P.assign rfl) ?_
  refine WL.nil_ ?_
  refine End.seq ?_
  refine WC.seq ?_
  refine WC.region ?_
  refine WL.p rfl rfl rfl (P.fieldAddr fa_34_5 rfl) ?_
  refine WL.p rfl rfl rfl (P.loadO 0 Tryz.isAgg3 rfl rfl rfl) ?_
  refine WL.row Tryz.underlying22 Tryz.sizeOf3 Tryz.zeroValue3 rfl rfl rfl rfl rfl rfl rfl rfl rfl (fun b5 => ?_)
  refine WL.callv (ent_of Tryz.func201 rfl rfl) rfl rfl rfl (fun w hs => within_any 1 63 _ _ [e.limit] w (slI_row hs (j := 0) rfl rfl (by simp))) ?_
  refine WL.p rfl rfl rfl (P.move rfl) ?_
  refine WL.split 7 rfl (fun hs7 => ?_) (fun hs7 => ?_)
  ·
    refine WL.p rfl rfl rfl (P.fieldAddr fa_34_6 rfl) ?_
    refine WL.p rfl rfl rfl (P.loadO 1 Tryz.isAgg3 rfl rfl rfl) ?_
    refine WL.row Tryz.underlying22 Tryz.sizeOf3 Tryz.zeroValue3 rfl rfl rfl rfl rfl rfl rfl rfl rfl (fun b10 => ?_)
    refine WL.callv (ent_of Tryz.func201 rfl rfl) rfl rfl rfl (fun w hs => within_any 0 9999 _ _ [e.last] w (slI_row hs (j := 0) rfl rfl (by simp))) ?_
    refine WL.p rfl rfl rfl (P.pickT rfl rfl) ?_
    refine WL.p rfl rfl rfl (P.move rfl) ?_
    refine WL.split 13 rfl (fun hs13 => ?_) (fun hs13 => ?_)
    ·
      refine WL.p rfl rfl rfl (P.fieldAddr fa_34_8 rfl) ?_
      refine WL.p rfl rfl rfl (P.loadO 2 Tryz.isAgg9 rfl rfl rfl) ?_
      refine WL.p rfl rfl rfl (P.cmps rfl rfl rfl) ?_
      refine WL.p rfl rfl rfl (P.move rfl) ?_
      refine WL.split 17 rfl (fun hs17 => ?_) (fun hs17 => ?_)
      ·
        refine WL.off rfl rfl ?_
        refine WL.off rfl rfl ?_
        refine WL.off rfl rfl ?_
        refine WL.p rfl rfl rfl (P.pickT rfl rfl) ?_
        refine WL.p rfl rfl rfl (P.pickT rfl rfl) ?_
        refine WL.p rfl rfl rfl (P.assign rfl) ?_
        refine WL.nil_ ?_
        refine End.seq ?_
        refine WC.ret ?_
        refine End.ret1 rfl rfl ?_
        exact fun w' hs' => RetV.of (by rw [groupOK, hs7, hs13, owner_eq hs17]; rfl) hs'
      ·
        refine WL.p rfl rfl rfl (P.fieldAddr fa_34_8 rfl) ?_
        refine WL.p rfl rfl rfl (P.loadO 2 Tryz.isAgg9 rfl rfl rfl) ?_
        refine WL.callv (ent_of Tryz.func202 rfl rfl) rfl rfl rfl (fun w hs => word_any e.owner w (hg.st hs)) ?_
        refine WL.p rfl rfl rfl (P.pickF rfl rfl) ?_
        refine WL.p rfl rfl rfl (P.pickT rfl rfl) ?_
        refine WL.p rfl rfl rfl (P.assign rfl) ?_
        refine WL.nil_ ?_
        refine End.seq ?_
        refine WC.ret ?_
        refine End.ret1 rfl rfl ?_
        exact fun w' hs' => RetV.of (by rw [groupOK, hs7, hs13, owner_ne hs17]; rfl) hs'
    ·
      refine WL.off rfl rfl ?_
      refine WL.off rfl rfl ?_
      refine WL.off rfl rfl ?_
      refine WL.off rfl rfl ?_
      refine WL.offU rfl rfl ?_
      refine WL.offU rfl rfl ?_
      refine WL.offU rfl rfl ?_
      refine WL.off rfl rfl ?_
      refine WL.p rfl rfl rfl (P.pickF rfl rfl) ?_
      refine WL.p rfl rfl rfl (P.assign rfl) ?_
      refine WL.nil_ ?_
      refine End.seq ?_
      refine WC.ret ?_
      refine End.ret1 rfl rfl ?_
      exact fun w' hs' => RetV.of (by rw [groupOK, hs7, hs13]; rfl) hs'
  ·
    refine WL.off rfl rfl ?_
    refine WL.off rfl rfl ?_
    refine WL.off rfl rfl ?_
    refine WL.off rfl rfl ?_
    refine WL.p rfl rfl rfl (P.pickF rfl rfl) ?_
    refine WL.p rfl rfl rfl (P.move rfl) ?_
    refine WL.off rfl rfl ?_
    refine WL.off rfl rfl ?_
    refine WL.off rfl rfl ?_
    refine WL.off rfl rfl ?_
    refine WL.offU rfl rfl ?_
    refine WL.offU rfl rfl ?_
    refine WL.offU rfl rfl ?_
    refine WL.off rfl rfl ?_
    refine WL.p rfl rfl rfl (P.pickF rfl rfl) ?_
    refine WL.p rfl rfl rfl (P.assign rfl) ?_
    refine WL.nil_ ?_
    refine End.seq ?_
    refine WC.ret ?_
    refine End.ret1 rfl rfl ?_
    exact fun w' hs' => RetV.of (by rw [groupOK, hs7]; rfl) hs'

set_option maxRecDepth 100000 in
theorem forms_any  (w : World) :
    Calls Tryz.prog 114 #[] w (Ret w (fun _ : Nat => True) (fun b => .map (some b)) (fun b => [.map b formsEs 5])) := by
  refine enter Tryz.func114 rfl Tryz.ntmps114 rfl ?_
  refine WC.seq ?_
  refine WC.region ?_
  refine WL.p rfl rfl rfl (P.assign rfl) ?_
  refine WL.nil_ ?_
  refine End.seq ?_
  refine WC.seq ?_
  refine WC.region ?_
  refine WL.makeMap rfl rfl (fun b1 => ?_)
  refine WL.p rfl rfl rfl (P.build rfl (fun w => bo_128 Tryz.zeroValue128 (cs := #[_, _, _, _]) rfl rfl w)) ?_
  refine WL.insert 0 Tryz.underlying130 Tryz.underlying3 (by simp [MapKept.IsKey]) rfl rfl rfl rfl rfl rfl ?_
  refine WL.p rfl rfl rfl (P.build rfl (fun w => bo_128 Tryz.zeroValue128 (cs := #[_, _, _, _]) rfl rfl w)) ?_
  refine WL.insert 0 Tryz.underlying130 Tryz.underlying3 (by simp [MapKept.IsKey]) rfl rfl rfl rfl rfl rfl ?_
  refine WL.p rfl rfl rfl (P.build rfl (fun w => bo_128 Tryz.zeroValue128 (cs := #[_, _, _, _]) rfl rfl w)) ?_
  refine WL.insert 0 Tryz.underlying130 Tryz.underlying3 (by simp [MapKept.IsKey]) rfl rfl rfl rfl rfl rfl ?_
  refine WL.p rfl rfl rfl (P.build rfl (fun w => bo_128 Tryz.zeroValue128 (cs := #[_, _, _, _]) rfl rfl w)) ?_
  refine WL.insert 0 Tryz.underlying130 Tryz.underlying3 (by simp [MapKept.IsKey]) rfl rfl rfl rfl rfl rfl ?_
  refine WL.p rfl rfl rfl (P.build rfl (fun w => bo_128 Tryz.zeroValue128 (cs := #[_, _, _, _]) rfl rfl w)) ?_
  refine WL.insert 0 Tryz.underlying130 Tryz.underlying3 (by simp [MapKept.IsKey]) rfl rfl rfl rfl rfl rfl ?_
  refine WL.p rfl rfl rfl (P.move rfl) ?_
  refine WL.p rfl rfl rfl (P.assign rfl) ?_
  refine WL.nil_ ?_
  refine End.seq ?_
  refine WC.ret ?_
  refine End.ret1 rfl rfl ?_
  exact fun w' hs' => ⟨b1, trivial, rfl, hs'⟩

abbrev gb (e : E) : ByteArray := grpOut bempty e.limit e.last e.empty e.owner
theorem inB_one {lo hi x : Int} (h : inB lo hi [x] = true) : lo ≤ x ∧ x ≤ hi := by simpa [inB] using h

set_option maxRecDepth 100000 in
theorem bodyG_any (e : E) (va vg : Value) (w : World) (hl : 0 ≤ e.limit ∧ e.limit < 9223372036854775808) (hl' : 0 ≤ e.last ∧ e.last < 9223372036854775808) (how : e.owner.size < 4294966000) :
    Calls Tryz.prog 140 #[.agg formG, .agg (e.cells va vg)] w (RetV w (.string (gb e))) := by
  refine enter Tryz.func140 rfl Tryz.ntmps140 rfl ?_
  refine WC.seq ?_
  refine WC.region ?_
  refine WL.box rfl rfl rfl (fun b2 => ?_)
  refine WL.box rfl rfl rfl (fun b3 => ?_)
  refine WL.p rfl rfl rfl (P.assign rfl) ?_
  refine WL.nil_ ?_
  refine End.seq ?_
  refine WC.seq ?_
  refine WC.region ?_
  refine WL.p rfl rfl rfl (P.build rfl (fun w => bo_155 Tryz.zeroValue155 (cs := #[_, _]) rfl rfl w)) ?_
  refine WL.box rfl rfl rfl (fun b7 => ?_)
  refine WL.p rfl rfl rfl (P.assign rfl) ?_
  refine WL.nil_ ?_
  refine End.seq ?_
  refine WC.seq ?_
  refine WC.region ?_
  refine WL.p rfl rfl rfl (P.fieldAddr fa_128_2 rfl) ?_
  refine WL.p rfl rfl rfl (P.loadO 2 Tryz.isAgg126 rfl rfl rfl) ?_
  refine WL.p rfl rfl rfl (P.move rfl) ?_
  refine WL.callco (H' := _) (ent_of Tryz.func196 rfl rfl) rfl rfl rfl rfl (fun w hs => by rw [Array.append_empty]; exact group_w b7 b3 bempty _ e.limit e.last e.empty e.owner _ w _ hs rfl rfl rfl rfl hl hl' (by decide) (by omega)) ?_
  refine WL.nil_ ?_
  refine End.seq ?_
  refine WC.seq ?_
  refine WC.region ?_
  refine WL.p rfl rfl rfl (P.move rfl) ?_
  refine WL.p rfl rfl rfl (P.nilCheck rfl) ?_
  refine WL.p rfl rfl rfl (P.fieldAddr fa_155_0 rfl) ?_
  refine WL.p rfl rfl rfl (P.loadO 0 Tryz.isAgg9 rfl rfl rfl) ?_
  refine WL.p rfl rfl rfl (P.assign rfl) ?_
  refine WL.nil_ ?_
  refine End.seq ?_
  refine WC.ret ?_
  refine End.ret1 rfl rfl ?_
  exact fun w' hs' => RetV.of rfl hs'

set_option maxRecDepth 100000 in
theorem open_ro (r : Nat) (x : Rd) (w : World) (h0 : w.cell? ⟨r, 0, none⟩ = some (.string x.1)) (h1 : w.cell? ⟨r, 1, none⟩ = some (.int .i64 x.2)) :
    Calls Tryz.prog 231 #[.pointer (some ⟨r, 0, none⟩)] w (RetV w (.bool (decide (x.2 = 0 ∧ x.1 ≠ bempty)))) := by
  refine enter Tryz.func231 rfl Tryz.ntmps231 rfl ?_
  refine WC.seq ?_
  refine WC.region ?_
  refine WL.p rfl rfl rfl (P.assign rfl) ?_
  refine WL.nil_ ?_
  refine End.seq ?_
  refine WC.seq ?_
  refine WC.region ?_
  refine WL.p rfl rfl rfl (P.move rfl) ?_
  refine WL.p rfl rfl rfl (P.nilCheck rfl) ?_
  refine WL.p rfl rfl rfl (P.fieldAddr fa_244_1 rfl) ?_
  refine WL.p rfl rfl rfl (P.loadB Tryz.isAgg26 rfl h1) ?_
  refine WL.p rfl rfl rfl (P.cmp rfl rfl rfl) ?_
  refine WL.p rfl rfl rfl (P.move rfl) ?_
  refine WL.split 8 rfl (fun hs8 => ?_) (fun hs8 => ?_)
  ·
    try simp only [decide_eq_true_eq, decide_eq_false_iff_not, beq_iff_eq, beq_eq_false_iff_ne, bne_iff_ne, bne_eq_false_iff_eq, Bool.not_eq_true', Bool.not_eq_false', ne_eq, Int.not_lt, Int.not_le] at hs8
    refine WL.p rfl rfl rfl (P.move rfl) ?_
    refine WL.p rfl rfl rfl (P.nilCheck rfl) ?_
    refine WL.p rfl rfl rfl (P.fieldAddr fa_244_0 rfl) ?_
    refine WL.p rfl rfl rfl (P.loadB Tryz.isAgg9 rfl h0) ?_
    refine WL.p rfl rfl rfl (P.cmps rfl rfl rfl) ?_
    refine WL.p rfl rfl rfl (P.pickT rfl rfl) ?_
    refine WL.p rfl rfl rfl (P.assign rfl) ?_
    refine WL.nil_ ?_
    refine End.seq ?_
    refine WC.ret ?_
    refine End.ret1 rfl rfl ?_
    exact fun w' hs' => RetV.of (by congr 1; rw [Bool.eq_iff_iff]; simp [hs8, toList_nil]) hs'
  ·
    try simp only [decide_eq_true_eq, decide_eq_false_iff_not, beq_iff_eq, beq_eq_false_iff_ne, bne_iff_ne, bne_eq_false_iff_eq, Bool.not_eq_true', Bool.not_eq_false', ne_eq, Int.not_lt, Int.not_le] at hs8
    refine WL.off rfl rfl ?_
    refine WL.off rfl rfl ?_
    refine WL.off rfl rfl ?_
    refine WL.off rfl rfl ?_
    refine WL.off rfl rfl ?_
    refine WL.p rfl rfl rfl (P.pickF rfl rfl) ?_
    refine WL.p rfl rfl rfl (P.assign rfl) ?_
    refine WL.nil_ ?_
    refine End.seq ?_
    refine WC.ret ?_
    refine End.ret1 rfl rfl ?_
    exact fun w' hs' => RetV.of (by congr 1; rw [Bool.eq_iff_iff]; simp [hs8]) hs'

set_option maxRecDepth 100000 in
theorem end_ro (r : Nat) (x : Rd) (w : World) (h0 : w.cell? ⟨r, 0, none⟩ = some (.string x.1)) (h1 : w.cell? ⟨r, 1, none⟩ = some (.int .i64 x.2)) :
    Calls Tryz.prog 144 #[.pointer (some ⟨r, 0, none⟩)] w (RetV w (.int .i64 x.end_)) := by
  refine enter Tryz.func144 rfl Tryz.ntmps144 rfl ?_
  refine WC.seq ?_
  refine WC.region ?_
  refine WL.p rfl rfl rfl (P.assign rfl) ?_
  refine WL.nil_ ?_
  refine End.seq ?_
  refine WC.seq ?_
  refine WC.region ?_
  refine WL.p rfl rfl rfl (P.move rfl) ?_
  refine WL.p rfl rfl rfl (P.makeBound rfl rfl) ?_
  refine WL.p rfl rfl rfl (P.assign rfl) ?_
  refine WL.nil_ ?_
  refine End.seq ?_
  refine WC.seq ?_
  refine WC.seq ?_
  refine WC.region ?_
  refine WL.p rfl rfl rfl (P.move rfl) ?_
  refine WL.callb (ent_of Tryz.func231 rfl rfl) rfl rfl rfl rfl (fun w hs => (open_ro r x w ((hs.below.cell (World.block_lt_of_cell? _ _ h0)).trans h0) ((hs.below.cell (World.block_lt_of_cell? _ _ h1)).trans h1)).mono fun e w' h => h.mo hs) ?_
  refine WL.nil_ ?_
  refine End.seq ?_
  refine WC.cond rfl (fun hc7 => ?_) (fun hc7 => ?_)
  ·
    try simp only [decide_eq_true_eq, decide_eq_false_iff_not, beq_iff_eq, beq_eq_false_iff_ne, bne_iff_ne, bne_eq_false_iff_eq, Bool.not_eq_true', Bool.not_eq_false', ne_eq, Int.not_lt, Int.not_le] at hc7
    refine WC.seq ?_
    refine WC.region ?_
    refine WL.p rfl rfl rfl (P.assign rfl) ?_
    refine WL.nil_ ?_
    refine End.seq ?_
    refine WC.ret ?_
    refine End.thenR ?_
    refine End.ret1 rfl rfl ?_
    exact fun w' hs' => RetV.of (by rw [Rd.end_, if_pos hc7]) hs'
  ·
    try simp only [decide_eq_true_eq, decide_eq_false_iff_not, beq_iff_eq, beq_eq_false_iff_ne, bne_iff_ne, bne_eq_false_iff_eq, Bool.not_eq_true', Bool.not_eq_false', ne_eq, Int.not_lt, Int.not_le] at hc7
    refine WC.skip ?_
    refine End.seq ?_
    refine WC.seq ?_
    refine WC.region ?_
    refine WL.p rfl rfl rfl (P.move rfl) ?_
    refine WL.p rfl rfl rfl (P.nilCheck rfl) ?_
    refine WL.p rfl rfl rfl (P.fieldAddr fa_244_1 rfl) ?_
    refine WL.p rfl rfl rfl (P.loadB Tryz.isAgg26 rfl h1) ?_
    refine WL.p rfl rfl rfl (P.assign rfl) ?_
    refine WL.nil_ ?_
    refine End.seq ?_
    refine WC.ret ?_
    refine End.ret1 rfl rfl ?_
    exact fun w' hs' => RetV.of (by rw [Rd.end_, if_neg hc7]) hs'

theorem end_st {w0 w : World} {H : List It} {j r : Nat} {x : Rd} (hs : St w0 H w) (hj : H[j]? = some (rdB r x)) : Calls Tryz.prog 144 #[.pointer (some ⟨r, 0, none⟩)] w (RetV w (.int .i64 x.end_)) :=
  end_ro r x w ((cell_blk (hs.ok j _ hj).2).trans rfl) ((cell_blk (hs.ok j _ hj).2).trans rfl)
/-- A group read back from its fields, and the reader behind it. -/
def grpRead (e : E) : E × Rd :=
  ({ E.zero with kind := e.kind, name := e.name, limit := clampN (Rd.num (gb e, 0)).1, last := clampN (Rd.num (gb e, 0)).2.num.1, empty := (Rd.num (gb e, 0)).2.num.2.bool.1, owner := ((Rd.num (gb e, 0)).2.num.2.bool.2.text 200).1 }, ((Rd.num (gb e, 0)).2.num.2.bool.2.text 200).2)
theorem gb_size {e : E} (how : e.owner.size < 4294966000) : (gb e).size < 4294967296 := by
  have h1 := encF_len 9 e.limit
  have h2 := encF_len 9 e.last
  have h3 := encF_len 9 e.owner.size
  have h0 : bempty.size = 0 := rfl
  simp only [gb, grpOut, encText, size_append, strOfNums_size]
  simp
  omega
theorem E.cells_size (e : E) (va vg : Value) : (e.cells va vg).size = 33 := rfl

set_option maxRecDepth 100000 in
theorem bareG_any (e : E) (A A' : Option Addr) (m c m' c' : Nat) (w : World) (hl : 0 ≤ e.limit ∧ e.limit < 9223372036854775808) (hl' : 0 ≤ e.last ∧ e.last < 9223372036854775808) (how : e.owner.size < 4294966000) :
    Calls Tryz.prog 115 #[.agg formG, .agg (e.cells (.slice A m c) (.slice A' m' c'))] w (RetV w (.tuple #[.agg ((grpRead e).1.cells vnil vnil), .bool (decide ((grpRead e).2.end_ = 0))])) := by
  refine enter Tryz.func115 rfl Tryz.ntmps115 rfl ?_
  refine WC.seq ?_
  refine WC.region ?_
  refine WL.box rfl rfl rfl (fun b2 => ?_)
  refine WL.box rfl rfl rfl (fun b3 => ?_)
  refine WL.alloc Tryz.zeroValue34 rfl rfl (fun b4 => ?_)
  refine WL.p rfl rfl rfl (P.assign rfl) ?_
  refine WL.nil_ ?_
  refine End.seq ?_
  refine WC.seq ?_
  refine WC.region ?_
  refine WL.p rfl rfl rfl (P.fieldAddr fa_34_0 rfl) ?_
  refine WL.p rfl rfl rfl (P.loadO 1 Tryz.isAgg3 rfl rfl rfl) ?_
  refine WL.p rfl rfl rfl (P.fieldAddr fa_34_1 rfl) ?_
  refine WL.p rfl rfl rfl (P.loadO 1 Tryz.isAgg9 rfl rfl rfl) ?_
  refine WL.p rfl rfl rfl (P.build rfl (fun w => bo_34 Tryz.zeroValue34 (cs := #[_, _, _, _, _, _, _, _, _, _, _, _, _, _, _, _, _, _, _, _, _, _, _, _, _, _, _, _, _, _, _, _, _]) rfl rfl w)) ?_
  refine WL.alloc Tryz.zeroValue34 rfl rfl (fun b6 => ?_)
  refine WL.storeW 0 Tryz.sizeOf34 rfl rfl rfl rfl rfl rfl rfl ?_
  refine WL.nil_ ?_
  refine End.seq ?_
  refine WC.seq ?_
  refine WC.region ?_
  refine WL.p rfl rfl rfl (P.loadW 3 Tryz.isAgg128 Tryz.sizeOf128 rfl rfl rfl) ?_
  refine WL.p rfl rfl rfl (P.loadW 2 Tryz.isAgg34 Tryz.sizeOf34 rfl rfl rfl) ?_
  refine WL.callv (ent_of Tryz.func140 rfl rfl) rfl rfl rfl (fun w hs => bodyG_any e _ _ w hl hl' how) ?_
  refine WL.callx (ent_of Tryz.func143 rfl rfl) rfl rfl rfl (fun w hs => newReader_any (gb e) w) (fun r _ => ?_)
  refine WL.p rfl rfl rfl (P.build rfl (fun w => bo_155 Tryz.zeroValue155 (cs := #[_, _]) rfl rfl w)) ?_
  refine WL.box rfl rfl rfl (fun b18 => ?_)
  refine WL.p rfl rfl rfl (P.assign rfl) ?_
  refine WL.nil_ ?_
  refine End.seq ?_
  refine WC.seq ?_
  refine WC.region ?_
  refine WL.p rfl rfl rfl (P.fieldAddr fa_128_2 rfl) ?_
  refine WL.p rfl rfl rfl (P.loadO 5 Tryz.isAgg126 rfl rfl rfl) ?_
  refine WL.p rfl rfl rfl (P.move rfl) ?_
  refine WL.callco (H' := (cB b18 bempty (some ⟨r, 0, none⟩) :: rdB r (grpRead e).2 :: .blk b6 34 ((grpRead e).1.cells vnil vnil) :: _)) (ent_of Tryz.func196 rfl rfl) rfl rfl rfl rfl (fun w hs => by rw [Array.append_empty]; exact (group_r r b18 b6 (gb e, 0) bempty _ _ w _ hs.swap2 (gb_size how) rfl).mono fun e w' h => h.swap2) ?_
  refine WL.nil_ ?_
  refine End.seq ?_
  refine WC.seq ?_
  apply WC.draws (al := []) (vs := [_, _, _, _, _, _, _, fun _ => undef, _]) (Hs := fun v HH b s => (bwh (b 7) (cellsOf (v 0 s)) HH 3)) (by kernel_rfl) (by kernel_rfl) (by kernel_rfl)
  case steps =>
    refine Stps.cons (Stp.p (fun b s hd => ⟨_, ⟨rfl, P.loadW 2 Tryz.isAgg34 Tryz.sizeOf34 rfl rfl rfl⟩, rfl, rfl⟩)) ?_
    refine Stps.cons (Stp.p (fun b s hd => ⟨_, ⟨rfl, P.move rfl⟩, rfl, rfl⟩)) ?_
    refine Stps.cons (Stp.p (fun b s hd => ⟨_, ⟨rfl, P.nilCheck rfl⟩, rfl, rfl⟩)) ?_
    refine Stps.cons (Stp.p (fun b s hd => ⟨_, ⟨rfl, P.fieldAddr fa_155_1 rfl⟩, rfl, rfl⟩)) ?_
    refine Stps.cons (Stp.p (fun b s hd => ⟨_, ⟨rfl, P.loadO 0 Tryz.isAgg152 rfl rfl rfl⟩, rfl, rfl⟩)) ?_
    refine Stps.cons (Stp.callv (ent_of Tryz.func144 rfl rfl) (fun b s hd => ⟨_, _, rfl, rfl, fun w hs => end_st hs (j := 1) rfl, rfl, rfl⟩)) ?_
    refine Stps.cons (Stp.p (fun b s hd => ⟨_, ⟨rfl, P.cmp rfl rfl rfl⟩, rfl, rfl⟩)) ?_
    refine Stps.cons (Stp.storeW 3 Tryz.sizeOf34 (fun b s hd => ⟨true, _, _, _, _, _, rfl, rfl, rfl, rfl, rfl, rfl, rfl, rfl, rfl, rfl⟩)) ?_
    refine Stps.cons (Stp.p (fun b s hd => ⟨_, ⟨rfl, P.assign rfl⟩, rfl, rfl⟩)) ?_
    exact Stps.nil
  case h0 => exact fun s => rfl
  case agree => exact AgrAll.nil
  intro s4
  refine End.shape (ρ' := [(0, _), (1, _), (2, _), (3, _), (4, _), (5, _), (6, _), (7, _), (8, _), (9, _), (10, _), (11, _), (12, _), (13, _), (14, _), (15, _), (16, _), (17, _), (18, _), (19, _), (20, _), (21, _), (22, _), (23, _), (24, _), (25, _), (26, _), (27, _), (28, _), (29, _)]) (H' := [_, _, _, .blk _ _ #[_, _, _, _, _, _, _, _, _, _, _, _, _, _, _, _, _, _, _, _, _, _, _, _, _, _, _, _, _, _, _, _, _], _, _]) (Env.sub_cons rfl (Env.sub_cons rfl (Env.sub_cons rfl (Env.sub_cons rfl (Env.sub_cons rfl (Env.sub_cons rfl (Env.sub_cons rfl (Env.sub_cons rfl (Env.sub_cons rfl (Env.sub_cons rfl (Env.sub_cons rfl (Env.sub_cons rfl (Env.sub_cons rfl (Env.sub_cons rfl (Env.sub_cons rfl (Env.sub_cons rfl (Env.sub_cons rfl (Env.sub_cons rfl (Env.sub_cons rfl (Env.sub_cons rfl (Env.sub_cons rfl (Env.sub_cons rfl (Env.sub_cons rfl (Env.sub_cons rfl (Env.sub_cons rfl (Env.sub_cons rfl (Env.sub_cons rfl (Env.sub_cons rfl (Env.sub_cons rfl (Env.sub_cons rfl (Env.sub_nil))))))))))))))))))))))))))))))) rfl ?_
  refine End.seq ?_
  refine WC.ret ?_
  refine End.retCT 3 rfl Tryz.isAgg34 Tryz.sizeOf34 rfl rfl rfl rfl ?_
  exact fun w' hs' => RetV.of rfl hs'

theorem name_size {s : ByteArray} (h : nameB s = true) : s.size ≤ 31 := by
  unfold nameB allB at h
  rw [Bool.and_eq_true, Bool.and_eq_true, decide_eq_true_eq, decide_eq_true_eq] at h
  omega
theorem groupOK_lim {e : E} (h : groupOK e = true) : (0 ≤ e.limit ∧ e.limit < 9223372036854775808) ∧ (0 ≤ e.last ∧ e.last < 9223372036854775808) ∧ e.owner.size < 4294966000 := by
  unfold groupOK at h
  rw [Bool.and_eq_true, Bool.and_eq_true, Bool.or_eq_true, decide_eq_true_eq] at h
  have h1 := inB_one h.1
  have h2 := inB_one h.2.1
  refine ⟨by omega, by omega, ?_⟩
  rcases h.2.2 with h3 | h3
  · rw [h3]; decide
  · unfold wordB at h3
    rw [Bool.and_eq_true] at h3
    have := name_size h3.1
    omega
/-- A group is valid. -/
def groupV (e : E) : Bool := groupB e.name && (groupOK e && (decide ((grpRead e).2.end_ = 0) && decide ((grpRead e).1 = e)))
theorem entNil {w : World} {x : E} (ha : x.alt = []) (hg : x.grants = []) : EntAt w x vnil vnil :=
  ⟨⟨none, 0, by rw [ha]; rfl, by rw [ha]; exact Nat.le_refl _, by rw [ha]; exact Sl.nil _ _ _⟩, ⟨none, 0, by rw [hg]; rfl, by rw [hg]; exact Nat.le_refl _, by rw [hg]; exact Sl.nil _ _ _⟩⟩

set_option maxRecDepth 100000 in
theorem validG_any (e : E) (va vg : Value) (w : World) (hg : Good w) (hk : e.kind = 1) (ha : EntAt w e va vg) :
    Calls Tryz.prog 47 #[.agg (e.cells va vg)] w (RetV w (.bool (groupV e))) := by
  have ha0 := ha
  obtain ⟨⟨A1, c1, rfl, hc1, hr1⟩, ⟨A2, c2, rfl, hc2, hr2⟩⟩ := ha
  refine enter Tryz.func47 rfl Tryz.ntmps47 rfl ?_
  refine WC.seq ?_
  refine WC.region ?_
  refine WL.box rfl rfl rfl (fun b1 => ?_)
  refine WL.p rfl rfl rfl (P.assign rfl) ?_
  refine WL.nil_ ?_
  refine End.seq ?_
  refine WC.seq ?_
  refine WC.nil1 ?_
  refine WC.nil1 ?_
  apply WC.draws (al := [0, 7]) (vs := [fun s => .map (some (s 0).1), _, _, fun _ => .tuple #[.agg formG, .bool true], _, fun _ => .agg formG, _, fun s => .pointer (some ⟨(s 7).1, 0, none⟩), fun _ => undef, _]) (Hs := fun v HH b s => (bnew (b 7) (It.blk (s 7).1 128 (bif b 8 then cellsOf (v 5 s) else #[.int .u8 0, .nilFunc, .nilFunc, .nilFunc])) (bnew (b 0) (It.map (s 0).1 formsEs 5) HH 0) 1)) (by kernel_rfl) (by kernel_rfl) (by kernel_rfl)
  case steps =>
    refine Stps.cons (Stp.callx 0 (ent_of Tryz.func114 rfl rfl) rfl (fun b s hb hd => ⟨_, _, _, _, rfl, rfl, fun w hs => forms_any w, fun q => rfl, ⟨_, rfl⟩, fun q => rfl⟩)) ?_
    refine Stps.cons (Stp.p (fun b s hd => ⟨_, ⟨rfl, P.fieldAddr fa_34_0 rfl⟩, rfl, rfl⟩)) ?_
    refine Stps.cons (Stp.p (fun b s hd => ⟨_, ⟨rfl, P.loadO 2 Tryz.isAgg3 rfl rfl rfl⟩, rfl, rfl⟩)) ?_
    refine Stps.cons (Stp.on [0] (by kernel_rfl) (Stp.p (fun b s hd => ⟨_, ⟨rfl, P.lookup2 0 (key := .int .i64 e.kind) (v := .agg formG) (i := 1) Tryz.underlying130 Tryz.underlying3 (by simp [MapKept.IsKey]) rfl rfl rfl (by rw [hk]; rfl)⟩, rfl, rfl⟩))) ?_
    refine Stps.cons (Stp.p (fun b s hd => ⟨_, ⟨rfl, P.move rfl⟩, rfl, rfl⟩)) ?_
    refine Stps.cons (Stp.p (fun b s hd => ⟨_, ⟨rfl, P.extract rfl rfl⟩, rfl, rfl⟩)) ?_
    refine Stps.cons (Stp.p (fun b s hd => ⟨_, ⟨rfl, P.extract rfl rfl⟩, rfl, rfl⟩)) ?_
    refine Stps.cons (Stp.off [8] (by kernel_rfl) (Stp.alloc 1 Tryz.zeroValue128 rfl (fun b s q => ⟨rfl, rfl, _, rfl, fun hb => rfl⟩))) ?_
    refine Stps.cons (Stp.storeW 1 Tryz.sizeOf128 (fun b s hd => ⟨b 7, _, _, _, _, _, rfl, rfl, rfl, rfl, rfl, rfl, hd 7 (by decide), rfl, rfl, rfl⟩)) ?_
    refine Stps.cons (Stp.p (fun b s hd => ⟨_, ⟨rfl, P.assign rfl⟩, rfl, rfl⟩)) ?_
    exact Stps.nil
  case h0 => exact fun s => rfl
  case agree => exact AgrAll.cons (AgrL.yes (by kernel_rfl) (AgrL.no (fun s x => rfl) (AgrL.no (fun s x => rfl) (AgrL.yes (by kernel_rfl) (AgrL.yes (by kernel_rfl) (AgrL.yes (by kernel_rfl) (AgrL.yes (by kernel_rfl) (AgrL.no (fun s x => rfl) (AgrL.yes (by kernel_rfl) (AgrL.yes (by kernel_rfl) (AgrL.nil))))))))))) (AgrAll.cons (AgrL.no (fun s x => rfl) (AgrL.no (fun s x => rfl) (AgrL.no (fun s x => rfl) (AgrL.no (fun s x => rfl) (AgrL.no (fun s x => rfl) (AgrL.no (fun s x => rfl) (AgrL.no (fun s x => rfl) (AgrL.yes (by kernel_rfl) (AgrL.yes (by kernel_rfl) (AgrL.yes (by kernel_rfl) (AgrL.nil))))))))))) (AgrAll.nil))
  intro s1
  refine End.shape (ρ' := [(0, _), (1, _), (2, _), (3, _), (4, _), (6, _), (7, _), (8, _), (9, _), (10, _), (11, _), (12, _)]) (H' := [_, .blk _ _ #[_, _, _, _], _]) (Env.sub_cons rfl (Env.sub_cons rfl (Env.sub_cons rfl (Env.sub_cons rfl (Env.sub_cons rfl (Env.sub_cons rfl (Env.sub_cons rfl (Env.sub_cons rfl (Env.sub_cons rfl (Env.sub_cons rfl (Env.sub_cons rfl (Env.sub_cons rfl (Env.sub_nil))))))))))))) rfl ?_
  refine End.seq ?_
  refine WC.seq ?_
  refine WC.seq ?_
  refine WC.region ?_
  refine WL.p rfl rfl rfl (P.move rfl) ?_
  refine WL.p rfl rfl rfl (P.not_ rfl) ?_
  refine WL.p rfl rfl rfl (P.move rfl) ?_
  refine WL.split 15 rfl (fun hs15 => ?_) (fun hs15 => ?_)
  ·
    try simp only [decide_eq_true_eq, decide_eq_false_iff_not, beq_iff_eq, beq_eq_false_iff_ne, bne_iff_ne, bne_eq_false_iff_eq, Bool.not_eq_true', Bool.not_eq_false', ne_eq, Int.not_lt, Int.not_le] at hs15
    cases hs15
  ·
    try simp only [decide_eq_true_eq, decide_eq_false_iff_not, beq_iff_eq, beq_eq_false_iff_ne, bne_iff_ne, bne_eq_false_iff_eq, Bool.not_eq_true', Bool.not_eq_false', ne_eq, Int.not_lt, Int.not_le] at hs15
    refine WL.p rfl rfl rfl (P.fieldAddr fa_128_1 rfl) ?_
    refine WL.p rfl rfl rfl (P.loadO 1 Tryz.isAgg67 rfl rfl rfl) ?_
    refine WL.p rfl rfl rfl (P.fieldAddr fa_34_1 rfl) ?_
    refine WL.p rfl rfl rfl (P.loadO 2 Tryz.isAgg9 rfl rfl rfl) ?_
    refine WL.callc (ent_of Tryz.func187 rfl rfl) rfl rfl rfl rfl (fun w hs => by rw [Array.append_empty]; exact isGroup_any e.name w (hg.st hs)) ?_
    refine WL.p rfl rfl rfl (P.not_ rfl) ?_
    refine WL.p rfl rfl rfl (P.pickF rfl rfl) ?_
    refine WL.p rfl rfl rfl (P.move rfl) ?_
    refine WL.split 23 rfl (fun hs23 => ?_) (fun hs23 => ?_)
    ·
      try simp only [decide_eq_true_eq, decide_eq_false_iff_not, beq_iff_eq, beq_eq_false_iff_ne, bne_iff_ne, bne_eq_false_iff_eq, Bool.not_eq_true', Bool.not_eq_false', ne_eq, Int.not_lt, Int.not_le] at hs23
      refine WL.off rfl rfl ?_
      refine WL.off rfl rfl ?_
      refine WL.off rfl rfl ?_
      refine WL.off rfl rfl ?_
      refine WL.off rfl rfl ?_
      refine WL.p rfl rfl rfl (P.pickT rfl rfl) ?_
      refine WL.nil_ ?_
      refine End.seq ?_
      refine WC.condT rfl ?_
      refine WC.seq ?_
      refine WC.region ?_
      refine WL.p rfl rfl rfl (P.assign rfl) ?_
      refine WL.nil_ ?_
      refine End.seq ?_
      refine WC.ret ?_
      refine End.thenR ?_
      refine End.ret1 rfl rfl ?_
      exact fun w' hs' => RetV.of (by rw [groupV, hs23]; rfl) hs'
    ·
      try simp only [decide_eq_true_eq, decide_eq_false_iff_not, beq_iff_eq, beq_eq_false_iff_ne, bne_iff_ne, bne_eq_false_iff_eq, Bool.not_eq_true', Bool.not_eq_false', ne_eq, Int.not_lt, Int.not_le] at hs23
      refine WL.p rfl rfl rfl (P.fieldAddr fa_128_3 rfl) ?_
      refine WL.p rfl rfl rfl (P.loadO 1 Tryz.isAgg58 rfl rfl rfl) ?_
      refine WL.p rfl rfl rfl (P.loadW 2 Tryz.isAgg34 Tryz.sizeOf34 rfl rfl rfl) ?_
      refine WL.callc (ent_of Tryz.func200 rfl rfl) rfl rfl rfl rfl (fun w hs => by rw [Array.append_empty]; exact groupOK_any e _ _ w (hg.st hs)) ?_
      refine WL.p rfl rfl rfl (P.not_ rfl) ?_
      refine WL.p rfl rfl rfl (P.pickF rfl rfl) ?_
      refine WL.nil_ ?_
      refine End.seq ?_
      refine WC.cond rfl (fun hc29 => ?_) (fun hc29 => ?_)
      ·
        try simp only [decide_eq_true_eq, decide_eq_false_iff_not, beq_iff_eq, beq_eq_false_iff_ne, bne_iff_ne, bne_eq_false_iff_eq, Bool.not_eq_true', Bool.not_eq_false', ne_eq, Int.not_lt, Int.not_le] at hc29
        refine WC.seq ?_
        refine WC.region ?_
        refine WL.p rfl rfl rfl (P.assign rfl) ?_
        refine WL.nil_ ?_
        refine End.seq ?_
        refine WC.ret ?_
        refine End.thenR ?_
        refine End.ret1 rfl rfl ?_
        exact fun w' hs' => RetV.of (by rw [groupV, hc29, Bool.false_and, Bool.and_false]) hs'
      ·
        try simp only [decide_eq_true_eq, decide_eq_false_iff_not, beq_iff_eq, beq_eq_false_iff_ne, bne_iff_ne, bne_eq_false_iff_eq, Bool.not_eq_true', Bool.not_eq_false', ne_eq, Int.not_lt, Int.not_le] at hc29
        have hlim := groupOK_lim hc29
        refine WC.skip ?_
        refine End.seq ?_
        refine WC.seq ?_
        refine WC.region ?_
        refine WL.p rfl rfl rfl (P.loadW 1 Tryz.isAgg128 Tryz.sizeOf128 rfl rfl rfl) ?_
        refine WL.p rfl rfl rfl (P.loadW 2 Tryz.isAgg34 Tryz.sizeOf34 rfl rfl rfl) ?_
        refine WL.callv (ent_of Tryz.func115 rfl rfl) rfl rfl rfl (fun w hs => bareG_any e A1 A2 _ _ _ _ w hlim.1 hlim.2.1 hlim.2.2) ?_
        refine WL.p rfl rfl rfl (P.move rfl) ?_
        refine WL.p rfl rfl rfl (P.extract rfl rfl) ?_
        refine WL.p rfl rfl rfl (P.extract rfl rfl) ?_
        refine WL.alloc Tryz.zeroValue34 rfl rfl (fun b5 => ?_)
        refine WL.storeW 0 Tryz.sizeOf34 rfl rfl rfl rfl rfl rfl rfl ?_
        refine WL.p rfl rfl rfl (P.assign rfl) ?_
        refine WL.nil_ ?_
        refine End.seq ?_
        refine WC.seq ?_
        refine WC.region ?_
        refine WL.p rfl rfl rfl (P.move rfl) ?_
        refine WL.p rfl rfl rfl (P.move rfl) ?_
        refine WL.split 37 rfl (fun hs37 => ?_) (fun hs37 => ?_)
        ·
          try simp only [decide_eq_true_eq, decide_eq_false_iff_not, beq_iff_eq, beq_eq_false_iff_ne, bne_iff_ne, bne_eq_false_iff_eq, Bool.not_eq_true', Bool.not_eq_false', ne_eq, Int.not_lt, Int.not_le] at hs37
          refine WL.p rfl rfl rfl (P.loadW 0 Tryz.isAgg34 Tryz.sizeOf34 rfl rfl rfl) ?_
          refine WL.p rfl rfl rfl (P.loadW 3 Tryz.isAgg34 Tryz.sizeOf34 rfl rfl rfl) ?_
          refine WL.callv (ent_of Tryz.func34 rfl rfl) rfl rfl rfl (fun w hs => same_any (grpRead e).1 e vnil vnil _ _ w (entNil rfl rfl) (ha0.st hs)) ?_
          refine WL.p rfl rfl rfl (P.pickT rfl rfl) ?_
          refine WL.p rfl rfl rfl (P.assign rfl) ?_
          refine WL.nil_ ?_
          refine End.seq ?_
          refine WC.ret ?_
          refine End.ret1 rfl rfl ?_
          exact fun w' hs' => RetV.of (by rw [groupV, hs23, hc29, decide_eq_true hs37]; rfl) hs'
        ·
          try simp only [decide_eq_true_eq, decide_eq_false_iff_not, beq_iff_eq, beq_eq_false_iff_ne, bne_iff_ne, bne_eq_false_iff_eq, Bool.not_eq_true', Bool.not_eq_false', ne_eq, Int.not_lt, Int.not_le] at hs37
          refine WL.off rfl rfl ?_
          refine WL.off rfl rfl ?_
          refine WL.off rfl rfl ?_
          refine WL.p rfl rfl rfl (P.pickF rfl rfl) ?_
          refine WL.p rfl rfl rfl (P.assign rfl) ?_
          refine WL.nil_ ?_
          refine End.seq ?_
          refine WC.ret ?_
          refine End.ret1 rfl rfl ?_
          exact fun w' hs' => RetV.of (by rw [groupV, decide_eq_false hs37, Bool.false_and, Bool.and_false, Bool.and_false]) hs'

end Go.Proofs.YtlkkiimmangplaaGreatDoor
