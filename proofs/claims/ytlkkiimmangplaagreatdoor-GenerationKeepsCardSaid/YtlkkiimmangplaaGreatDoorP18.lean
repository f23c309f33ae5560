/- The reference's generations. -/
import Derived.Test.YtlkkiimmangplaaGreatDoorP17
import Derived.Test.YtlkkiimmangplaaGreatDoorV3
import Derived.Test.YtlkkiimmangplaaGreatDoorP10
namespace Go.Proofs.YtlkkiimmangplaaGreatDoor
open Go.RowKit
set_option linter.unusedVariables false
set_option linter.unusedSimpArgs false

theorem uses_G {e : E} (hk : e.kind = 1) : e.uses.alt = [] ∧ e.uses.grants = [] := by
  unfold E.uses
  rw [if_neg (by omega), if_pos hk]
  exact ⟨rfl, rfl⟩
theorem usedG_any (e : E) (A A' : Option Addr) (m c m' c' : Nat) (w : World) (hk : e.kind = 1) : Calls Tryz.prog 116 #[.agg (e.cells (.slice A m c) (.slice A' m' c'))] w (RetV w (.agg (e.uses.cells vnil vnil))) := by
  have h := used_any e A A' m c m' c' w
  rw [if_neg (by omega), if_neg (by omega)] at h
  exact h
/-- A group is valid, as the reference says it. -/
def rgroupV (e : E) : Bool := decide (e = e.uses) && (rgroupB e.name && (decide (1 ≤ e.limit) && (decide (e.limit ≤ 63) && (decide (0 ≤ e.last) && (decide (e.last ≤ 9999) && ownerR e.owner)))))

set_option maxRecDepth 100000 in
theorem refValidG_any (e : E) (va vg : Value) (w : World) (hk : e.kind = 1) (ha : EntAt w e va vg) (hsz : e.name.size < 4294967281) :
    Calls Tryz.prog 48 #[.agg (e.cells va vg)] w (RetV w (.bool (rgroupV e))) := by
  have ha0 := ha
  obtain ⟨⟨A1, c1, rfl, hc1, hr1⟩, ⟨A2, c2, rfl, hc2, hr2⟩⟩ := ha
  refine enter Tryz.func48 rfl Tryz.ntmps48 rfl ?_
  refine WC.seq ?_
  refine WC.region ?_
  refine WL.box rfl rfl rfl (fun b1 => ?_)
  refine WL.p rfl rfl rfl (P.assign rfl) ?_
  refine WL.nil_ ?_
  refine End.seq ?_
  refine WC.seq ?_
  refine WC.seq ?_
  refine WC.quiet (by kernel_rfl) ?_
  refine WQ.p rfl rfl rfl (P.loadW 0 Tryz.isAgg34 Tryz.sizeOf34 rfl rfl rfl) ?_
  refine WQ.p rfl rfl rfl (P.loadW 0 Tryz.isAgg34 Tryz.sizeOf34 rfl rfl rfl) ?_
  refine WQ.callv (ent_of Tryz.func116 rfl rfl) rfl rfl rfl (fun w hs => usedG_any e A1 A2 _ _ _ _ w hk) ?_
  refine WQ.callv (ent_of Tryz.func32 rfl rfl) rfl rfl rfl (fun w hs => refSame_any e e.uses _ _ vnil vnil w (ha0.st hs) (entNil (uses_G hk).1 (uses_G hk).2)) ?_
  refine WQ.p rfl rfl rfl (P.not_ rfl) ?_
  refine WQ.nil_ ?_
  refine End.seq ?_
  refine WC.cond rfl (fun hc11 => ?_) (fun hc11 => ?_)
  ·
    refine WC.seq ?_
    refine WC.region ?_
    refine WL.p rfl rfl rfl (P.assign rfl) ?_
    refine WL.nil_ ?_
    refine End.seq ?_
    refine WC.ret ?_
    refine End.thenR ?_
    refine End.ret1 rfl rfl ?_
    exact fun w' hs' => RetV.of (by rw [rgroupV, show decide (e = e.uses) = false by simpa using hc11]; rfl) hs'
  ·
    refine WC.skip ?_
    refine End.seq ?_
    refine WC.seq ?_
    refine WC.region ?_
    refine WL.p rfl rfl rfl (P.fieldAddr fa_34_1 rfl) ?_
    refine WL.p rfl rfl rfl (P.loadO 0 Tryz.isAgg9 rfl rfl rfl) ?_
    refine WL.callv (ent_of Tryz.func117 rfl rfl) rfl rfl rfl (fun w hs => refValid_any e.name w) ?_
    refine WL.p rfl rfl rfl (P.assign rfl) ?_
    refine WL.nil_ ?_
    refine End.seq ?_
    refine WC.seq ?_
    refine WC.region ?_
    refine WL.p rfl rfl rfl (P.fieldAddr fa_34_1 rfl) ?_
    refine WL.p rfl rfl rfl (P.loadO 0 Tryz.isAgg9 rfl rfl rfl) ?_
    refine WL.callv (ent_of Tryz.func118 rfl rfl) rfl rfl rfl (fun w hs => refSplit_any e.name w hsz) ?_
    refine WL.p rfl rfl rfl (P.move rfl) ?_
    refine WL.p rfl rfl rfl (P.extract rfl rfl) ?_
    refine WL.p rfl rfl rfl (P.extract rfl rfl) ?_
    refine WL.p rfl rfl rfl (P.extract rfl rfl) ?_
    refine WL.p rfl rfl rfl (P.assign rfl) ?_
    refine WL.p rfl rfl rfl (P.assign rfl) ?_
    refine WL.p rfl rfl rfl (P.assign rfl) ?_
    refine WL.nil_ ?_
    refine End.seq ?_
    refine WC.seq ?_
    refine WC.seq ?_
    refine WC.region ?_
    refine WL.p rfl rfl rfl (P.fieldAddr fa_34_0 rfl) ?_
    refine WL.p rfl rfl rfl (P.loadO 0 Tryz.isAgg3 rfl rfl rfl) ?_
    refine WL.nil_ ?_
    refine End.seq ?_
    refine WC.block ?_
    refine WC.seq ?_
    refine WC.region ?_
    refine WL.p rfl rfl rfl (P.cmp rfl rfl rfl) ?_
    refine WL.p rfl rfl rfl (P.assign rfl) ?_
    refine WL.nil_ ?_
    refine End.seq ?_
    refine WC.cond rfl (fun hc24 => ?_) (fun hc24 => ?_)
    ·
      exact absurd (show e.kind = 0 by simpa using hc24) (by omega)
    ·
      refine WC.seq ?_
      refine WC.region ?_
      refine WL.p rfl rfl rfl (P.cmp rfl rfl rfl) ?_
      refine WL.p rfl rfl rfl (P.assign rfl) ?_
      refine WL.nil_ ?_
      refine End.seq ?_
      refine WC.cond rfl (fun hc42 => ?_) (fun hc42 => ?_)
      ·
        refine WC.seq ?_
        refine WC.region ?_
        refine WL.p rfl rfl rfl (P.fieldAddr fa_34_1 rfl) ?_
        refine WL.p rfl rfl rfl (P.loadO 0 Tryz.isAgg9 rfl rfl rfl) ?_
        refine WL.callv (ent_of Tryz.func122 rfl rfl) rfl rfl rfl (fun w hs => refIsGroup_any e.name w) ?_
        refine WL.p rfl rfl rfl (P.move rfl) ?_
        refine WL.split 47 rfl (fun hs47 => ?_) (fun hs47 => ?_)
        ·
          refine WL.p rfl rfl rfl (P.fieldAddr fa_34_5 rfl) ?_
          refine WL.p rfl rfl rfl (P.loadO 0 Tryz.isAgg3 rfl rfl rfl) ?_
          refine WL.p rfl rfl rfl (P.cmp rfl rfl rfl) ?_
          refine WL.p rfl rfl rfl (P.pickT rfl rfl) ?_
          refine WL.p rfl rfl rfl (P.move rfl) ?_
          refine WL.split 52 rfl (fun hs52 => ?_) (fun hs52 => ?_)
          ·
            refine WL.p rfl rfl rfl (P.fieldAddr fa_34_5 rfl) ?_
            refine WL.p rfl rfl rfl (P.loadO 0 Tryz.isAgg3 rfl rfl rfl) ?_
            refine WL.p rfl rfl rfl (P.cmp rfl rfl rfl) ?_
            refine WL.p rfl rfl rfl (P.pickT rfl rfl) ?_
            refine WL.p rfl rfl rfl (P.move rfl) ?_
            refine WL.split 57 rfl (fun hs57 => ?_) (fun hs57 => ?_)
            ·
              refine WL.p rfl rfl rfl (P.fieldAddr fa_34_6 rfl) ?_
              refine WL.p rfl rfl rfl (P.loadO 0 Tryz.isAgg3 rfl rfl rfl) ?_
              refine WL.p rfl rfl rfl (P.cmp rfl rfl rfl) ?_
              refine WL.p rfl rfl rfl (P.pickT rfl rfl) ?_
              refine WL.p rfl rfl rfl (P.move rfl) ?_
              refine WL.split 62 rfl (fun hs62 => ?_) (fun hs62 => ?_)
              ·
                refine WL.p rfl rfl rfl (P.fieldAddr fa_34_6 rfl) ?_
                refine WL.p rfl rfl rfl (P.loadO 0 Tryz.isAgg3 rfl rfl rfl) ?_
                refine WL.p rfl rfl rfl (P.cmp rfl rfl rfl) ?_
                refine WL.p rfl rfl rfl (P.pickT rfl rfl) ?_
                refine WL.p rfl rfl rfl (P.move rfl) ?_
                refine WL.split 67 rfl (fun hs67 => ?_) (fun hs67 => ?_)
                ·
                  refine WL.p rfl rfl rfl (P.fieldAddr fa_34_8 rfl) ?_
                  refine WL.p rfl rfl rfl (P.loadO 0 Tryz.isAgg9 rfl rfl rfl) ?_
                  refine WL.callv (ent_of Tryz.func123 rfl rfl) rfl rfl rfl (fun w hs => refOwner_any e.owner w) ?_
                  refine WL.p rfl rfl rfl (P.pickT rfl rfl) ?_
                  refine WL.p rfl rfl rfl (P.assign rfl) ?_
                  refine WL.nil_ ?_
                  refine End.seq ?_
                  refine WC.ret ?_
                  refine End.blkR ?_
                  refine End.thenR ?_
                  refine End.ret1 rfl rfl ?_
                  exact fun w' hs' => RetV.of (by rw [rgroupV, show decide (e = e.uses) = true by simpa using hc11, hs47, hs52, hs57, hs62, hs67]; rfl) hs'
                ·
                  refine WL.off rfl rfl ?_
                  refine WL.off rfl rfl ?_
                  refine WL.off rfl rfl ?_
                  refine WL.p rfl rfl rfl (P.pickF rfl rfl) ?_
                  refine WL.p rfl rfl rfl (P.assign rfl) ?_
                  refine WL.nil_ ?_
                  refine End.seq ?_
                  refine WC.ret ?_
                  refine End.blkR ?_
                  refine End.thenR ?_
                  refine End.ret1 rfl rfl ?_
                  exact fun w' hs' => RetV.of (by rw [rgroupV, show decide (e = e.uses) = true by simpa using hc11, hs47, hs52, hs57, hs62, hs67]; rfl) hs'
              ·
                refine WL.off rfl rfl ?_
                refine WL.off rfl rfl ?_
                refine WL.off rfl rfl ?_
                refine WL.p rfl rfl rfl (P.pickF rfl rfl) ?_
                refine WL.p rfl rfl rfl (P.move rfl) ?_
                refine WL.off rfl rfl ?_
                refine WL.off rfl rfl ?_
                refine WL.off rfl rfl ?_
                refine WL.p rfl rfl rfl (P.pickF rfl rfl) ?_
                refine WL.p rfl rfl rfl (P.assign rfl) ?_
                refine WL.nil_ ?_
                refine End.seq ?_
                refine WC.ret ?_
                refine End.blkR ?_
                refine End.thenR ?_
                refine End.ret1 rfl rfl ?_
                exact fun w' hs' => RetV.of (by rw [rgroupV, show decide (e = e.uses) = true by simpa using hc11, hs47, hs52, hs57, hs62]; rfl) hs'
            ·
              refine WL.off rfl rfl ?_
              refine WL.off rfl rfl ?_
              refine WL.off rfl rfl ?_
              refine WL.p rfl rfl rfl (P.pickF rfl rfl) ?_
              refine WL.p rfl rfl rfl (P.move rfl) ?_
              refine WL.off rfl rfl ?_
              refine WL.off rfl rfl ?_
              refine WL.off rfl rfl ?_
              refine WL.p rfl rfl rfl (P.pickF rfl rfl) ?_
              refine WL.p rfl rfl rfl (P.move rfl) ?_
              refine WL.off rfl rfl ?_
              refine WL.off rfl rfl ?_
              refine WL.off rfl rfl ?_
              refine WL.p rfl rfl rfl (P.pickF rfl rfl) ?_
              refine WL.p rfl rfl rfl (P.assign rfl) ?_
              refine WL.nil_ ?_
              refine End.seq ?_
              refine WC.ret ?_
              refine End.blkR ?_
              refine End.thenR ?_
              refine End.ret1 rfl rfl ?_
              exact fun w' hs' => RetV.of (by rw [rgroupV, show decide (e = e.uses) = true by simpa using hc11, hs47, hs52, hs57]; rfl) hs'
          ·
            refine WL.off rfl rfl ?_
            refine WL.off rfl rfl ?_
            refine WL.off rfl rfl ?_
            refine WL.p rfl rfl rfl (P.pickF rfl rfl) ?_
            refine WL.p rfl rfl rfl (P.move rfl) ?_
            refine WL.off rfl rfl ?_
            refine WL.off rfl rfl ?_
            refine WL.off rfl rfl ?_
            refine WL.p rfl rfl rfl (P.pickF rfl rfl) ?_
            refine WL.p rfl rfl rfl (P.move rfl) ?_
            refine WL.off rfl rfl ?_
            refine WL.off rfl rfl ?_
            refine WL.off rfl rfl ?_
            refine WL.p rfl rfl rfl (P.pickF rfl rfl) ?_
            refine WL.p rfl rfl rfl (P.move rfl) ?_
            refine WL.off rfl rfl ?_
            refine WL.off rfl rfl ?_
            refine WL.off rfl rfl ?_
            refine WL.p rfl rfl rfl (P.pickF rfl rfl) ?_
            refine WL.p rfl rfl rfl (P.assign rfl) ?_
            refine WL.nil_ ?_
            refine End.seq ?_
            refine WC.ret ?_
            refine End.blkR ?_
            refine End.thenR ?_
            refine End.ret1 rfl rfl ?_
            exact fun w' hs' => RetV.of (by rw [rgroupV, show decide (e = e.uses) = true by simpa using hc11, hs47, hs52]; rfl) hs'
        ·
          refine WL.off rfl rfl ?_
          refine WL.off rfl rfl ?_
          refine WL.off rfl rfl ?_
          refine WL.p rfl rfl rfl (P.pickF rfl rfl) ?_
          refine WL.p rfl rfl rfl (P.move rfl) ?_
          refine WL.off rfl rfl ?_
          refine WL.off rfl rfl ?_
          refine WL.off rfl rfl ?_
          refine WL.p rfl rfl rfl (P.pickF rfl rfl) ?_
          refine WL.p rfl rfl rfl (P.move rfl) ?_
          refine WL.off rfl rfl ?_
          refine WL.off rfl rfl ?_
          refine WL.off rfl rfl ?_
          refine WL.p rfl rfl rfl (P.pickF rfl rfl) ?_
          refine WL.p rfl rfl rfl (P.move rfl) ?_
          refine WL.off rfl rfl ?_
          refine WL.off rfl rfl ?_
          refine WL.off rfl rfl ?_
          refine WL.p rfl rfl rfl (P.pickF rfl rfl) ?_
          refine WL.p rfl rfl rfl (P.move rfl) ?_
          refine WL.off rfl rfl ?_
          refine WL.off rfl rfl ?_
          refine WL.off rfl rfl ?_
          refine WL.p rfl rfl rfl (P.pickF rfl rfl) ?_
          refine WL.p rfl rfl rfl (P.assign rfl) ?_
          refine WL.nil_ ?_
          refine End.seq ?_
          refine WC.ret ?_
          refine End.blkR ?_
          refine End.thenR ?_
          refine End.ret1 rfl rfl ?_
          exact fun w' hs' => RetV.of (by rw [rgroupV, show decide (e = e.uses) = true by simpa using hc11, hs47]; rfl) hs'
      ·
        exact absurd (show ¬ e.kind = 1 by simpa using hc42) (fun h => h hk)

def rgenV (e : E) (xs : List Int) : Bool := decide (e.kind = 1) && (rgroupV e && fits xs e.last)
theorem rgroupV_lim {e : E} (h : rgroupV e = true) : (1 ≤ e.limit ∧ e.limit ≤ 63) ∧ (0 ≤ e.last ∧ e.last ≤ 9999) := by
  unfold rgroupV at h
  simp only [Bool.and_eq_true, decide_eq_true_eq] at h
  omega
theorem rgenV_lim {e : E} {xs : List Int} (h : rgenV e xs = true) : (1 ≤ e.limit ∧ e.limit ≤ 63) ∧ (0 ≤ e.last ∧ e.last ≤ 9999) := by
  unfold rgenV at h
  simp only [Bool.and_eq_true] at h
  exact rgroupV_lim h.2.1

set_option maxRecDepth 100000 in
theorem refGenValid_any (e : E) (va vg : Value) (A0 : Option Addr) (c0 : Nat) (xs : List Int) (w : World) (ha : EntAt w e va vg) (hr : Sl encI 1 w A0 xs) (hsz : e.name.size < 4294967281) :
    Calls Tryz.prog 44 #[.agg (e.cells va vg), .slice A0 xs.length c0] w (RetV w (.bool (rgenV e xs))) := by
  have ha0 := ha
  obtain ⟨⟨A1, c1, rfl, hc1, hr1⟩, ⟨A2, c2, rfl, hc2, hr2⟩⟩ := ha
  refine enter Tryz.func44 rfl Tryz.ntmps44 rfl ?_
  refine WC.seq ?_
  refine WC.region ?_
  refine WL.box rfl rfl rfl (fun b2 => ?_)
  refine WL.p rfl rfl rfl (P.assign rfl) ?_
  refine WL.nil_ ?_
  refine End.seq ?_
  refine WC.seq ?_
  refine WC.region ?_
  refine WL.p rfl rfl rfl (P.fieldAddr fa_34_0 rfl) ?_
  refine WL.p rfl rfl rfl (P.loadO 0 Tryz.isAgg3 rfl rfl rfl) ?_
  refine WL.p rfl rfl rfl (P.cmp rfl rfl rfl) ?_
  refine WL.p rfl rfl rfl (P.move rfl) ?_
  refine WL.split 8 rfl (fun hs8 => ?_) (fun hs8 => ?_)
  ·
    refine WL.p rfl rfl rfl (P.loadW 0 Tryz.isAgg34 Tryz.sizeOf34 rfl rfl rfl) ?_
    refine WL.callv (ent_of Tryz.func48 rfl rfl) rfl rfl rfl (fun w hs => refValidG_any e _ _ w (by simpa using hs8) (ha0.st hs) hsz) ?_
    refine WL.p rfl rfl rfl (P.pickT rfl rfl) ?_
    refine WL.p rfl rfl rfl (P.move rfl) ?_
    refine WL.split 12 rfl (fun hs12 => ?_) (fun hs12 => ?_)
    ·
      refine WL.p rfl rfl rfl (P.move rfl) ?_
      refine WL.p rfl rfl rfl (P.fieldAddr fa_34_6 rfl) ?_
      refine WL.p rfl rfl rfl (P.loadO 0 Tryz.isAgg3 rfl rfl rfl) ?_
      refine WL.callv (ent_of Tryz.func92 rfl rfl) rfl rfl rfl (fun w hs => increasing_any _ _ _ _ w (hr.st hs) (rgroupV_lim hs12).2.1) ?_
      refine WL.p rfl rfl rfl (P.pickT rfl rfl) ?_
      refine WL.p rfl rfl rfl (P.assign rfl) ?_
      refine WL.nil_ ?_
      refine End.seq ?_
      refine WC.ret ?_
      refine End.ret1 rfl rfl ?_
      exact fun w' hs' => RetV.of (by rw [rgenV, show decide (e.kind = 1) = true by simpa using hs8, hs12]; rfl) hs'
    ·
      refine WL.off rfl rfl ?_
      refine WL.off rfl rfl ?_
      refine WL.off rfl rfl ?_
      refine WL.off rfl rfl ?_
      refine WL.p rfl rfl rfl (P.pickF rfl rfl) ?_
      refine WL.p rfl rfl rfl (P.assign rfl) ?_
      refine WL.nil_ ?_
      refine End.seq ?_
      refine WC.ret ?_
      refine End.ret1 rfl rfl ?_
      exact fun w' hs' => RetV.of (by rw [rgenV, show decide (e.kind = 1) = true by simpa using hs8, hs12]; rfl) hs'
  ·
    refine WL.off rfl rfl ?_
    refine WL.off rfl rfl ?_
    refine WL.p rfl rfl rfl (P.pickF rfl rfl) ?_
    refine WL.p rfl rfl rfl (P.move rfl) ?_
    refine WL.off rfl rfl ?_
    refine WL.off rfl rfl ?_
    refine WL.off rfl rfl ?_
    refine WL.off rfl rfl ?_
    refine WL.p rfl rfl rfl (P.pickF rfl rfl) ?_
    refine WL.p rfl rfl rfl (P.assign rfl) ?_
    refine WL.nil_ ?_
    refine End.seq ?_
    refine WC.ret ?_
    refine End.ret1 rfl rfl ?_
    exact fun w' hs' => RetV.of (by rw [rgenV, show decide (e.kind = 1) = false by simpa using hs8]; rfl) hs'

/-- How many go when one comes. -/
def cntG (limit : Int) (empty : Bool) (n : Nat) : Int := if 0 < (n : Int) + 1 - limit ∧ empty = true then (n : Int) else (n : Int) + 1 - limit
def mx0 (k : Int) : Nat := (if k > 0 then k else 0).toNat
/-- RollIn, as the reference does it: what goes. -/
def rin (e : E) (xs : List Int) (n : Int) : Except Int (List Int) :=
  if rgenV e xs = false then .error 1 else if n < 1 ∨ 9999 < n then .error 2 else if n ≤ e.last then .error 9 else .ok (xs.take (mx0 (cntG e.limit e.empty xs.length)))
theorem rin_err {e : E} {xs : List Int} {n c : Int} (h : rin e xs n = .error c) (v : Value) (hv : v = .int .i64 c) : v = .int .i64 (match rin e xs n with | .error c => c | .ok _ => 0) := by rw [h, hv]
/-- What RollIn of the reference hands back. -/
def RinR (w : World) (e : E) (va vg : Value) (n : Int) (r : Except Int (List Int)) : Ending → World → Prop := match r with
  | .error c => RetV w (.tuple #[.agg (E.zero.cells vnil vnil), vnil, .int .i64 c])
  | .ok gone => Ret w (fun _ : Nat × Nat => True) (fun p => .tuple #[.agg ({ e with last := n }.cells va vg), .slice (some ⟨p.1, 0, none⟩) gone.length p.2, .int .i64 0]) (fun p => [.row 3 1 (.slice (some ⟨p.1, 0, none⟩) gone.length p.2) gone.length (ints gone)])
theorem RinR.err {w : World} {e : E} {va vg : Value} {n : Int} {r : Except Int (List Int)} {c : Int} {H : List It} {w' : World} {v : Value} (h : r = .error c) (hv : v = .tuple #[.agg (E.zero.cells vnil vnil), vnil, .int .i64 c]) (hs : St w H w') : RinR w e va vg n r (.returned v) w' := by
  subst h
  exact RetV.of hv hs

set_option maxRecDepth 100000 in
theorem refRollIn_any (e : E) (va vg : Value) (A0 : Option Addr) (c0 : Nat) (xs : List Int) (n : Int) (w : World) (ha : EntAt w e va vg) (hr : Sl encI 1 w A0 xs) (hsz : e.name.size < 4294967281) (hx : xs.length ≤ 100) (hc0 : xs.length ≤ c0) (hz : A0 = none → c0 = 0) :
    Calls Tryz.prog 41 #[.agg (e.cells va vg), .slice A0 xs.length c0, .int .i64 n] w (RinR w e va vg n (rin e xs n)) := by
  have ha0 := ha
  obtain ⟨⟨A1, c1, rfl, hc1, hr1⟩, ⟨A2, c2, rfl, hc2, hr2⟩⟩ := ha
  refine enter Tryz.func41 rfl Tryz.ntmps41 rfl ?_
  refine WC.seq ?_
  refine WC.region ?_
  refine WL.box rfl rfl rfl (fun b3 => ?_)
  refine WL.alloc Tryz.zeroValue34 rfl rfl (fun b6 => ?_)
  refine WL.p rfl rfl rfl (P.assign rfl) ?_
  refine WL.p rfl rfl rfl (P.assign rfl) ?_
  refine WL.nil_ ?_
  refine End.seq ?_
  refine WC.seq ?_
  refine WC.seq ?_
  refine WC.region ?_
  refine WL.p rfl rfl rfl (P.loadW 1 Tryz.isAgg34 Tryz.sizeOf34 rfl rfl rfl) ?_
  refine WL.p rfl rfl rfl (P.move rfl) ?_
  refine WL.callv (ent_of Tryz.func44 rfl rfl) rfl rfl rfl (fun w hs => refGenValid_any e _ _ A0 c0 xs w (ha0.st hs) (hr.st hs) hsz) ?_
  refine WL.p rfl rfl rfl (P.not_ rfl) ?_
  refine WL.nil_ ?_
  refine End.seq ?_
  refine WC.cond rfl (fun hc13 => ?_) (fun hc13 => ?_)
  ·
    try simp only [decide_eq_true_eq, decide_eq_false_iff_not, beq_iff_eq, beq_eq_false_iff_ne, bne_iff_ne, bne_eq_false_iff_eq, Bool.not_eq_true', Bool.not_eq_false', ne_eq, Int.not_lt, Int.not_le] at hc13
    refine WC.seq ?_
    refine WC.region ?_
    refine WL.p rfl rfl rfl (P.build rfl (fun w => bo_34 Tryz.zeroValue34 (cs := #[_, _, _, _, _, _, _, _, _, _, _, _, _, _, _, _, _, _, _, _, _, _, _, _, _, _, _, _, _, _, _, _, _]) rfl rfl w)) ?_
    refine WL.storeW 0 Tryz.sizeOf34 rfl rfl rfl rfl rfl rfl rfl ?_
    refine WL.p rfl rfl rfl (P.assign rfl) ?_
    refine WL.p rfl rfl rfl (P.assign rfl) ?_
    refine WL.nil_ ?_
    refine End.seq ?_
    refine WC.ret ?_
    refine End.thenR ?_
    refine End.retCTT 0 rfl Tryz.isAgg34 Tryz.sizeOf34 rfl rfl rfl rfl rfl ?_
    exact fun w' hs' => RinR.err (by rw [rin, if_pos hc13]) rfl hs'
  ·
    try simp only [decide_eq_true_eq, decide_eq_false_iff_not, beq_iff_eq, beq_eq_false_iff_ne, bne_iff_ne, bne_eq_false_iff_eq, Bool.not_eq_true', Bool.not_eq_false', ne_eq, Int.not_lt, Int.not_le] at hc13
    have hlim := rgenV_lim hc13
    refine WC.skip ?_
    refine End.seq ?_
    refine WC.seq ?_
    refine WC.seq ?_
    refine WC.region ?_
    refine WL.p rfl rfl rfl (P.move rfl) ?_
    refine WL.p rfl rfl rfl (P.cmp rfl rfl rfl) ?_
    refine WL.p rfl rfl rfl (P.move rfl) ?_
    refine WL.split 17 rfl (fun hs17 => ?_) (fun hs17 => ?_)
    ·
      try simp only [decide_eq_true_eq, decide_eq_false_iff_not, beq_iff_eq, beq_eq_false_iff_ne, bne_iff_ne, bne_eq_false_iff_eq, Bool.not_eq_true', Bool.not_eq_false', ne_eq, Int.not_lt, Int.not_le] at hs17
      refine WL.off rfl rfl ?_
      refine WL.off rfl rfl ?_
      refine WL.p rfl rfl rfl (P.pickT rfl rfl) ?_
      refine WL.nil_ ?_
      refine End.seq ?_
      refine WC.condT rfl ?_
      refine WC.seq ?_
      refine WC.region ?_
      refine WL.p rfl rfl rfl (P.build rfl (fun w => bo_34 Tryz.zeroValue34 (cs := #[_, _, _, _, _, _, _, _, _, _, _, _, _, _, _, _, _, _, _, _, _, _, _, _, _, _, _, _, _, _, _, _, _]) rfl rfl w)) ?_
      refine WL.storeW 0 Tryz.sizeOf34 rfl rfl rfl rfl rfl rfl rfl ?_
      refine WL.p rfl rfl rfl (P.assign rfl) ?_
      refine WL.p rfl rfl rfl (P.assign rfl) ?_
      refine WL.nil_ ?_
      refine End.seq ?_
      refine WC.ret ?_
      refine End.thenR ?_
      refine End.retCTT 0 rfl Tryz.isAgg34 Tryz.sizeOf34 rfl rfl rfl rfl rfl ?_
      exact fun w' hs' => RinR.err (by rw [rin, if_neg (by rw [hc13]; simp), if_pos (by omega)]) rfl hs'
    ·
      try simp only [decide_eq_true_eq, decide_eq_false_iff_not, beq_iff_eq, beq_eq_false_iff_ne, bne_iff_ne, bne_eq_false_iff_eq, Bool.not_eq_true', Bool.not_eq_false', ne_eq, Int.not_lt, Int.not_le] at hs17
      refine WL.p rfl rfl rfl (P.move rfl) ?_
      refine WL.p rfl rfl rfl (P.cmp rfl rfl rfl) ?_
      refine WL.p rfl rfl rfl (P.pickF rfl rfl) ?_
      refine WL.nil_ ?_
      refine End.seq ?_
      refine WC.cond rfl (fun hc20 => ?_) (fun hc20 => ?_)
      ·
        try simp only [decide_eq_true_eq, decide_eq_false_iff_not, beq_iff_eq, beq_eq_false_iff_ne, bne_iff_ne, bne_eq_false_iff_eq, Bool.not_eq_true', Bool.not_eq_false', ne_eq, Int.not_lt, Int.not_le] at hc20
        refine WC.seq ?_
        refine WC.region ?_
        refine WL.p rfl rfl rfl (P.build rfl (fun w => bo_34 Tryz.zeroValue34 (cs := #[_, _, _, _, _, _, _, _, _, _, _, _, _, _, _, _, _, _, _, _, _, _, _, _, _, _, _, _, _, _, _, _, _]) rfl rfl w)) ?_
        refine WL.storeW 0 Tryz.sizeOf34 rfl rfl rfl rfl rfl rfl rfl ?_
        refine WL.p rfl rfl rfl (P.assign rfl) ?_
        refine WL.p rfl rfl rfl (P.assign rfl) ?_
        refine WL.nil_ ?_
        refine End.seq ?_
        refine WC.ret ?_
        refine End.thenR ?_
        refine End.retCTT 0 rfl Tryz.isAgg34 Tryz.sizeOf34 rfl rfl rfl rfl rfl ?_
        exact fun w' hs' => RinR.err (by rw [rin, if_neg (by rw [hc13]; simp), if_pos (by omega)]) rfl hs'
      ·
        try simp only [decide_eq_true_eq, decide_eq_false_iff_not, beq_iff_eq, beq_eq_false_iff_ne, bne_iff_ne, bne_eq_false_iff_eq, Bool.not_eq_true', Bool.not_eq_false', ne_eq, Int.not_lt, Int.not_le] at hc20
        refine WC.skip ?_
        refine End.seq ?_
        refine WC.seq ?_
        refine WC.seq ?_
        refine WC.region ?_
        refine WL.p rfl rfl rfl (P.move rfl) ?_
        refine WL.p rfl rfl rfl (P.fieldAddr fa_34_6 rfl) ?_
        refine WL.p rfl rfl rfl (P.loadO 1 Tryz.isAgg3 rfl rfl rfl) ?_
        refine WL.p rfl rfl rfl (P.cmp rfl rfl rfl) ?_
        refine WL.nil_ ?_
        refine End.seq ?_
        refine WC.cond rfl (fun hc25 => ?_) (fun hc25 => ?_)
        ·
          try simp only [decide_eq_true_eq, decide_eq_false_iff_not, beq_iff_eq, beq_eq_false_iff_ne, bne_iff_ne, bne_eq_false_iff_eq, Bool.not_eq_true', Bool.not_eq_false', ne_eq, Int.not_lt, Int.not_le] at hc25
          refine WC.seq ?_
          refine WC.region ?_
          refine WL.p rfl rfl rfl (P.build rfl (fun w => bo_34 Tryz.zeroValue34 (cs := #[_, _, _, _, _, _, _, _, _, _, _, _, _, _, _, _, _, _, _, _, _, _, _, _, _, _, _, _, _, _, _, _, _]) rfl rfl w)) ?_
          refine WL.storeW 0 Tryz.sizeOf34 rfl rfl rfl rfl rfl rfl rfl ?_
          refine WL.p rfl rfl rfl (P.assign rfl) ?_
          refine WL.p rfl rfl rfl (P.assign rfl) ?_
          refine WL.nil_ ?_
          refine End.seq ?_
          refine WC.ret ?_
          refine End.thenR ?_
          refine End.retCTT 0 rfl Tryz.isAgg34 Tryz.sizeOf34 rfl rfl rfl rfl rfl ?_
          exact fun w' hs' => RinR.err (by rw [rin, if_neg (by rw [hc13]; simp), if_neg (by omega), if_pos (by omega)]) rfl hs'
        ·
          try simp only [decide_eq_true_eq, decide_eq_false_iff_not, beq_iff_eq, beq_eq_false_iff_ne, bne_iff_ne, bne_eq_false_iff_eq, Bool.not_eq_true', Bool.not_eq_false', ne_eq, Int.not_lt, Int.not_le] at hc25
          have hq : ({ e with last := n } : E).limit = e.limit := rfl
          refine WC.skip ?_
          refine End.seq ?_
          refine WC.seq ?_
          refine WC.region ?_
          refine WL.p rfl rfl rfl (P.move rfl) ?_
          refine WL.p rfl rfl rfl (P.fieldAddr fa_34_6 rfl) ?_
          refine WL.store 1 Tryz.sizeOf3 rfl rfl rfl rfl rfl rfl ?_
          refine WL.nil_ ?_
          refine End.seq ?_
          refine WC.seq ?_
          refine WC.region ?_
          refine WL.p rfl rfl rfl (P.move rfl) ?_
          refine WL.p rfl rfl rfl (P.lenR Tryz.underlying22 rfl) ?_
          refine WL.p rfl rfl rfl (P.ari64 rfl rfl rfl (by omega)) ?_
          refine WL.p rfl rfl rfl (P.fieldAddr fa_34_5 rfl) ?_
          refine WL.p rfl rfl rfl (P.loadO 1 Tryz.isAgg3 rfl rfl rfl) ?_
          refine WL.p rfl rfl rfl (P.ari64 rfl rfl rfl (by omega)) ?_
          refine WL.p rfl rfl rfl (P.assign rfl) ?_
          refine WL.nil_ ?_
          refine End.seq ?_
          refine WC.cutD (σ := Int) (fun cnt => [(9, .int .i64 cnt)]) (fun cnt => [.blk b6 34 (E.zero.cells vnil vnil), .blk b3 34 (({ e with last := n } : E).cells (.slice A1 e.alt.length c1) (.slice A2 e.grants.length c2))]) (fun cnt => cnt = cntG e.limit e.empty xs.length) ?_ (fun cnt hcnt => ?_)
          ·
            refine WC.seq ?_
            refine WC.region ?_
            refine WL.p rfl rfl rfl (P.move rfl) ?_
            refine WL.p rfl rfl rfl (P.cmp rfl rfl rfl) ?_
            refine WL.p rfl rfl rfl (P.move rfl) ?_
            refine WL.split 37 rfl (fun hs37 => ?_) (fun hs37 => ?_)
            ·
              try simp only [decide_eq_true_eq, decide_eq_false_iff_not, beq_iff_eq, beq_eq_false_iff_ne, bne_iff_ne, bne_eq_false_iff_eq, Bool.not_eq_true', Bool.not_eq_false', ne_eq, Int.not_lt, Int.not_le] at hs37
              refine WL.p rfl rfl rfl (P.fieldAddr fa_34_7 rfl) ?_
              refine WL.p rfl rfl rfl (P.loadO 1 Tryz.isAgg4 rfl rfl rfl) ?_
              refine WL.p rfl rfl rfl (P.pickT rfl rfl) ?_
              refine WL.nil_ ?_
              refine End.seq ?_
              refine WC.cond rfl (fun hc40 => ?_) (fun hc40 => ?_)
              ·
                try simp only [decide_eq_true_eq, decide_eq_false_iff_not, beq_iff_eq, beq_eq_false_iff_ne, bne_iff_ne, bne_eq_false_iff_eq, Bool.not_eq_true', Bool.not_eq_false', ne_eq, Int.not_lt, Int.not_le] at hc40
                refine WC.region ?_
                refine WL.p rfl rfl rfl (P.move rfl) ?_
                refine WL.p rfl rfl rfl (P.lenR Tryz.underlying22 rfl) ?_
                refine WL.p rfl rfl rfl (P.assign rfl) ?_
                refine WL.nil_ ?_
                refine End.atD _ ?_ rfl (Env.sub_cons rfl (Env.sub_nil)) rfl [0, 1] rfl rfl
                · rw [cntG, if_pos ⟨by omega, hc40⟩]
              ·
                try simp only [decide_eq_true_eq, decide_eq_false_iff_not, beq_iff_eq, beq_eq_false_iff_ne, bne_iff_ne, bne_eq_false_iff_eq, Bool.not_eq_true', Bool.not_eq_false', ne_eq, Int.not_lt, Int.not_le] at hc40
                refine WC.skip ?_
                refine End.atD _ ?_ rfl (Env.sub_cons rfl (Env.sub_nil)) rfl [0, 1] rfl rfl
                · rw [cntG, if_neg (fun h => by have h2 := h.2; rw [show e.empty = false from hc40] at h2; cases h2)]
            ·
              try simp only [decide_eq_true_eq, decide_eq_false_iff_not, beq_iff_eq, beq_eq_false_iff_ne, bne_iff_ne, bne_eq_false_iff_eq, Bool.not_eq_true', Bool.not_eq_false', ne_eq, Int.not_lt, Int.not_le] at hs37
              refine WL.off rfl rfl ?_
              refine WL.off rfl rfl ?_
              refine WL.p rfl rfl rfl (P.pickF rfl rfl) ?_
              refine WL.nil_ ?_
              refine End.seq ?_
              refine WC.condF rfl ?_
              refine WC.skip ?_
              refine End.atD _ ?_ rfl (Env.sub_cons rfl (Env.sub_nil)) rfl [0, 1] rfl rfl
              · rw [cntG, if_neg (fun h => by have := h.1; omega)]
          ·
            have hmx : (if cnt > 0 then cnt else 0) ≤ (xs.length : Int) ∧ 0 ≤ (if cnt > 0 then cnt else 0) := by rw [hcnt]; unfold cntG; (repeat' split) <;> omega
            have hmn : mx0 cnt ≤ xs.length := by unfold mx0; omega
            have hlm : (xs.take (mx0 cnt)).length = mx0 cnt := by rw [List.length_take]; omega
            refine WC.seq ?_
            refine WC.nil1 ?_
            apply WC.draws (al := [1, 6]) (vs := [_, fun s => .slice (some ⟨(s 1).1, 0, none⟩) 0 0, _, _, _, _, fun s => .slice (some ⟨(s 6).1, 0, none⟩) (xs.take (mx0 cnt)).length (s 6).2, fun _ => undef, _, _]) (Hs := fun v HH b s => (bnew (b 6) (.row 3 1 (.slice (some ⟨(s 6).1, 0, none⟩) (xs.take (mx0 cnt)).length (s 6).2) (xs.take (mx0 cnt)).length (ints (xs.take (mx0 cnt)))) (bnew (b 1) (.row 3 1 (.slice (some ⟨(s 1).1, 0, none⟩) 0 0) 0 []) (bwh (b 7) (cellsOf (v 0 s)) HH 1) 0) 0)) (by kernel_rfl) (by kernel_rfl) (by kernel_rfl)
            case steps =>
              refine Stps.cons (Stp.p (fun b s hd => ⟨_, ⟨rfl, P.loadW 2 Tryz.isAgg34 Tryz.sizeOf34 rfl rfl rfl⟩, rfl, rfl⟩)) ?_
              refine Stps.cons (Stp.off [6] (by kernel_rfl) (Stp.row0 0 Tryz.underlying22 Tryz.sizeOf3 rfl (fun b s => ⟨rfl, fun q => ⟨rfl, _, rfl, fun hb => rfl⟩⟩))) ?_
              refine Stps.cons (Stp.p (fun b s hd => ⟨_, ⟨rfl, P.move rfl⟩, rfl, rfl⟩)) ?_
              refine Stps.cons (Stp.p (fun b s hd => ⟨_, ⟨rfl, P.move rfl⟩, rfl, rfl⟩)) ?_
              refine Stps.cons (Stp.p (fun b s hd => ⟨_, ⟨rfl, P.max2 rfl rfl⟩, rfl, rfl⟩)) ?_
              refine Stps.cons (Stp.p (fun b s hd => ⟨_, ⟨rfl, P.cutH Tryz.underlying22 Tryz.sizeOf3 rfl rfl (by omega) (by omega)⟩, rfl, rfl⟩)) ?_
              refine Stps.cons (Stp.extend 0 (m := mx0 cnt) (news := ints (xs.take (mx0 cnt))) el22 rfl (by simp [ints]; omega) (ints_one _) (fun b s hd => ⟨_, _, _, [], _, _, rfl, rfl, rfl, fun w hs => (hr.st hs).src hz hmn, ⟨_, by have h1 := hd 1 (by decide); simp only [bnew, h1, cond_true]; rfl⟩, rfl, by rw [hlm]; omega, by simp only [maxLen]; omega, by omega, fun q => ⟨rfl, fun hb => rfl⟩⟩)) ?_
              refine Stps.cons (Stp.storeW 1 Tryz.sizeOf34 (fun b s hd => ⟨true, _, _, _, _, _, rfl, rfl, rfl, rfl, rfl, rfl, rfl, rfl, rfl, rfl⟩)) ?_
              refine Stps.cons (Stp.p (fun b s hd => ⟨_, ⟨rfl, P.assign rfl⟩, rfl, rfl⟩)) ?_
              refine Stps.cons (Stp.p (fun b s hd => ⟨_, ⟨rfl, P.assign rfl⟩, rfl, rfl⟩)) ?_
              exact Stps.nil
            case h0 => exact fun s => rfl
            case agree => exact AgrAll.cons (AgrL.no (fun s x => rfl) (AgrL.yes (by kernel_rfl) (AgrL.no (fun s x => rfl) (AgrL.no (fun s x => rfl) (AgrL.no (fun s x => rfl) (AgrL.no (fun s x => rfl) (AgrL.yes (by kernel_rfl) (AgrL.yes (by kernel_rfl) (AgrL.yes (by kernel_rfl) (AgrL.yes (by kernel_rfl) (AgrL.nil))))))))))) (AgrAll.cons (AgrL.no (fun s x => rfl) (AgrL.no (fun s x => rfl) (AgrL.no (fun s x => rfl) (AgrL.no (fun s x => rfl) (AgrL.no (fun s x => rfl) (AgrL.no (fun s x => rfl) (AgrL.yes (by kernel_rfl) (AgrL.yes (by kernel_rfl) (AgrL.yes (by kernel_rfl) (AgrL.yes (by kernel_rfl) (AgrL.nil))))))))))) (AgrAll.nil))
            intro s11
            refine End.shape (ρ' := [(0, _), (1, _), (2, _), (3, _), (6, _), (7, _), (8, _), (9, _), (10, _), (11, _), (12, _), (13, _), (15, _), (16, _), (17, _), (18, _), (19, _), (20, _), (22, _), (23, _), (24, _), (25, _), (27, _), (28, _), (29, _), (30, _), (31, _), (32, _), (33, _), (34, _), (43, _), (44, _), (45, _), (46, _), (47, _), (48, _), (49, _)]) (H' := [_, .blk _ _ #[_, _, _, _, _, _, _, _, _, _, _, _, _, _, _, _, _, _, _, _, _, _, _, _, _, _, _, _, _, _, _, _, _], _]) (Env.sub_cons rfl (Env.sub_cons rfl (Env.sub_cons rfl (Env.sub_cons rfl (Env.sub_cons rfl (Env.sub_cons rfl (Env.sub_cons rfl (Env.sub_cons rfl (Env.sub_cons rfl (Env.sub_cons rfl (Env.sub_cons rfl (Env.sub_cons rfl (Env.sub_cons rfl (Env.sub_cons rfl (Env.sub_cons rfl (Env.sub_cons rfl (Env.sub_cons rfl (Env.sub_cons rfl (Env.sub_cons rfl (Env.sub_cons rfl (Env.sub_cons rfl (Env.sub_cons rfl (Env.sub_cons rfl (Env.sub_cons rfl (Env.sub_cons rfl (Env.sub_cons rfl (Env.sub_cons rfl (Env.sub_cons rfl (Env.sub_cons rfl (Env.sub_cons rfl (Env.sub_cons rfl (Env.sub_cons rfl (Env.sub_cons rfl (Env.sub_cons rfl (Env.sub_cons rfl (Env.sub_cons rfl (Env.sub_cons rfl (Env.sub_nil)))))))))))))))))))))))))))))))))))))) rfl ?_
            refine End.seq ?_
            refine WC.ret ?_
            refine End.retCTT 1 rfl Tryz.isAgg34 Tryz.sizeOf34 rfl rfl rfl rfl rfl ?_
            have hP : rin e xs n = .ok (xs.take (mx0 cnt)) := by rw [rin, if_neg (by rw [hc13]; simp), if_neg (by omega), if_neg (by omega), hcnt]
            rw [hP]
            exact fun w' hs' => ⟨s11 6, trivial, rfl, hs'.sel [0] rfl⟩

end Go.Proofs.YtlkkiimmangplaaGreatDoor
