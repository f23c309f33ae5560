/- Absolute, and the reference's. -/
import Derived.Test.YtlkkiimmangplaaGreatDoorP9
namespace Go.Proofs.YtlkkiimmangplaaGreatDoor
open Go.RowKit
set_option linter.unusedVariables false
set_option linter.unusedSimpArgs false

theorem fitsFrom_ge : ∀ (l : List Int) (b r : Int), fitsFrom b l = some r → b ≤ r
  | [], b, r, h => by simp [fitsFrom] at h; omega
  | x :: l, b, r, h => by
    unfold fitsFrom at h
    split at h
    · cases h
    · have := fitsFrom_ge l x r h
      omega
theorem fits_none {l : List Int} {last : Int} (h : fitsFrom 0 l = none) : fits l last = false := by rw [fits, h]
theorem fits_some {l : List Int} {last b : Int} (h : fitsFrom 0 l = some b) : fits l last = decide (b ≤ last) := by rw [fits, h]
theorem fits_over {l : List Int} {last b : Int} {k : Nat} (h : fitsFrom 0 (l.take k) = some b) (hb : last < b) : fits l last = false := by
  cases hq : fitsFrom 0 l with
  | none => exact fits_none hq
  | some r =>
    rw [fits_some hq]
    rw [← List.take_append_drop k l, fitsFrom_app, h] at hq
    have := fitsFrom_ge _ _ _ hq
    exact decide_eq_false (by omega)
theorem fits_bad {l : List Int} {last z x : Int} {k : Nat} (h : fitsFrom 0 (l.take k) = some z) (hx : l[k]? = some x) (hz : x ≤ z) : fits l last = false :=
  fits_none (fitsFrom_none (k := k + 1) (by rw [fitsFrom_snoc h hx, if_pos hz]))
theorem fits_big {l : List Int} {last z x : Int} {k : Nat} (h : fitsFrom 0 (l.take k) = some z) (hx : l[k]? = some x) (hb : last < x) : fits l last = false := by
  by_cases hz : x ≤ z
  · exact fits_bad h hx hz
  · exact fits_over (k := k + 1) (by rw [fitsFrom_snoc h hx, if_neg hz]) hb
/-- The number for which a relative number stands, and an error. -/
def absP (last : Int) (xs : List Int) (rel : Int) : Int × Int :=
  if last < 0 ∨ 9999 < last ∨ fits xs last = false then (0, 1) else
  if 0 < rel then (if 9999 - last < rel then (0, 8) else (last + rel, 0)) else
  if rel ≤ -(xs.length : Int) then (0, 6) else (xs.getD ((xs.length : Int) - 1 + rel).toNat 0, 0)
def genCells (base : ByteArray) (last : Int) (v : Value) : Array Value := #[.string base, .int .i64 last, v]

set_option maxRecDepth 100000 in
theorem increasing_any (A : Option Addr) (c : Nat) (xs : List Int) (last : Int) (w : World) (hr : Sl encI 1 w A xs) (hlast : 0 ≤ last) :
    Calls Tryz.prog 92 #[.slice A xs.length c, .int .i64 last] w (RetV w (.bool (fits xs last))) := by
  have hl := hr.1
  refine enter Tryz.func92 rfl Tryz.ntmps92 rfl ?_
  refine WC.seq ?_
  refine WC.region ?_
  refine WL.p rfl rfl rfl (P.assign rfl) ?_
  refine WL.nil_ ?_
  refine End.seq ?_
  refine WC.seq ?_
  refine WC.seq ?_
  refine WC.region ?_
  refine WL.p rfl rfl rfl (P.assign rfl) ?_
  refine WL.nil_ ?_
  refine End.seq ?_
  refine WC.block ?_
  refine WC.loopD (σ := Nat × Int) (fun (k, z) => [(5, .int .i64 (k : Nat))]) (fun (k, z) => []) (fun (k, z) => k ≤ xs.length ∧ fitsFrom 0 (xs.take k) = some z ∧ (k = 0 → z = 0) ∧ (0 < k → xs[k - 1]? = some z) ∧ 0 ≤ z ∧ z ≤ last) (fun (k, z) => xs.length - k) (0, 0) ⟨Nat.zero_le _, rfl, fun _ => rfl, fun h => absurd h (by decide), by decide, hlast⟩ (Env.sub_cons rfl (Env.sub_nil)) [] rfl rfl ?_
  rintro ⟨k, z⟩ ⟨hk, hz, hz0, hz1, hz2, hz3⟩
  refine WC.seq ?_
  refine WC.seq ?_
  refine WC.region ?_
  refine WL.p rfl rfl rfl (P.move rfl) ?_
  refine WL.p rfl rfl rfl (P.move rfl) ?_
  refine WL.p rfl rfl rfl (P.lenR Tryz.underlying22 rfl) ?_
  refine WL.p rfl rfl rfl (P.cmp rfl rfl rfl) ?_
  refine WL.nil_ ?_
  refine End.seq ?_
  refine WC.cond rfl (fun hc9 => ?_) (fun hc9 => ?_)
  ·
    try simp only [decide_eq_true_eq, decide_eq_false_iff_not, beq_iff_eq, beq_eq_false_iff_ne, bne_iff_ne, bne_eq_false_iff_eq, Bool.not_eq_true', Bool.not_eq_false', ne_eq, Int.not_lt, Int.not_le] at hc9
    obtain ⟨b, off, rfl, hcx⟩ := hr.at_ (by omega)
    obtain ⟨x, hx⟩ := get_of_lt (xs := xs) (k := k) (by omega)
    refine WC.skip ?_
    refine End.seq ?_
    refine WC.seq ?_
    refine WC.block ?_
    refine WC.seq ?_
    refine WC.quiet (by kernel_rfl) ?_
    refine WQ.p rfl rfl rfl (P.move rfl) ?_
    refine WQ.p rfl rfl rfl (P.move rfl) ?_
    refine WQ.p rfl rfl rfl (P.elemAddr Tryz.underlying22 Tryz.sizeOf3 rfl rfl (by omega) (by omega)) ?_
    refine WQ.p rfl rfl rfl (P.loadB Tryz.isAgg3 rfl (hcx k x hx 0 _ rfl)) ?_
    refine WQ.p rfl rfl rfl (P.cmp rfl rfl rfl) ?_
    refine WQ.p rfl rfl rfl (P.move rfl) ?_
    refine WQ.split 17 rfl (fun hs17 => ?_) (fun hs17 => ?_)
    ·
      try simp only [decide_eq_true_eq, decide_eq_false_iff_not, beq_iff_eq, beq_eq_false_iff_ne, bne_iff_ne, bne_eq_false_iff_eq, Bool.not_eq_true', Bool.not_eq_false', ne_eq, Int.not_lt, Int.not_le] at hs17
      refine WQ.off rfl rfl ?_
      refine WQ.off rfl rfl ?_
      refine WQ.off rfl rfl ?_
      refine WQ.off rfl rfl ?_
      refine WQ.off rfl rfl ?_
      refine WQ.off rfl rfl ?_
      refine WQ.p rfl rfl rfl (P.pickT rfl rfl) ?_
      refine WQ.p rfl rfl rfl (P.move rfl) ?_
      refine WQ.off rfl rfl ?_
      refine WQ.off rfl rfl ?_
      refine WQ.off rfl rfl ?_
      refine WQ.offU rfl rfl ?_
      refine WQ.offU rfl rfl ?_
      refine WQ.offU rfl rfl ?_
      refine WQ.offU rfl rfl ?_
      refine WQ.offU rfl rfl ?_
      refine WQ.offU rfl rfl ?_
      refine WQ.offU rfl rfl ?_
      refine WQ.offU rfl rfl ?_
      refine WQ.offU rfl rfl ?_
      refine WQ.offU rfl rfl ?_
      refine WQ.off rfl rfl ?_
      refine WQ.p rfl rfl rfl (P.pickT rfl rfl) ?_
      refine WQ.nil_ ?_
      refine End.seq ?_
      refine WC.condT rfl ?_
      refine WC.seq ?_
      refine WC.region ?_
      refine WL.p rfl rfl rfl (P.assign rfl) ?_
      refine WL.nil_ ?_
      refine End.seq ?_
      refine WC.ret ?_
      refine End.blkR ?_
      refine End.thenR ?_
      refine End.thenR ?_
      refine End.blkR ?_
      refine End.thenR ?_
      refine End.ret1 rfl rfl ?_
      exact fun w' hs' => RetV.of (by rw [fits_bad hz hx (by omega)]) hs'
    ·
      try simp only [decide_eq_true_eq, decide_eq_false_iff_not, beq_iff_eq, beq_eq_false_iff_ne, bne_iff_ne, bne_eq_false_iff_eq, Bool.not_eq_true', Bool.not_eq_false', ne_eq, Int.not_lt, Int.not_le] at hs17
      refine WQ.p rfl rfl rfl (P.move rfl) ?_
      refine WQ.p rfl rfl rfl (P.move rfl) ?_
      refine WQ.p rfl rfl rfl (P.elemAddr Tryz.underlying22 Tryz.sizeOf3 rfl rfl (by omega) (by omega)) ?_
      refine WQ.p rfl rfl rfl (P.loadB Tryz.isAgg3 rfl (hcx k x hx 0 _ rfl)) ?_
      refine WQ.p rfl rfl rfl (P.move rfl) ?_
      refine WQ.p rfl rfl rfl (P.cmp rfl rfl rfl) ?_
      refine WQ.p rfl rfl rfl (P.pickF rfl rfl) ?_
      refine WQ.p rfl rfl rfl (P.move rfl) ?_
      refine WQ.split 25 rfl (fun hs25 => ?_) (fun hs25 => ?_)
      ·
        try simp only [decide_eq_true_eq, decide_eq_false_iff_not, beq_iff_eq, beq_eq_false_iff_ne, bne_iff_ne, bne_eq_false_iff_eq, Bool.not_eq_true', Bool.not_eq_false', ne_eq, Int.not_lt, Int.not_le] at hs25
        refine WQ.off rfl rfl ?_
        refine WQ.off rfl rfl ?_
        refine WQ.off rfl rfl ?_
        refine WQ.offU rfl rfl ?_
        refine WQ.offU rfl rfl ?_
        refine WQ.offU rfl rfl ?_
        refine WQ.offU rfl rfl ?_
        refine WQ.offU rfl rfl ?_
        refine WQ.offU rfl rfl ?_
        refine WQ.offU rfl rfl ?_
        refine WQ.offU rfl rfl ?_
        refine WQ.offU rfl rfl ?_
        refine WQ.offU rfl rfl ?_
        refine WQ.off rfl rfl ?_
        refine WQ.p rfl rfl rfl (P.pickT rfl rfl) ?_
        refine WQ.nil_ ?_
        refine End.seq ?_
        refine WC.condT rfl ?_
        refine WC.seq ?_
        refine WC.region ?_
        refine WL.p rfl rfl rfl (P.assign rfl) ?_
        refine WL.nil_ ?_
        refine End.seq ?_
        refine WC.ret ?_
        refine End.blkR ?_
        refine End.thenR ?_
        refine End.thenR ?_
        refine End.blkR ?_
        refine End.thenR ?_
        refine End.ret1 rfl rfl ?_
        exact fun w' hs' => RetV.of (by rw [fits_big hz hx (by omega)]) hs'
      ·
        try simp only [decide_eq_true_eq, decide_eq_false_iff_not, beq_iff_eq, beq_eq_false_iff_ne, bne_iff_ne, bne_eq_false_iff_eq, Bool.not_eq_true', Bool.not_eq_false', ne_eq, Int.not_lt, Int.not_le] at hs25
        refine WQ.p rfl rfl rfl (P.move rfl) ?_
        refine WQ.p rfl rfl rfl (P.cmp rfl rfl rfl) ?_
        refine WQ.p rfl rfl rfl (P.move rfl) ?_
        refine WQ.split 28 rfl (fun hs28 => ?_) (fun hs28 => ?_)
        ·
          try simp only [decide_eq_true_eq, decide_eq_false_iff_not, beq_iff_eq, beq_eq_false_iff_ne, bne_iff_ne, bne_eq_false_iff_eq, Bool.not_eq_true', Bool.not_eq_false', ne_eq, Int.not_lt, Int.not_le] at hs28
          refine WQ.p rfl rfl rfl (P.move rfl) ?_
          refine WQ.p rfl rfl rfl (P.move rfl) ?_
          refine WQ.p rfl rfl rfl (P.ari64 rfl rfl rfl (by omega)) ?_
          refine WQ.p rfl rfl rfl (P.elemAddr Tryz.underlying22 Tryz.sizeOf3 rfl rfl (by omega) (by omega)) ?_
          refine WQ.p rfl rfl rfl (P.loadB Tryz.isAgg3 rfl (by have := hcx (k - 1) z (hz1 (by omega)) 0 _ rfl; rwa [show (((k - 1 : Nat) : Int)) = (k : Int) - 1 by omega] at this)) ?_
          refine WQ.p rfl rfl rfl (P.move rfl) ?_
          refine WQ.p rfl rfl rfl (P.move rfl) ?_
          refine WQ.p rfl rfl rfl (P.elemAddr Tryz.underlying22 Tryz.sizeOf3 rfl rfl (by omega) (by omega)) ?_
          refine WQ.p rfl rfl rfl (P.loadB Tryz.isAgg3 rfl (hcx k x hx 0 _ rfl)) ?_
          refine WQ.p rfl rfl rfl (P.cmp rfl rfl rfl) ?_
          refine WQ.p rfl rfl rfl (P.pickT rfl rfl) ?_
          refine WQ.p rfl rfl rfl (P.pickF rfl rfl) ?_
          refine WQ.nil_ ?_
          refine End.seq ?_
          refine WC.cond rfl (fun hc40 => ?_) (fun hc40 => ?_)
          ·
            try simp only [decide_eq_true_eq, decide_eq_false_iff_not, beq_iff_eq, beq_eq_false_iff_ne, bne_iff_ne, bne_eq_false_iff_eq, Bool.not_eq_true', Bool.not_eq_false', ne_eq, Int.not_lt, Int.not_le] at hc40
            refine WC.seq ?_
            refine WC.region ?_
            refine WL.p rfl rfl rfl (P.assign rfl) ?_
            refine WL.nil_ ?_
            refine End.seq ?_
            refine WC.ret ?_
            refine End.blkR ?_
            refine End.thenR ?_
            refine End.thenR ?_
            refine End.blkR ?_
            refine End.thenR ?_
            refine End.ret1 rfl rfl ?_
            exact fun w' hs' => RetV.of (by rw [fits_bad hz hx (by omega)]) hs'
          ·
            try simp only [decide_eq_true_eq, decide_eq_false_iff_not, beq_iff_eq, beq_eq_false_iff_ne, bne_iff_ne, bne_eq_false_iff_eq, Bool.not_eq_true', Bool.not_eq_false', ne_eq, Int.not_lt, Int.not_le] at hc40
            refine WC.skip ?_
            refine End.blkN ?_
            refine End.seq ?_
            refine WC.region ?_
            refine WL.p rfl rfl rfl (P.move rfl) ?_
            refine WL.p rfl rfl rfl (P.ari64 rfl rfl rfl (by omega)) ?_
            refine WL.p rfl rfl rfl (P.assign rfl) ?_
            refine WL.nil_ ?_
            have hzx : ¬ x ≤ z := by have := hz0; omega
            refine End.againD (k + 1, x) ?_ ?_ rfl (Env.sub_cons rfl (Env.sub_nil)) rfl [] rfl rfl
            · exact ⟨by omega, by rw [fitsFrom_snoc hz hx, if_neg hzx], fun h => absurd h (by omega), fun _ => hx, by omega, by omega⟩
            · show xs.length - (k + 1) < xs.length - k; omega
        ·
          try simp only [decide_eq_true_eq, decide_eq_false_iff_not, beq_iff_eq, beq_eq_false_iff_ne, bne_iff_ne, bne_eq_false_iff_eq, Bool.not_eq_true', Bool.not_eq_false', ne_eq, Int.not_lt, Int.not_le] at hs28
          refine WQ.off rfl rfl ?_
          refine WQ.off rfl rfl ?_
          refine WQ.off rfl rfl ?_
          refine WQ.off rfl rfl ?_
          refine WQ.off rfl rfl ?_
          refine WQ.off rfl rfl ?_
          refine WQ.off rfl rfl ?_
          refine WQ.off rfl rfl ?_
          refine WQ.off rfl rfl ?_
          refine WQ.off rfl rfl ?_
          refine WQ.p rfl rfl rfl (P.pickF rfl rfl) ?_
          refine WQ.p rfl rfl rfl (P.pickF rfl rfl) ?_
          refine WQ.nil_ ?_
          refine End.seq ?_
          refine WC.condF rfl ?_
          refine WC.skip ?_
          refine End.blkN ?_
          refine End.seq ?_
          refine WC.region ?_
          refine WL.p rfl rfl rfl (P.move rfl) ?_
          refine WL.p rfl rfl rfl (P.ari64 rfl rfl rfl (by omega)) ?_
          refine WL.p rfl rfl rfl (P.assign rfl) ?_
          refine WL.nil_ ?_
          have hzx : ¬ x ≤ z := by have := hz0; omega
          refine End.againD (k + 1, x) ?_ ?_ rfl (Env.sub_cons rfl (Env.sub_nil)) rfl [] rfl rfl
          · exact ⟨by omega, by rw [fitsFrom_snoc hz hx, if_neg hzx], fun h => absurd h (by omega), fun _ => hx, by omega, by omega⟩
          · show xs.length - (k + 1) < xs.length - k; omega
  ·
    try simp only [decide_eq_true_eq, decide_eq_false_iff_not, beq_iff_eq, beq_eq_false_iff_ne, bne_iff_ne, bne_eq_false_iff_eq, Bool.not_eq_true', Bool.not_eq_false', ne_eq, Int.not_lt, Int.not_le] at hc9
    refine WC.exit ?_
    refine End.thenX ?_
    refine End.thenX ?_
    refine End.blkX ?_
    refine End.seq ?_
    refine WC.seq ?_
    refine WC.region ?_
    refine WL.p rfl rfl rfl (P.assign rfl) ?_
    refine WL.nil_ ?_
    refine End.seq ?_
    refine WC.ret ?_
    refine End.ret1 rfl rfl ?_
    have e : k = xs.length := by omega
    rw [List.take_of_length_le (by omega)] at hz
    exact fun w' hs' => RetV.of (by rw [fits_some hz, decide_eq_true hz3]) hs'

set_option maxRecDepth 100000 in
theorem absolute_any (base : ByteArray) (last : Int) (A : Option Addr) (c : Nat) (xs : List Int) (rel : Int) (w : World) (hr : Sl encI 1 w A xs) (hrel : -9223372036854775808 ≤ rel ∧ rel ≤ 9223372036854775807) :
    Calls Tryz.prog 27 #[.agg (genCells base last (.slice A xs.length c)), .int .i64 rel] w (RetV w (.tuple #[.int .i64 (absP last xs rel).1, .int .i64 (absP last xs rel).2])) := by
  have hl := hr.1
  refine enter Tryz.func27 rfl Tryz.ntmps27 rfl ?_
  refine WC.seq ?_
  refine WC.region ?_
  refine WL.box rfl rfl rfl (fun b2 => ?_)
  refine WL.p rfl rfl rfl (P.assign rfl) ?_
  refine WL.p rfl rfl rfl (P.assign rfl) ?_
  refine WL.nil_ ?_
  refine End.seq ?_
  refine WC.seq ?_
  refine WC.seq ?_
  refine WC.region ?_
  refine WL.p rfl rfl rfl (P.fieldAddr fa_24_1 rfl) ?_
  refine WL.p rfl rfl rfl (P.loadO 0 Tryz.isAgg3 rfl rfl rfl) ?_
  refine WL.p rfl rfl rfl (P.cmp rfl rfl rfl) ?_
  refine WL.p rfl rfl rfl (P.move rfl) ?_
  refine WL.split 9 rfl (fun hs9 => ?_) (fun hs9 => ?_)
  ·
    try simp only [decide_eq_true_eq, decide_eq_false_iff_not, beq_iff_eq, beq_eq_false_iff_ne, bne_iff_ne, bne_eq_false_iff_eq, Bool.not_eq_true', Bool.not_eq_false', ne_eq, Int.not_lt, Int.not_le] at hs9
    refine WL.off rfl rfl ?_
    refine WL.off rfl rfl ?_
    refine WL.off rfl rfl ?_
    refine WL.p rfl rfl rfl (P.pickT rfl rfl) ?_
    refine WL.p rfl rfl rfl (P.move rfl) ?_
    refine WL.off rfl rfl ?_
    refine WL.off rfl rfl ?_
    refine WL.off rfl rfl ?_
    refine WL.off rfl rfl ?_
    refine WL.off rfl rfl ?_
    refine WL.off rfl rfl ?_
    refine WL.p rfl rfl rfl (P.pickT rfl rfl) ?_
    refine WL.nil_ ?_
    refine End.seq ?_
    refine WC.condT rfl ?_
    refine WC.seq ?_
    refine WC.region ?_
    refine WL.p rfl rfl rfl (P.assign rfl) ?_
    refine WL.p rfl rfl rfl (P.assign rfl) ?_
    refine WL.nil_ ?_
    refine End.seq ?_
    refine WC.ret ?_
    refine End.thenR ?_
    refine End.ret2 rfl rfl rfl ?_
    exact fun w' hs' => RetV.of (by rw [absP, if_pos (by exact .inl hs9)]) hs'
  ·
    try simp only [decide_eq_true_eq, decide_eq_false_iff_not, beq_iff_eq, beq_eq_false_iff_ne, bne_iff_ne, bne_eq_false_iff_eq, Bool.not_eq_true', Bool.not_eq_false', ne_eq, Int.not_lt, Int.not_le] at hs9
    refine WL.p rfl rfl rfl (P.fieldAddr fa_24_1 rfl) ?_
    refine WL.p rfl rfl rfl (P.loadO 0 Tryz.isAgg3 rfl rfl rfl) ?_
    refine WL.p rfl rfl rfl (P.cmp rfl rfl rfl) ?_
    refine WL.p rfl rfl rfl (P.pickF rfl rfl) ?_
    refine WL.p rfl rfl rfl (P.move rfl) ?_
    refine WL.split 14 rfl (fun hs14 => ?_) (fun hs14 => ?_)
    ·
      try simp only [decide_eq_true_eq, decide_eq_false_iff_not, beq_iff_eq, beq_eq_false_iff_ne, bne_iff_ne, bne_eq_false_iff_eq, Bool.not_eq_true', Bool.not_eq_false', ne_eq, Int.not_lt, Int.not_le] at hs14
      refine WL.off rfl rfl ?_
      refine WL.off rfl rfl ?_
      refine WL.off rfl rfl ?_
      refine WL.off rfl rfl ?_
      refine WL.off rfl rfl ?_
      refine WL.off rfl rfl ?_
      refine WL.p rfl rfl rfl (P.pickT rfl rfl) ?_
      refine WL.nil_ ?_
      refine End.seq ?_
      refine WC.condT rfl ?_
      refine WC.seq ?_
      refine WC.region ?_
      refine WL.p rfl rfl rfl (P.assign rfl) ?_
      refine WL.p rfl rfl rfl (P.assign rfl) ?_
      refine WL.nil_ ?_
      refine End.seq ?_
      refine WC.ret ?_
      refine End.thenR ?_
      refine End.ret2 rfl rfl rfl ?_
      exact fun w' hs' => RetV.of (by rw [absP, if_pos (by exact .inr (.inl hs14))]) hs'
    ·
      try simp only [decide_eq_true_eq, decide_eq_false_iff_not, beq_iff_eq, beq_eq_false_iff_ne, bne_iff_ne, bne_eq_false_iff_eq, Bool.not_eq_true', Bool.not_eq_false', ne_eq, Int.not_lt, Int.not_le] at hs14
      refine WL.p rfl rfl rfl (P.fieldAddr fa_24_2 rfl) ?_
      refine WL.p rfl rfl rfl (P.loadO 0 Tryz.isAgg22 rfl rfl rfl) ?_
      refine WL.p rfl rfl rfl (P.fieldAddr fa_24_1 rfl) ?_
      refine WL.p rfl rfl rfl (P.loadO 0 Tryz.isAgg3 rfl rfl rfl) ?_
      refine WL.callv (ent_of Tryz.func91 rfl rfl) rfl rfl rfl (fun w hs => fits_any _ _ _ _ w (hr.st hs)) ?_
      refine WL.p rfl rfl rfl (P.not_ rfl) ?_
      refine WL.p rfl rfl rfl (P.pickF rfl rfl) ?_
      refine WL.nil_ ?_
      refine End.seq ?_
      refine WC.cond rfl (fun hc21 => ?_) (fun hc21 => ?_)
      ·
        try simp only [decide_eq_true_eq, decide_eq_false_iff_not, beq_iff_eq, beq_eq_false_iff_ne, bne_iff_ne, bne_eq_false_iff_eq, Bool.not_eq_true', Bool.not_eq_false', ne_eq, Int.not_lt, Int.not_le] at hc21
        refine WC.seq ?_
        refine WC.region ?_
        refine WL.p rfl rfl rfl (P.assign rfl) ?_
        refine WL.p rfl rfl rfl (P.assign rfl) ?_
        refine WL.nil_ ?_
        refine End.seq ?_
        refine WC.ret ?_
        refine End.thenR ?_
        refine End.ret2 rfl rfl rfl ?_
        exact fun w' hs' => RetV.of (by rw [absP, if_pos (by exact .inr (.inr hc21))]) hs'
      ·
        try simp only [decide_eq_true_eq, decide_eq_false_iff_not, beq_iff_eq, beq_eq_false_iff_ne, bne_iff_ne, bne_eq_false_iff_eq, Bool.not_eq_true', Bool.not_eq_false', ne_eq, Int.not_lt, Int.not_le] at hc21
        refine WC.skip ?_
        refine End.seq ?_
        refine WC.seq ?_
        refine WC.seq ?_
        refine WC.region ?_
        refine WL.p rfl rfl rfl (P.move rfl) ?_
        refine WL.p rfl rfl rfl (P.cmp rfl rfl rfl) ?_
        refine WL.nil_ ?_
        refine End.seq ?_
        refine WC.cond rfl (fun hc23 => ?_) (fun hc23 => ?_)
        ·
          try simp only [decide_eq_true_eq, decide_eq_false_iff_not, beq_iff_eq, beq_eq_false_iff_ne, bne_iff_ne, bne_eq_false_iff_eq, Bool.not_eq_true', Bool.not_eq_false', ne_eq, Int.not_lt, Int.not_le] at hc23
          refine WC.seq ?_
          refine WC.seq ?_
          refine WC.region ?_
          refine WL.p rfl rfl rfl (P.move rfl) ?_
          refine WL.p rfl rfl rfl (P.fieldAddr fa_24_1 rfl) ?_
          refine WL.p rfl rfl rfl (P.loadO 0 Tryz.isAgg3 rfl rfl rfl) ?_
          refine WL.p rfl rfl rfl (P.ari64 rfl rfl rfl (by omega)) ?_
          refine WL.p rfl rfl rfl (P.cmp rfl rfl rfl) ?_
          refine WL.nil_ ?_
          refine End.seq ?_
          refine WC.cond rfl (fun hc28 => ?_) (fun hc28 => ?_)
          ·
            try simp only [decide_eq_true_eq, decide_eq_false_iff_not, beq_iff_eq, beq_eq_false_iff_ne, bne_iff_ne, bne_eq_false_iff_eq, Bool.not_eq_true', Bool.not_eq_false', ne_eq, Int.not_lt, Int.not_le] at hc28
            refine WC.seq ?_
            refine WC.region ?_
            refine WL.p rfl rfl rfl (P.assign rfl) ?_
            refine WL.p rfl rfl rfl (P.assign rfl) ?_
            refine WL.nil_ ?_
            refine End.seq ?_
            refine WC.ret ?_
            refine End.thenR ?_
            refine End.thenR ?_
            refine End.ret2 rfl rfl rfl ?_
            have hn : ¬ (last < 0 ∨ 9999 < last ∨ fits xs last = false) := fun h => by rcases h with h | h | h; omega; omega; rw [hc21] at h; cases h
            exact fun w' hs' => RetV.of (by rw [absP, if_neg hn, if_pos (by omega), if_pos (by omega)]) hs'
          ·
            try simp only [decide_eq_true_eq, decide_eq_false_iff_not, beq_iff_eq, beq_eq_false_iff_ne, bne_iff_ne, bne_eq_false_iff_eq, Bool.not_eq_true', Bool.not_eq_false', ne_eq, Int.not_lt, Int.not_le] at hc28
            refine WC.skip ?_
            refine End.seq ?_
            refine WC.seq ?_
            refine WC.region ?_
            refine WL.p rfl rfl rfl (P.fieldAddr fa_24_1 rfl) ?_
            refine WL.p rfl rfl rfl (P.loadO 0 Tryz.isAgg3 rfl rfl rfl) ?_
            refine WL.p rfl rfl rfl (P.move rfl) ?_
            refine WL.p rfl rfl rfl (P.ari64 rfl rfl rfl (by omega)) ?_
            refine WL.p rfl rfl rfl (P.assign rfl) ?_
            refine WL.p rfl rfl rfl (P.assign rfl) ?_
            refine WL.nil_ ?_
            refine End.seq ?_
            refine WC.ret ?_
            refine End.thenR ?_
            refine End.ret2 rfl rfl rfl ?_
            have hn : ¬ (last < 0 ∨ 9999 < last ∨ fits xs last = false) := fun h => by rcases h with h | h | h; omega; omega; rw [hc21] at h; cases h
            exact fun w' hs' => RetV.of (by rw [absP, if_neg hn, if_pos (by omega), if_neg (by omega)]) hs'
        ·
          try simp only [decide_eq_true_eq, decide_eq_false_iff_not, beq_iff_eq, beq_eq_false_iff_ne, bne_iff_ne, bne_eq_false_iff_eq, Bool.not_eq_true', Bool.not_eq_false', ne_eq, Int.not_lt, Int.not_le] at hc23
          refine WC.skip ?_
          refine End.seq ?_
          refine WC.seq ?_
          refine WC.seq ?_
          refine WC.region ?_
          refine WL.p rfl rfl rfl (P.move rfl) ?_
          refine WL.p rfl rfl rfl (P.fieldAddr fa_24_2 rfl) ?_
          refine WL.p rfl rfl rfl (P.loadO 0 Tryz.isAgg22 rfl rfl rfl) ?_
          refine WL.p rfl rfl rfl (P.lenR Tryz.underlying22 rfl) ?_
          refine WL.p rfl rfl rfl (P.neg rfl (by omega)) ?_
          refine WL.p rfl rfl rfl (P.cmp rfl rfl rfl) ?_
          refine WL.nil_ ?_
          refine End.seq ?_
          refine WC.cond rfl (fun hc38 => ?_) (fun hc38 => ?_)
          ·
            try simp only [decide_eq_true_eq, decide_eq_false_iff_not, beq_iff_eq, beq_eq_false_iff_ne, bne_iff_ne, bne_eq_false_iff_eq, Bool.not_eq_true', Bool.not_eq_false', ne_eq, Int.not_lt, Int.not_le] at hc38
            refine WC.seq ?_
            refine WC.region ?_
            refine WL.p rfl rfl rfl (P.assign rfl) ?_
            refine WL.p rfl rfl rfl (P.assign rfl) ?_
            refine WL.nil_ ?_
            refine End.seq ?_
            refine WC.ret ?_
            refine End.thenR ?_
            refine End.ret2 rfl rfl rfl ?_
            have hn : ¬ (last < 0 ∨ 9999 < last ∨ fits xs last = false) := fun h => by rcases h with h | h | h; omega; omega; rw [hc21] at h; cases h
            exact fun w' hs' => RetV.of (by rw [absP, if_neg hn, if_neg (by omega), if_pos (by omega)]) hs'
          ·
            try simp only [decide_eq_true_eq, decide_eq_false_iff_not, beq_iff_eq, beq_eq_false_iff_ne, bne_iff_ne, bne_eq_false_iff_eq, Bool.not_eq_true', Bool.not_eq_false', ne_eq, Int.not_lt, Int.not_le] at hc38
            obtain ⟨b, off, rfl, hcx⟩ := hr.at_ (by omega)
            obtain ⟨x, hx⟩ := get_of_lt (xs := xs) (k := ((xs.length : Int) - 1 + rel).toNat) (by omega)
            refine WC.skip ?_
            refine End.seq ?_
            refine WC.seq ?_
            refine WC.region ?_
            refine WL.p rfl rfl rfl (P.fieldAddr fa_24_2 rfl) ?_
            refine WL.p rfl rfl rfl (P.loadO 0 Tryz.isAgg22 rfl rfl rfl) ?_
            refine WL.p rfl rfl rfl (P.fieldAddr fa_24_2 rfl) ?_
            refine WL.p rfl rfl rfl (P.loadO 0 Tryz.isAgg22 rfl rfl rfl) ?_
            refine WL.p rfl rfl rfl (P.lenR Tryz.underlying22 rfl) ?_
            refine WL.p rfl rfl rfl (P.ari64 rfl rfl rfl (by omega)) ?_
            refine WL.p rfl rfl rfl (P.move rfl) ?_
            refine WL.p rfl rfl rfl (P.ari64 rfl rfl rfl (by omega)) ?_
            refine WL.p rfl rfl rfl (P.elemAddr Tryz.underlying22 Tryz.sizeOf3 rfl rfl (by omega) (by omega)) ?_
            refine WL.p rfl rfl rfl (P.loadB Tryz.isAgg3 rfl (hcx _ x hx 0 _ rfl)) ?_
            refine WL.p rfl rfl rfl (P.assign rfl) ?_
            refine WL.p rfl rfl rfl (P.assign rfl) ?_
            refine WL.nil_ ?_
            refine End.seq ?_
            refine WC.ret ?_
            refine End.ret2 rfl rfl rfl ?_
            have hn : ¬ (last < 0 ∨ 9999 < last ∨ fits xs last = false) := fun h => by rcases h with h | h | h; omega; omega; rw [hc21] at h; cases h
            exact fun w' hs' => RetV.of (by rw [absP, if_neg hn, if_neg (by omega), if_neg (by omega), List.getD, hx]; rfl) hs'

set_option maxRecDepth 100000 in
theorem refAbsolute_any (base : ByteArray) (last : Int) (A : Option Addr) (c : Nat) (xs : List Int) (rel : Int) (w : World) (hr : Sl encI 1 w A xs) (hrel : -9223372036854775808 ≤ rel ∧ rel ≤ 9223372036854775807) :
    Calls Tryz.prog 28 #[.agg (genCells base last (.slice A xs.length c)), .int .i64 rel] w (RetV w (.tuple #[.int .i64 (absP last xs rel).1, .int .i64 (absP last xs rel).2])) := by
  have hl := hr.1
  refine enter Tryz.func28 rfl Tryz.ntmps28 rfl ?_
  refine WC.seq ?_
  refine WC.region ?_
  refine WL.box rfl rfl rfl (fun b2 => ?_)
  refine WL.p rfl rfl rfl (P.assign rfl) ?_
  refine WL.p rfl rfl rfl (P.assign rfl) ?_
  refine WL.nil_ ?_
  refine End.seq ?_
  refine WC.seq ?_
  refine WC.seq ?_
  refine WC.region ?_
  refine WL.p rfl rfl rfl (P.fieldAddr fa_24_1 rfl) ?_
  refine WL.p rfl rfl rfl (P.loadO 0 Tryz.isAgg3 rfl rfl rfl) ?_
  refine WL.p rfl rfl rfl (P.cmp rfl rfl rfl) ?_
  refine WL.p rfl rfl rfl (P.move rfl) ?_
  refine WL.split 9 rfl (fun hs9 => ?_) (fun hs9 => ?_)
  ·
    try simp only [decide_eq_true_eq, decide_eq_false_iff_not, beq_iff_eq, beq_eq_false_iff_ne, bne_iff_ne, bne_eq_false_iff_eq, Bool.not_eq_true', Bool.not_eq_false', ne_eq, Int.not_lt, Int.not_le] at hs9
    refine WL.off rfl rfl ?_
    refine WL.off rfl rfl ?_
    refine WL.off rfl rfl ?_
    refine WL.p rfl rfl rfl (P.pickT rfl rfl) ?_
    refine WL.p rfl rfl rfl (P.move rfl) ?_
    refine WL.off rfl rfl ?_
    refine WL.off rfl rfl ?_
    refine WL.off rfl rfl ?_
    refine WL.off rfl rfl ?_
    refine WL.off rfl rfl ?_
    refine WL.off rfl rfl ?_
    refine WL.p rfl rfl rfl (P.pickT rfl rfl) ?_
    refine WL.nil_ ?_
    refine End.seq ?_
    refine WC.condT rfl ?_
    refine WC.seq ?_
    refine WC.region ?_
    refine WL.p rfl rfl rfl (P.assign rfl) ?_
    refine WL.p rfl rfl rfl (P.assign rfl) ?_
    refine WL.nil_ ?_
    refine End.seq ?_
    refine WC.ret ?_
    refine End.thenR ?_
    refine End.ret2 rfl rfl rfl ?_
    exact fun w' hs' => RetV.of (by rw [absP, if_pos (by exact .inl hs9)]) hs'
  ·
    try simp only [decide_eq_true_eq, decide_eq_false_iff_not, beq_iff_eq, beq_eq_false_iff_ne, bne_iff_ne, bne_eq_false_iff_eq, Bool.not_eq_true', Bool.not_eq_false', ne_eq, Int.not_lt, Int.not_le] at hs9
    refine WL.p rfl rfl rfl (P.fieldAddr fa_24_1 rfl) ?_
    refine WL.p rfl rfl rfl (P.loadO 0 Tryz.isAgg3 rfl rfl rfl) ?_
    refine WL.p rfl rfl rfl (P.cmp rfl rfl rfl) ?_
    refine WL.p rfl rfl rfl (P.pickF rfl rfl) ?_
    refine WL.p rfl rfl rfl (P.move rfl) ?_
    refine WL.split 14 rfl (fun hs14 => ?_) (fun hs14 => ?_)
    ·
      try simp only [decide_eq_true_eq, decide_eq_false_iff_not, beq_iff_eq, beq_eq_false_iff_ne, bne_iff_ne, bne_eq_false_iff_eq, Bool.not_eq_true', Bool.not_eq_false', ne_eq, Int.not_lt, Int.not_le] at hs14
      refine WL.off rfl rfl ?_
      refine WL.off rfl rfl ?_
      refine WL.off rfl rfl ?_
      refine WL.off rfl rfl ?_
      refine WL.off rfl rfl ?_
      refine WL.off rfl rfl ?_
      refine WL.p rfl rfl rfl (P.pickT rfl rfl) ?_
      refine WL.nil_ ?_
      refine End.seq ?_
      refine WC.condT rfl ?_
      refine WC.seq ?_
      refine WC.region ?_
      refine WL.p rfl rfl rfl (P.assign rfl) ?_
      refine WL.p rfl rfl rfl (P.assign rfl) ?_
      refine WL.nil_ ?_
      refine End.seq ?_
      refine WC.ret ?_
      refine End.thenR ?_
      refine End.ret2 rfl rfl rfl ?_
      exact fun w' hs' => RetV.of (by rw [absP, if_pos (by exact .inr (.inl hs14))]) hs'
    ·
      try simp only [decide_eq_true_eq, decide_eq_false_iff_not, beq_iff_eq, beq_eq_false_iff_ne, bne_iff_ne, bne_eq_false_iff_eq, Bool.not_eq_true', Bool.not_eq_false', ne_eq, Int.not_lt, Int.not_le] at hs14
      refine WL.p rfl rfl rfl (P.fieldAddr fa_24_2 rfl) ?_
      refine WL.p rfl rfl rfl (P.loadO 0 Tryz.isAgg22 rfl rfl rfl) ?_
      refine WL.p rfl rfl rfl (P.fieldAddr fa_24_1 rfl) ?_
      refine WL.p rfl rfl rfl (P.loadO 0 Tryz.isAgg3 rfl rfl rfl) ?_
      refine WL.callv (ent_of Tryz.func92 rfl rfl) rfl rfl rfl (fun w hs => increasing_any _ _ _ _ w (hr.st hs) (by omega)) ?_
      refine WL.p rfl rfl rfl (P.not_ rfl) ?_
      refine WL.p rfl rfl rfl (P.pickF rfl rfl) ?_
      refine WL.nil_ ?_
      refine End.seq ?_
      refine WC.cond rfl (fun hc21 => ?_) (fun hc21 => ?_)
      ·
        try simp only [decide_eq_true_eq, decide_eq_false_iff_not, beq_iff_eq, beq_eq_false_iff_ne, bne_iff_ne, bne_eq_false_iff_eq, Bool.not_eq_true', Bool.not_eq_false', ne_eq, Int.not_lt, Int.not_le] at hc21
        refine WC.seq ?_
        refine WC.region ?_
        refine WL.p rfl rfl rfl (P.assign rfl) ?_
        refine WL.p rfl rfl rfl (P.assign rfl) ?_
        refine WL.nil_ ?_
        refine End.seq ?_
        refine WC.ret ?_
        refine End.thenR ?_
        refine End.ret2 rfl rfl rfl ?_
        exact fun w' hs' => RetV.of (by rw [absP, if_pos (by exact .inr (.inr hc21))]) hs'
      ·
        try simp only [decide_eq_true_eq, decide_eq_false_iff_not, beq_iff_eq, beq_eq_false_iff_ne, bne_iff_ne, bne_eq_false_iff_eq, Bool.not_eq_true', Bool.not_eq_false', ne_eq, Int.not_lt, Int.not_le] at hc21
        refine WC.skip ?_
        refine End.seq ?_
        refine WC.seq ?_
        refine WC.seq ?_
        refine WC.region ?_
        refine WL.p rfl rfl rfl (P.move rfl) ?_
        refine WL.p rfl rfl rfl (P.cmp rfl rfl rfl) ?_
        refine WL.nil_ ?_
        refine End.seq ?_
        refine WC.cond rfl (fun hc23 => ?_) (fun hc23 => ?_)
        ·
          try simp only [decide_eq_true_eq, decide_eq_false_iff_not, beq_iff_eq, beq_eq_false_iff_ne, bne_iff_ne, bne_eq_false_iff_eq, Bool.not_eq_true', Bool.not_eq_false', ne_eq, Int.not_lt, Int.not_le] at hc23
          refine WC.seq ?_
          refine WC.seq ?_
          refine WC.region ?_
          refine WL.p rfl rfl rfl (P.move rfl) ?_
          refine WL.p rfl rfl rfl (P.fieldAddr fa_24_2 rfl) ?_
          refine WL.p rfl rfl rfl (P.loadO 0 Tryz.isAgg22 rfl rfl rfl) ?_
          refine WL.p rfl rfl rfl (P.lenR Tryz.underlying22 rfl) ?_
          refine WL.p rfl rfl rfl (P.neg rfl (by omega)) ?_
          refine WL.p rfl rfl rfl (P.cmp rfl rfl rfl) ?_
          refine WL.nil_ ?_
          refine End.seq ?_
          refine WC.cond rfl (fun hc29 => ?_) (fun hc29 => ?_)
          ·
            try simp only [decide_eq_true_eq, decide_eq_false_iff_not, beq_iff_eq, beq_eq_false_iff_ne, bne_iff_ne, bne_eq_false_iff_eq, Bool.not_eq_true', Bool.not_eq_false', ne_eq, Int.not_lt, Int.not_le] at hc29
            refine WC.seq ?_
            refine WC.region ?_
            refine WL.p rfl rfl rfl (P.assign rfl) ?_
            refine WL.p rfl rfl rfl (P.assign rfl) ?_
            refine WL.nil_ ?_
            refine End.seq ?_
            refine WC.ret ?_
            refine End.thenR ?_
            refine End.thenR ?_
            refine End.ret2 rfl rfl rfl ?_
            have hn : ¬ (last < 0 ∨ 9999 < last ∨ fits xs last = false) := fun h => by rcases h with h | h | h; omega; omega; rw [hc21] at h; cases h
            exact fun w' hs' => RetV.of (by rw [absP, if_neg hn, if_neg (by omega), if_pos (by omega)]) hs'
          ·
            try simp only [decide_eq_true_eq, decide_eq_false_iff_not, beq_iff_eq, beq_eq_false_iff_ne, bne_iff_ne, bne_eq_false_iff_eq, Bool.not_eq_true', Bool.not_eq_false', ne_eq, Int.not_lt, Int.not_le] at hc29
            obtain ⟨b, off, rfl, hcx⟩ := hr.at_ (by omega)
            obtain ⟨x, hx⟩ := get_of_lt (xs := xs) (k := ((xs.length : Int) - 1 + rel).toNat) (by omega)
            refine WC.skip ?_
            refine End.seq ?_
            refine WC.seq ?_
            refine WC.region ?_
            refine WL.p rfl rfl rfl (P.fieldAddr fa_24_2 rfl) ?_
            refine WL.p rfl rfl rfl (P.loadO 0 Tryz.isAgg22 rfl rfl rfl) ?_
            refine WL.p rfl rfl rfl (P.fieldAddr fa_24_2 rfl) ?_
            refine WL.p rfl rfl rfl (P.loadO 0 Tryz.isAgg22 rfl rfl rfl) ?_
            refine WL.p rfl rfl rfl (P.lenR Tryz.underlying22 rfl) ?_
            refine WL.p rfl rfl rfl (P.ari64 rfl rfl rfl (by omega)) ?_
            refine WL.p rfl rfl rfl (P.move rfl) ?_
            refine WL.p rfl rfl rfl (P.ari64 rfl rfl rfl (by omega)) ?_
            refine WL.p rfl rfl rfl (P.elemAddr Tryz.underlying22 Tryz.sizeOf3 rfl rfl (by omega) (by omega)) ?_
            refine WL.p rfl rfl rfl (P.loadB Tryz.isAgg3 rfl (hcx _ x hx 0 _ rfl)) ?_
            refine WL.p rfl rfl rfl (P.assign rfl) ?_
            refine WL.p rfl rfl rfl (P.assign rfl) ?_
            refine WL.nil_ ?_
            refine End.seq ?_
            refine WC.ret ?_
            refine End.thenR ?_
            refine End.ret2 rfl rfl rfl ?_
            have hn : ¬ (last < 0 ∨ 9999 < last ∨ fits xs last = false) := fun h => by rcases h with h | h | h; omega; omega; rw [hc21] at h; cases h
            exact fun w' hs' => RetV.of (by rw [absP, if_neg hn, if_neg (by omega), if_neg (by omega), List.getD, hx]; rfl) hs'
        ·
          try simp only [decide_eq_true_eq, decide_eq_false_iff_not, beq_iff_eq, beq_eq_false_iff_ne, bne_iff_ne, bne_eq_false_iff_eq, Bool.not_eq_true', Bool.not_eq_false', ne_eq, Int.not_lt, Int.not_le] at hc23
          refine WC.skip ?_
          refine End.seq ?_
          refine WC.seq ?_
          refine WC.seq ?_
          refine WC.region ?_
          refine WL.p rfl rfl rfl (P.move rfl) ?_
          refine WL.p rfl rfl rfl (P.fieldAddr fa_24_1 rfl) ?_
          refine WL.p rfl rfl rfl (P.loadO 0 Tryz.isAgg3 rfl rfl rfl) ?_
          refine WL.p rfl rfl rfl (P.ari64 rfl rfl rfl (by omega)) ?_
          refine WL.p rfl rfl rfl (P.cmp rfl rfl rfl) ?_
          refine WL.nil_ ?_
          refine End.seq ?_
          refine WC.cond rfl (fun hc44 => ?_) (fun hc44 => ?_)
          ·
            try simp only [decide_eq_true_eq, decide_eq_false_iff_not, beq_iff_eq, beq_eq_false_iff_ne, bne_iff_ne, bne_eq_false_iff_eq, Bool.not_eq_true', Bool.not_eq_false', ne_eq, Int.not_lt, Int.not_le] at hc44
            refine WC.seq ?_
            refine WC.region ?_
            refine WL.p rfl rfl rfl (P.assign rfl) ?_
            refine WL.p rfl rfl rfl (P.assign rfl) ?_
            refine WL.nil_ ?_
            refine End.seq ?_
            refine WC.ret ?_
            refine End.thenR ?_
            refine End.ret2 rfl rfl rfl ?_
            have hn : ¬ (last < 0 ∨ 9999 < last ∨ fits xs last = false) := fun h => by rcases h with h | h | h; omega; omega; rw [hc21] at h; cases h
            exact fun w' hs' => RetV.of (by rw [absP, if_neg hn, if_pos (by omega), if_pos (by omega)]) hs'
          ·
            try simp only [decide_eq_true_eq, decide_eq_false_iff_not, beq_iff_eq, beq_eq_false_iff_ne, bne_iff_ne, bne_eq_false_iff_eq, Bool.not_eq_true', Bool.not_eq_false', ne_eq, Int.not_lt, Int.not_le] at hc44
            refine WC.skip ?_
            refine End.seq ?_
            refine WC.seq ?_
            refine WC.region ?_
            refine WL.p rfl rfl rfl (P.fieldAddr fa_24_1 rfl) ?_
            refine WL.p rfl rfl rfl (P.loadO 0 Tryz.isAgg3 rfl rfl rfl) ?_
            refine WL.p rfl rfl rfl (P.move rfl) ?_
            refine WL.p rfl rfl rfl (P.ari64 rfl rfl rfl (by omega)) ?_
            refine WL.p rfl rfl rfl (P.assign rfl) ?_
            refine WL.p rfl rfl rfl (P.assign rfl) ?_
            refine WL.nil_ ?_
            refine End.seq ?_
            refine WC.ret ?_
            refine End.ret2 rfl rfl rfl ?_
            have hn : ¬ (last < 0 ∨ 9999 < last ∨ fits xs last = false) := fun h => by rcases h with h | h | h; omega; omega; rw [hc21] at h; cases h
            exact fun w' hs' => RetV.of (by rw [absP, if_neg hn, if_pos (by omega), if_neg (by omega)]) hs'

end Go.Proofs.YtlkkiimmangplaaGreatDoor
