/- Lists of numbers and of grants compared; numbers that fit. -/
import Derived.Test.YtlkkiimmangplaaGreatDoorN
namespace Go.Proofs.YtlkkiimmangplaaGreatDoor
open Go.RowKit
set_option linter.unusedVariables false
set_option linter.unusedSimpArgs false

def fitsFrom : Int → List Int → Option Int
  | b, [] => some b
  | b, x :: xs => if x ≤ b then none else fitsFrom x xs
def fits (l : List Int) (last : Int) : Bool := match fitsFrom 0 l with | none => false | some b => decide (b ≤ last)
theorem fitsFrom_app (b : Int) (l r : List Int) : fitsFrom b (l ++ r) = (fitsFrom b l).bind fun z => fitsFrom z r := by
  induction l generalizing b with
  | nil => rfl
  | cons x xs ih =>
    simp only [List.cons_append, fitsFrom]
    split
    · rfl
    · exact ih x
theorem fitsFrom_snoc {b z x : Int} {l : List Int} {k : Nat} (h : fitsFrom b (l.take k) = some z) (hx : l[k]? = some x) : fitsFrom b (l.take (k + 1)) = if x ≤ z then none else some x := by
  rw [take_snoc hx, fitsFrom_app, h]
  simp [fitsFrom]
theorem fitsFrom_none {b : Int} {l : List Int} {k : Nat} (h : fitsFrom b (l.take k) = none) : fitsFrom b l = none := by
  conv => lhs; rw [← List.take_append_drop k l]
  rw [fitsFrom_app, h]; rfl

set_option maxRecDepth 100000 in
theorem fits_any (A : Option Addr) (cap : Nat) (xs : List Int) (last : Int) (w : World) (hr : Sl encI 1 w A xs) :
    Calls Tryz.prog 91 #[.slice A xs.length cap, .int .i64 last] w (RetV w (.bool (fits xs last))) := by
  have hl := hr.1
  refine enter Tryz.func91 rfl Tryz.ntmps91 rfl ?_
  refine WC.seq ?_
  refine WC.region ?_
  refine WL.p rfl rfl rfl (P.assign rfl) ?_
  refine WL.nil_ ?_
  refine End.seq ?_
  refine WC.seq ?_
  refine WC.region ?_
  refine WL.p rfl rfl rfl (P.assign rfl) ?_
  refine WL.nil_ ?_
  refine End.seq ?_
  refine WC.seq ?_
  refine WC.seq ?_
  refine WC.region ?_
  refine WL.p rfl rfl rfl (P.move rfl) ?_
  refine WL.p rfl rfl rfl (P.lenR Tryz.underlying22 rfl) ?_
  refine WL.p rfl rfl rfl (P.move rfl) ?_
  refine WL.nil_ ?_
  refine End.seq ?_
  refine WC.block ?_
  refine WC.loopD (σ := Nat × Int) (fun s => [(5, .int .i64 s.2), (10, .int .i64 s.1)]) (fun s => []) (fun s => s.1 ≤ xs.length ∧ fitsFrom 0 (xs.take s.1) = some s.2) (fun s => xs.length - s.1) (0, 0) ⟨Nat.zero_le _, rfl⟩ (Env.sub_cons rfl (Env.sub_cons rfl (Env.sub_nil))) [] rfl rfl ?_
  rintro ⟨k, z⟩ ⟨hk, hz⟩
  simp only at hk hz ⊢
  refine WC.seq ?_
  refine WC.region ?_
  refine WL.p rfl rfl rfl (P.cmp rfl rfl rfl) ?_
  refine WL.nil_ ?_
  refine End.seq ?_
  refine WC.seq ?_
  refine WC.cond rfl (fun hc11 => ?_) (fun hc11 => ?_)
  ·
    try simp only [decide_eq_true_eq, decide_eq_false_iff_not, beq_iff_eq, beq_eq_false_iff_ne, bne_iff_ne, bne_eq_false_iff_eq, Bool.not_eq_true', Bool.not_eq_false', ne_eq, Int.not_lt, Int.not_le] at hc11
    obtain ⟨b, off, rfl, hcell⟩ := hr.at_ (by omega)
    obtain ⟨x, hx⟩ := get_of_lt (xs := xs) (k := k) (by omega)
    refine WC.skip ?_
    refine End.seq ?_
    refine WC.seq ?_
    refine WC.block ?_
    refine WC.seq ?_
    refine WC.region ?_
    refine WL.p rfl rfl rfl (P.elemAddr Tryz.underlying22 Tryz.sizeOf3 rfl rfl (by omega) (by omega)) ?_
    refine WL.p rfl rfl rfl (P.loadB Tryz.isAgg3 rfl (hcell k x hx 0 _ rfl)) ?_
    refine WL.p rfl rfl rfl (P.assign rfl) ?_
    refine WL.nil_ ?_
    refine End.seq ?_
    refine WC.seq ?_
    refine WC.seq ?_
    refine WC.region ?_
    refine WL.p rfl rfl rfl (P.move rfl) ?_
    refine WL.p rfl rfl rfl (P.move rfl) ?_
    refine WL.p rfl rfl rfl (P.cmp rfl rfl rfl) ?_
    refine WL.nil_ ?_
    refine End.seq ?_
    refine WC.cond rfl (fun hc16 => ?_) (fun hc16 => ?_)
    ·
      try simp only [decide_eq_true_eq, decide_eq_false_iff_not, beq_iff_eq, beq_eq_false_iff_ne, bne_iff_ne, bne_eq_false_iff_eq, Bool.not_eq_true', Bool.not_eq_false', ne_eq, Int.not_lt, Int.not_le] at hc16
      refine WC.seq ?_
      refine WC.region ?_
      refine WL.p rfl rfl rfl (P.assign rfl) ?_
      refine WL.nil_ ?_
      refine End.seq ?_
      refine WC.ret ?_
      refine End.thenR ?_
      refine End.blkR ?_
      refine End.thenR ?_
      refine End.thenR ?_
      refine End.blkR ?_
      refine End.thenR ?_
      refine End.ret1 rfl rfl ?_
      exact fun w' hs' => RetV.of (by rw [fits, fitsFrom_none (k := k + 1) (by rw [fitsFrom_snoc hz hx, if_pos (by omega)])]) hs'
    ·
      try simp only [decide_eq_true_eq, decide_eq_false_iff_not, beq_iff_eq, beq_eq_false_iff_ne, bne_iff_ne, bne_eq_false_iff_eq, Bool.not_eq_true', Bool.not_eq_false', ne_eq, Int.not_lt, Int.not_le] at hc16
      refine WC.skip ?_
      refine End.seq ?_
      refine WC.region ?_
      refine WL.p rfl rfl rfl (P.move rfl) ?_
      refine WL.p rfl rfl rfl (P.assign rfl) ?_
      refine WL.nil_ ?_
      refine End.blkN ?_
      refine End.seq ?_
      refine WC.region ?_
      refine WL.p rfl rfl rfl (P.ari64 rfl rfl rfl (by omega)) ?_
      refine WL.p rfl rfl rfl (P.move rfl) ?_
      refine WL.nil_ ?_
      refine End.againD (k + 1, x) ?_ ?_ rfl (Env.sub_cons rfl (Env.sub_cons rfl (Env.sub_nil))) rfl [] rfl rfl
      · exact ⟨by omega, by rw [fitsFrom_snoc hz hx, if_neg (by omega)]⟩
      · simp only; omega
  ·
    try simp only [decide_eq_true_eq, decide_eq_false_iff_not, beq_iff_eq, beq_eq_false_iff_ne, bne_iff_ne, bne_eq_false_iff_eq, Bool.not_eq_true', Bool.not_eq_false', ne_eq, Int.not_lt, Int.not_le] at hc11
    refine WC.exit ?_
    refine End.thenX ?_
    refine End.thenX ?_
    refine End.blkX ?_
    refine End.seq ?_
    refine WC.seq ?_
    refine WC.region ?_
    refine WL.p rfl rfl rfl (P.move rfl) ?_
    refine WL.p rfl rfl rfl (P.move rfl) ?_
    refine WL.p rfl rfl rfl (P.cmp rfl rfl rfl) ?_
    refine WL.p rfl rfl rfl (P.assign rfl) ?_
    refine WL.nil_ ?_
    refine End.seq ?_
    refine WC.ret ?_
    refine End.ret1 rfl rfl ?_
    have e : k = xs.length := by omega
    subst e
    rw [List.take_length] at hz
    exact fun w' hs' => RetV.of (by rw [fits, hz]) hs'

set_option maxRecDepth 100000 in
theorem eqInts_any (A A' : Option Addr) (c c' : Nat) (xs ys : List Int) (w : World) (hr : Sl encI 1 w A xs) (hr' : Sl encI 1 w A' ys) :
    Calls Tryz.prog 94 #[.slice A xs.length c, .slice A' ys.length c'] w (RetV w (.bool (decide (xs = ys)))) := by
  have hl := hr.1
  have hl' := hr'.1
  refine enter Tryz.func94 rfl Tryz.ntmps94 rfl ?_
  refine WC.seq ?_
  refine WC.region ?_
  refine WL.p rfl rfl rfl (P.assign rfl) ?_
  refine WL.nil_ ?_
  refine End.seq ?_
  refine WC.seq ?_
  refine WC.seq ?_
  refine WC.region ?_
  refine WL.p rfl rfl rfl (P.move rfl) ?_
  refine WL.p rfl rfl rfl (P.lenR Tryz.underlying22 rfl) ?_
  refine WL.p rfl rfl rfl (P.move rfl) ?_
  refine WL.p rfl rfl rfl (P.lenR Tryz.underlying22 rfl) ?_
  refine WL.p rfl rfl rfl (P.cmp rfl rfl rfl) ?_
  refine WL.nil_ ?_
  refine End.seq ?_
  refine WC.cond rfl (fun hc10 => ?_) (fun hc10 => ?_)
  ·
    try simp only [decide_eq_true_eq, decide_eq_false_iff_not, beq_iff_eq, beq_eq_false_iff_ne, bne_iff_ne, bne_eq_false_iff_eq, Bool.not_eq_true', Bool.not_eq_false', ne_eq, Int.not_lt, Int.not_le] at hc10
    refine WC.seq ?_
    refine WC.region ?_
    refine WL.p rfl rfl rfl (P.assign rfl) ?_
    refine WL.nil_ ?_
    refine End.seq ?_
    refine WC.ret ?_
    refine End.thenR ?_
    refine End.ret1 rfl rfl ?_
    exact fun w' hs' => RetV.of (by rw [decide_eq_false (fun e => hc10 (by rw [e]))]) hs'
  ·
    try simp only [decide_eq_true_eq, decide_eq_false_iff_not, beq_iff_eq, beq_eq_false_iff_ne, bne_iff_ne, bne_eq_false_iff_eq, Bool.not_eq_true', Bool.not_eq_false', ne_eq, Int.not_lt, Int.not_le] at hc10
    refine WC.skip ?_
    refine End.seq ?_
    refine WC.seq ?_
    refine WC.seq ?_
    refine WC.region ?_
    refine WL.p rfl rfl rfl (P.move rfl) ?_
    refine WL.p rfl rfl rfl (P.lenR Tryz.underlying22 rfl) ?_
    refine WL.p rfl rfl rfl (P.move rfl) ?_
    refine WL.nil_ ?_
    refine End.seq ?_
    refine WC.block ?_
    refine WC.loopD (σ := Nat) (fun k => [(13, .int .i64 k)]) (fun k => []) (fun k => k ≤ xs.length ∧ xs.take k = ys.take k) (fun k => xs.length - k) 0 ⟨Nat.zero_le _, rfl⟩ (Env.sub_cons rfl (Env.sub_nil)) [] rfl rfl ?_
    rintro k ⟨hk, ht⟩
    refine WC.seq ?_
    refine WC.region ?_
    refine WL.p rfl rfl rfl (P.cmp rfl rfl rfl) ?_
    refine WL.nil_ ?_
    refine End.seq ?_
    refine WC.seq ?_
    refine WC.cond rfl (fun hc14 => ?_) (fun hc14 => ?_)
    ·
      try simp only [decide_eq_true_eq, decide_eq_false_iff_not, beq_iff_eq, beq_eq_false_iff_ne, bne_iff_ne, bne_eq_false_iff_eq, Bool.not_eq_true', Bool.not_eq_false', ne_eq, Int.not_lt, Int.not_le] at hc14
      obtain ⟨b, off, rfl, hcx⟩ := hr.at_ (by omega)
      obtain ⟨b', off', rfl, hcy⟩ := hr'.at_ (by omega)
      obtain ⟨x, hx⟩ := get_of_lt (xs := xs) (k := k) (by omega)
      obtain ⟨y, hy⟩ := get_of_lt (xs := ys) (k := k) (by omega)
      refine WC.skip ?_
      refine End.seq ?_
      refine WC.seq ?_
      refine WC.block ?_
      refine WC.seq ?_
      refine WC.region ?_
      refine WL.p rfl rfl rfl (P.move rfl) ?_
      refine WL.p rfl rfl rfl (P.assign rfl) ?_
      refine WL.nil_ ?_
      refine End.seq ?_
      refine WC.seq ?_
      refine WC.quiet (by kernel_rfl) ?_
      refine WQ.p rfl rfl rfl (P.move rfl) ?_
      refine WQ.p rfl rfl rfl (P.move rfl) ?_
      refine WQ.p rfl rfl rfl (P.elemAddr Tryz.underlying22 Tryz.sizeOf3 rfl rfl (by omega) (by omega)) ?_
      refine WQ.p rfl rfl rfl (P.loadB Tryz.isAgg3 rfl (hcx k x hx 0 _ rfl)) ?_
      refine WQ.p rfl rfl rfl (P.move rfl) ?_
      refine WQ.p rfl rfl rfl (P.move rfl) ?_
      refine WQ.p rfl rfl rfl (P.elemAddr Tryz.underlying22 Tryz.sizeOf3 rfl rfl (by omega) (by omega)) ?_
      refine WQ.p rfl rfl rfl (P.loadB Tryz.isAgg3 rfl (hcy k y hy 0 _ rfl)) ?_
      refine WQ.p rfl rfl rfl (P.cmp rfl rfl rfl) ?_
      refine WQ.nil_ ?_
      refine End.seq ?_
      refine WC.cond rfl (fun hc24 => ?_) (fun hc24 => ?_)
      ·
        try simp only [decide_eq_true_eq, decide_eq_false_iff_not, beq_iff_eq, beq_eq_false_iff_ne, bne_iff_ne, bne_eq_false_iff_eq, Bool.not_eq_true', Bool.not_eq_false', ne_eq, Int.not_lt, Int.not_le] at hc24
        refine WC.seq ?_
        refine WC.region ?_
        refine WL.p rfl rfl rfl (P.assign rfl) ?_
        refine WL.nil_ ?_
        refine End.seq ?_
        refine WC.ret ?_
        refine End.blkR ?_
        refine End.thenR ?_
        refine End.thenR ?_
        refine End.blkR ?_
        refine End.thenR ?_
        refine End.ret1 rfl rfl ?_
        exact fun w' hs' => RetV.of (by rw [decide_eq_false (fun e => hc24 (by rw [e, hy] at hx; exact (Option.some.inj hx).symm))]) hs'
      ·
        try simp only [decide_eq_true_eq, decide_eq_false_iff_not, beq_iff_eq, beq_eq_false_iff_ne, bne_iff_ne, bne_eq_false_iff_eq, Bool.not_eq_true', Bool.not_eq_false', ne_eq, Int.not_lt, Int.not_le] at hc24
        refine WC.skip ?_
        refine End.blkN ?_
        refine End.seq ?_
        refine WC.region ?_
        refine WL.p rfl rfl rfl (P.ari64 rfl rfl rfl (by omega)) ?_
        refine WL.p rfl rfl rfl (P.move rfl) ?_
        refine WL.nil_ ?_
        refine End.againD (k + 1) ?_ ?_ rfl (Env.sub_cons rfl (Env.sub_nil)) rfl [] rfl rfl
        · exact ⟨by omega, by rw [take_snoc hx, take_snoc hy, ht, hc24]⟩
        · omega
    ·
      try simp only [decide_eq_true_eq, decide_eq_false_iff_not, beq_iff_eq, beq_eq_false_iff_ne, bne_iff_ne, bne_eq_false_iff_eq, Bool.not_eq_true', Bool.not_eq_false', ne_eq, Int.not_lt, Int.not_le] at hc14
      refine WC.exit ?_
      refine End.thenX ?_
      refine End.thenX ?_
      refine End.blkX ?_
      refine End.seq ?_
      refine WC.seq ?_
      refine WC.region ?_
      refine WL.p rfl rfl rfl (P.assign rfl) ?_
      refine WL.nil_ ?_
      refine End.seq ?_
      refine WC.ret ?_
      refine End.ret1 rfl rfl ?_
      have e : k = xs.length := by omega
      rw [List.take_of_length_le (by omega), List.take_of_length_le (by omega)] at ht
      exact fun w' hs' => RetV.of (by rw [decide_eq_true ht]) hs'

set_option maxRecDepth 100000 in
theorem eqGrs_any (A A' : Option Addr) (c c' : Nat) (xs ys : List Gr) (w : World) (hr : Sl Gr.cells 3 w A xs) (hr' : Sl Gr.cells 3 w A' ys) :
    Calls Tryz.prog 95 #[.slice A xs.length c, .slice A' ys.length c'] w (RetV w (.bool (decide (xs = ys)))) := by
  have hl := hr.1
  have hl' := hr'.1
  refine enter Tryz.func95 rfl Tryz.ntmps95 rfl ?_
  refine WC.seq ?_
  refine WC.region ?_
  refine WL.p rfl rfl rfl (P.assign rfl) ?_
  refine WL.nil_ ?_
  refine End.seq ?_
  refine WC.seq ?_
  refine WC.seq ?_
  refine WC.region ?_
  refine WL.p rfl rfl rfl (P.move rfl) ?_
  refine WL.p rfl rfl rfl (P.lenR Tryz.underlying32 rfl) ?_
  refine WL.p rfl rfl rfl (P.move rfl) ?_
  refine WL.p rfl rfl rfl (P.lenR Tryz.underlying32 rfl) ?_
  refine WL.p rfl rfl rfl (P.cmp rfl rfl rfl) ?_
  refine WL.nil_ ?_
  refine End.seq ?_
  refine WC.cond rfl (fun hc10 => ?_) (fun hc10 => ?_)
  ·
    try simp only [decide_eq_true_eq, decide_eq_false_iff_not, beq_iff_eq, beq_eq_false_iff_ne, bne_iff_ne, bne_eq_false_iff_eq, Bool.not_eq_true', Bool.not_eq_false', ne_eq, Int.not_lt, Int.not_le] at hc10
    refine WC.seq ?_
    refine WC.region ?_
    refine WL.p rfl rfl rfl (P.assign rfl) ?_
    refine WL.nil_ ?_
    refine End.seq ?_
    refine WC.ret ?_
    refine End.thenR ?_
    refine End.ret1 rfl rfl ?_
    exact fun w' hs' => RetV.of (by rw [decide_eq_false (fun e => hc10 (by rw [e]))]) hs'
  ·
    try simp only [decide_eq_true_eq, decide_eq_false_iff_not, beq_iff_eq, beq_eq_false_iff_ne, bne_iff_ne, bne_eq_false_iff_eq, Bool.not_eq_true', Bool.not_eq_false', ne_eq, Int.not_lt, Int.not_le] at hc10
    refine WC.skip ?_
    refine End.seq ?_
    refine WC.seq ?_
    refine WC.seq ?_
    refine WC.region ?_
    refine WL.p rfl rfl rfl (P.move rfl) ?_
    refine WL.p rfl rfl rfl (P.lenR Tryz.underlying32 rfl) ?_
    refine WL.p rfl rfl rfl (P.move rfl) ?_
    refine WL.nil_ ?_
    refine End.seq ?_
    refine WC.block ?_
    refine WC.loopD (σ := Nat) (fun k => [(13, .int .i64 k)]) (fun k => []) (fun k => k ≤ xs.length ∧ xs.take k = ys.take k) (fun k => xs.length - k) 0 ⟨Nat.zero_le _, rfl⟩ (Env.sub_cons rfl (Env.sub_nil)) [] rfl rfl ?_
    rintro k ⟨hk, ht⟩
    refine WC.seq ?_
    refine WC.region ?_
    refine WL.p rfl rfl rfl (P.cmp rfl rfl rfl) ?_
    refine WL.nil_ ?_
    refine End.seq ?_
    refine WC.seq ?_
    refine WC.cond rfl (fun hc14 => ?_) (fun hc14 => ?_)
    ·
      try simp only [decide_eq_true_eq, decide_eq_false_iff_not, beq_iff_eq, beq_eq_false_iff_ne, bne_iff_ne, bne_eq_false_iff_eq, Bool.not_eq_true', Bool.not_eq_false', ne_eq, Int.not_lt, Int.not_le] at hc14
      obtain ⟨b, off, rfl, hcx⟩ := hr.at_ (by omega)
      obtain ⟨b', off', rfl, hcy⟩ := hr'.at_ (by omega)
      obtain ⟨x, hx⟩ := get_of_lt (xs := xs) (k := k) (by omega)
      obtain ⟨y, hy⟩ := get_of_lt (xs := ys) (k := k) (by omega)
      refine WC.skip ?_
      refine End.seq ?_
      refine WC.seq ?_
      refine WC.block ?_
      refine WC.seq ?_
      refine WC.region ?_
      refine WL.p rfl rfl rfl (P.move rfl) ?_
      refine WL.p rfl rfl rfl (P.assign rfl) ?_
      refine WL.nil_ ?_
      refine End.seq ?_
      refine WC.seq ?_
      refine WC.quiet (by kernel_rfl) ?_
      refine WQ.p rfl rfl rfl (P.move rfl) ?_
      refine WQ.p rfl rfl rfl (P.move rfl) ?_
      refine WQ.p rfl rfl rfl (P.elemAddr Tryz.underlying32 Tryz.sizeOf51 rfl rfl (by omega) (by omega)) ?_
      refine WQ.p rfl rfl rfl (P.loadBA (vs := (Gr.cells x).toArray) Tryz.isAgg51 Tryz.sizeOf51 rfl rfl (fun j v hv => hcx k x hx j v (by simpa [Gr.cells] using hv))) ?_
      refine WQ.p rfl rfl rfl (P.move rfl) ?_
      refine WQ.p rfl rfl rfl (P.move rfl) ?_
      refine WQ.p rfl rfl rfl (P.elemAddr Tryz.underlying32 Tryz.sizeOf51 rfl rfl (by omega) (by omega)) ?_
      refine WQ.p rfl rfl rfl (P.loadBA (vs := (Gr.cells y).toArray) Tryz.isAgg51 Tryz.sizeOf51 rfl rfl (fun j v hv => hcy k y hy j v (by simpa [Gr.cells] using hv))) ?_
      refine WQ.p rfl rfl rfl (P.neAgg egt51 rfl rfl (fun w => eq51 _ _ w)) ?_
      refine WQ.nil_ ?_
      refine End.seq ?_
      refine WC.cond rfl (fun hc24 => ?_) (fun hc24 => ?_)
      ·
        try simp only [decide_eq_true_eq, decide_eq_false_iff_not, beq_iff_eq, beq_eq_false_iff_ne, bne_iff_ne, bne_eq_false_iff_eq, Bool.not_eq_true', Bool.not_eq_false', ne_eq, Int.not_lt, Int.not_le] at hc24
        refine WC.seq ?_
        refine WC.region ?_
        refine WL.p rfl rfl rfl (P.assign rfl) ?_
        refine WL.nil_ ?_
        refine End.seq ?_
        refine WC.ret ?_
        refine End.blkR ?_
        refine End.thenR ?_
        refine End.thenR ?_
        refine End.blkR ?_
        refine End.thenR ?_
        refine End.ret1 rfl rfl ?_
        exact fun w' hs' => RetV.of (by rw [decide_eq_false (fun e => hc24 (by rw [e, hy] at hx; exact (Option.some.inj hx).symm))]) hs'
      ·
        try simp only [decide_eq_true_eq, decide_eq_false_iff_not, beq_iff_eq, beq_eq_false_iff_ne, bne_iff_ne, bne_eq_false_iff_eq, Bool.not_eq_true', Bool.not_eq_false', ne_eq, Int.not_lt, Int.not_le] at hc24
        refine WC.skip ?_
        refine End.blkN ?_
        refine End.seq ?_
        refine WC.region ?_
        refine WL.p rfl rfl rfl (P.ari64 rfl rfl rfl (by omega)) ?_
        refine WL.p rfl rfl rfl (P.move rfl) ?_
        refine WL.nil_ ?_
        refine End.againD (k + 1) ?_ ?_ rfl (Env.sub_cons rfl (Env.sub_nil)) rfl [] rfl rfl
        · exact ⟨by omega, by rw [take_snoc hx, take_snoc hy, ht, hc24]⟩
        · omega
    ·
      try simp only [decide_eq_true_eq, decide_eq_false_iff_not, beq_iff_eq, beq_eq_false_iff_ne, bne_iff_ne, bne_eq_false_iff_eq, Bool.not_eq_true', Bool.not_eq_false', ne_eq, Int.not_lt, Int.not_le] at hc14
      refine WC.exit ?_
      refine End.thenX ?_
      refine End.thenX ?_
      refine End.blkX ?_
      refine End.seq ?_
      refine WC.seq ?_
      refine WC.region ?_
      refine WL.p rfl rfl rfl (P.assign rfl) ?_
      refine WL.nil_ ?_
      refine End.seq ?_
      refine WC.ret ?_
      refine End.ret1 rfl rfl ?_
      have e : k = xs.length := by omega
      rw [List.take_of_length_le (by omega), List.take_of_length_le (by omega)] at ht
      exact fun w' hs' => RetV.of (by rw [decide_eq_true ht]) hs'

set_option maxRecDepth 100000 in
theorem ints_any (A A' : Option Addr) (c c' : Nat) (xs ys : List Int) (w : World) (hr : Sl encI 1 w A xs) (hr' : Sl encI 1 w A' ys) :
    Calls Tryz.prog 33 #[.slice A xs.length c, .slice A' ys.length c'] w (RetV w (.bool (decide (xs = ys)))) := by
  have hl := hr.1
  have hl' := hr'.1
  refine enter Tryz.func33 rfl Tryz.ntmps33 rfl ?_
  refine WC.seq ?_
  refine WC.region ?_
  refine WL.p rfl rfl rfl (P.assign rfl) ?_
  refine WL.nil_ ?_
  refine End.seq ?_
  refine WC.seq ?_
  refine WC.seq ?_
  refine WC.region ?_
  refine WL.p rfl rfl rfl (P.move rfl) ?_
  refine WL.p rfl rfl rfl (P.lenR Tryz.underlying22 rfl) ?_
  refine WL.p rfl rfl rfl (P.move rfl) ?_
  refine WL.p rfl rfl rfl (P.lenR Tryz.underlying22 rfl) ?_
  refine WL.p rfl rfl rfl (P.cmp rfl rfl rfl) ?_
  refine WL.nil_ ?_
  refine End.seq ?_
  refine WC.cond rfl (fun hc10 => ?_) (fun hc10 => ?_)
  ·
    try simp only [decide_eq_true_eq, decide_eq_false_iff_not, beq_iff_eq, beq_eq_false_iff_ne, bne_iff_ne, bne_eq_false_iff_eq, Bool.not_eq_true', Bool.not_eq_false', ne_eq, Int.not_lt, Int.not_le] at hc10
    refine WC.seq ?_
    refine WC.region ?_
    refine WL.p rfl rfl rfl (P.assign rfl) ?_
    refine WL.nil_ ?_
    refine End.seq ?_
    refine WC.ret ?_
    refine End.thenR ?_
    refine End.ret1 rfl rfl ?_
    exact fun w' hs' => RetV.of (by rw [decide_eq_false (fun e => hc10 (by rw [e]))]) hs'
  ·
    try simp only [decide_eq_true_eq, decide_eq_false_iff_not, beq_iff_eq, beq_eq_false_iff_ne, bne_iff_ne, bne_eq_false_iff_eq, Bool.not_eq_true', Bool.not_eq_false', ne_eq, Int.not_lt, Int.not_le] at hc10
    refine WC.skip ?_
    refine End.seq ?_
    refine WC.seq ?_
    refine WC.seq ?_
    refine WC.region ?_
    refine WL.p rfl rfl rfl (P.assign rfl) ?_
    refine WL.nil_ ?_
    refine End.seq ?_
    refine WC.block ?_
    refine WC.loopD (σ := Nat) (fun k => [(5, .int .i64 k)]) (fun k => []) (fun k => k ≤ xs.length ∧ xs.take k = ys.take k) (fun k => xs.length - k) 0 ⟨Nat.zero_le _, rfl⟩ (Env.sub_cons rfl (Env.sub_nil)) [] rfl rfl ?_
    rintro k ⟨hk, ht⟩
    refine WC.seq ?_
    refine WC.seq ?_
    refine WC.region ?_
    refine WL.p rfl rfl rfl (P.move rfl) ?_
    refine WL.p rfl rfl rfl (P.move rfl) ?_
    refine WL.p rfl rfl rfl (P.lenR Tryz.underlying22 rfl) ?_
    refine WL.p rfl rfl rfl (P.cmp rfl rfl rfl) ?_
    refine WL.nil_ ?_
    refine End.seq ?_
    refine WC.cond rfl (fun hc14 => ?_) (fun hc14 => ?_)
    ·
      try simp only [decide_eq_true_eq, decide_eq_false_iff_not, beq_iff_eq, beq_eq_false_iff_ne, bne_iff_ne, bne_eq_false_iff_eq, Bool.not_eq_true', Bool.not_eq_false', ne_eq, Int.not_lt, Int.not_le] at hc14
      obtain ⟨b, off, rfl, hcx⟩ := hr.at_ (by omega)
      obtain ⟨b', off', rfl, hcy⟩ := hr'.at_ (by omega)
      obtain ⟨x, hx⟩ := get_of_lt (xs := xs) (k := k) (by omega)
      obtain ⟨y, hy⟩ := get_of_lt (xs := ys) (k := k) (by omega)
      refine WC.skip ?_
      refine End.seq ?_
      refine WC.seq ?_
      refine WC.block ?_
      refine WC.seq ?_
      refine WC.quiet (by kernel_rfl) ?_
      refine WQ.p rfl rfl rfl (P.move rfl) ?_
      refine WQ.p rfl rfl rfl (P.move rfl) ?_
      refine WQ.p rfl rfl rfl (P.elemAddr Tryz.underlying22 Tryz.sizeOf3 rfl rfl (by omega) (by omega)) ?_
      refine WQ.p rfl rfl rfl (P.loadB Tryz.isAgg3 rfl (hcx k x hx 0 _ rfl)) ?_
      refine WQ.p rfl rfl rfl (P.move rfl) ?_
      refine WQ.p rfl rfl rfl (P.move rfl) ?_
      refine WQ.p rfl rfl rfl (P.elemAddr Tryz.underlying22 Tryz.sizeOf3 rfl rfl (by omega) (by omega)) ?_
      refine WQ.p rfl rfl rfl (P.loadB Tryz.isAgg3 rfl (hcy k y hy 0 _ rfl)) ?_
      refine WQ.p rfl rfl rfl (P.cmp rfl rfl rfl) ?_
      refine WQ.nil_ ?_
      refine End.seq ?_
      refine WC.cond rfl (fun hc25 => ?_) (fun hc25 => ?_)
      ·
        try simp only [decide_eq_true_eq, decide_eq_false_iff_not, beq_iff_eq, beq_eq_false_iff_ne, bne_iff_ne, bne_eq_false_iff_eq, Bool.not_eq_true', Bool.not_eq_false', ne_eq, Int.not_lt, Int.not_le] at hc25
        refine WC.seq ?_
        refine WC.region ?_
        refine WL.p rfl rfl rfl (P.assign rfl) ?_
        refine WL.nil_ ?_
        refine End.seq ?_
        refine WC.ret ?_
        refine End.blkR ?_
        refine End.thenR ?_
        refine End.thenR ?_
        refine End.blkR ?_
        refine End.thenR ?_
        refine End.ret1 rfl rfl ?_
        exact fun w' hs' => RetV.of (by rw [decide_eq_false (fun e => hc25 (by rw [e, hy] at hx; exact (Option.some.inj hx).symm))]) hs'
      ·
        try simp only [decide_eq_true_eq, decide_eq_false_iff_not, beq_iff_eq, beq_eq_false_iff_ne, bne_iff_ne, bne_eq_false_iff_eq, Bool.not_eq_true', Bool.not_eq_false', ne_eq, Int.not_lt, Int.not_le] at hc25
        refine WC.skip ?_
        refine End.blkN ?_
        refine End.seq ?_
        refine WC.region ?_
        refine WL.p rfl rfl rfl (P.move rfl) ?_
        refine WL.p rfl rfl rfl (P.ari64 rfl rfl rfl (by omega)) ?_
        refine WL.p rfl rfl rfl (P.assign rfl) ?_
        refine WL.nil_ ?_
        refine End.againD (k + 1) ?_ ?_ rfl (Env.sub_cons rfl (Env.sub_nil)) rfl [] rfl rfl
        · exact ⟨by omega, by rw [take_snoc hx, take_snoc hy, ht, hc25]⟩
        · omega
    ·
      try simp only [decide_eq_true_eq, decide_eq_false_iff_not, beq_iff_eq, beq_eq_false_iff_ne, bne_iff_ne, bne_eq_false_iff_eq, Bool.not_eq_true', Bool.not_eq_false', ne_eq, Int.not_lt, Int.not_le] at hc14
      refine WC.exit ?_
      refine End.thenX ?_
      refine End.thenX ?_
      refine End.blkX ?_
      refine End.seq ?_
      refine WC.seq ?_
      refine WC.region ?_
      refine WL.p rfl rfl rfl (P.assign rfl) ?_
      refine WL.nil_ ?_
      refine End.seq ?_
      refine WC.ret ?_
      refine End.ret1 rfl rfl ?_
      have e : k = xs.length := by omega
      rw [List.take_of_length_le (by omega), List.take_of_length_le (by omega)] at ht
      exact fun w' hs' => RetV.of (by rw [decide_eq_true ht]) hs'

end Go.Proofs.YtlkkiimmangplaaGreatDoor
