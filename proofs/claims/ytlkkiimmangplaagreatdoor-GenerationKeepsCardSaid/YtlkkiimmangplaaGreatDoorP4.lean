/- Numbers read. -/
import Derived.Test.YtlkkiimmangplaaGreatDoorP3
namespace Go.Proofs.YtlkkiimmangplaaGreatDoor
open Go.RowKit
set_option linter.unusedVariables false
set_option linter.unusedSimpArgs false

/-- A number at the front of bytes, and how many bytes it has; 0 for none. -/
def decF : Nat → Nat → Int → List UInt8 → Int × Int
  | 0, _, _, _ => (0, 0)
  | f + 1, i, n, l => match l[i]? with
    | none => (0, 0)
    | some b => if i = 9 ∧ 1 < (b.toNat : Int) then (0, 0) else
      if (b.toNat : Int) < 128 then (if (b.toNat : Int) = 0 ∧ 0 < i then (0, 0) else (n + ((b.toNat : Int) % 128) * 2 ^ (7 * i), (i : Int) + 1))
      else decF f (i + 1) (n + ((b.toNat : Int) % 128) * 2 ^ (7 * i)) l
theorem and127 (c : UInt8) (w : World) : (Op.intBits .and .u8 (c.toNat : Int) 127).run Tryz.prog w = .ok (.int .u8 ((c.toNat : Int) % 128)) w := by
  have key : ∀ m : Nat, m < 256 → bits .and .u8 (m : Int) 127 = (m : Int) % 128 := by decide +kernel
  rw [intBits_and, key _ c.toNat_lt]
  simp
theorem or64 {n x : Int} {k : Nat} (h0 : 0 ≤ n) (h1 : n < 2 ^ k) (hx : 0 ≤ x) (hb : n + x * 2 ^ k < 18446744073709551616) (w : World) : (Op.intBits .or .u64 n (x * 2 ^ k)).run Tryz.prog w = .ok (.int .u64 (n + x * 2 ^ k)) w := by
  obtain ⟨m, rfl⟩ := Int.eq_ofNat_of_zero_le h0
  obtain ⟨a, rfl⟩ := Int.eq_ofNat_of_zero_le hx
  have hm : m < 2 ^ k := by
    have : ((2 ^ k : Nat) : Int) = (2 : Int) ^ k := by simp
    omega
  have hs : m + a * 2 ^ k < 18446744073709551616 := by
    have : ((m + a * 2 ^ k : Nat) : Int) = (m : Int) + (a : Int) * 2 ^ k := by simp
    omega
  have hor : m ||| a * 2 ^ k = m + a * 2 ^ k := by
    rw [Nat.or_comm, Nat.mul_comm, ← Nat.two_pow_add_eq_or_of_lt hm, Nat.add_comm]
  have e2 : ((a : Int) * 2 ^ k) = ((a * 2 ^ k : Nat) : Int) := by simp
  have hb1 : bits .or .u64 (m : Int) ((a * 2 ^ k : Nat) : Int) = ((m + a * 2 ^ k : Nat) : Int) := by
    have hv : (BitVec.ofInt 64 (m : Int) ||| BitVec.ofInt 64 ((a * 2 ^ k : Nat) : Int)).toNat = m + a * 2 ^ k := by
      rw [BitVec.toNat_or, BitVec.toNat_ofInt, BitVec.toNat_ofInt]
      have q1 : ((m : Int) % ((2 ^ 64 : Nat) : Int)).toNat = m := by omega
      have q2 : (((a * 2 ^ k : Nat) : Int) % ((2 ^ 64 : Nat) : Int)).toNat = a * 2 ^ k := by omega
      rw [q1, q2, hor]
    show IntKind.u64.wrap ((BitVec.ofInt 64 (m : Int) ||| BitVec.ofInt 64 ((a * 2 ^ k : Nat) : Int)).toNat : Int) = _
    rw [hv, wrap_u64 (by omega) (by omega)]
  rw [intBits_or, e2, hb1]
  simp
theorem pow7 {i : Nat} {n x : Int} (hi : i ≤ 9) (h0 : 0 ≤ n) (hn : n < 2 ^ (7 * i)) (hx : 0 ≤ x) (hx1 : x < 128) (h9 : i = 9 → x ≤ 1) : n + x * 2 ^ (7 * i) < 18446744073709551616 := by
  rcases (by omega : i = 0 ∨ i = 1 ∨ i = 2 ∨ i = 3 ∨ i = 4 ∨ i = 5 ∨ i = 6 ∨ i = 7 ∨ i = 8 ∨ i = 9) with rfl | rfl | rfl | rfl | rfl | rfl | rfl | rfl | rfl | rfl <;> simp at hn h9 ⊢ <;> omega
theorem pow7s {i : Nat} {n x : Int} (hi : i ≤ 8) (h0 : 0 ≤ n) (hn : n < 2 ^ (7 * i)) (hx : 0 ≤ x) (hx1 : x < 128) : n + x * 2 ^ (7 * i) < 2 ^ (7 * (i + 1)) := by
  rcases (by omega : i = 0 ∨ i = 1 ∨ i = 2 ∨ i = 3 ∨ i = 4 ∨ i = 5 ∨ i = 6 ∨ i = 7 ∨ i = 8) with rfl | rfl | rfl | rfl | rfl | rfl | rfl | rfl | rfl <;> simp at hn ⊢ <;> omega
theorem pow7p {i : Nat} {x : Int} (hx : 0 ≤ x) : 0 ≤ x * 2 ^ (7 * i) := Int.mul_nonneg hx (Int.pow_nonneg (by decide))
theorem decF_over {f i : Nat} {n : Int} {l : List UInt8} {b : UInt8} (h : l[i]? = some b) (h9 : i = 9 ∧ 1 < (b.toNat : Int)) : decF (f + 1) i n l = (0, 0) := by
  rw [decF]; simp only [h]; rw [if_pos h9]
theorem decF_zero {f i : Nat} {n : Int} {l : List UInt8} {b : UInt8} (h : l[i]? = some b) (h0 : (b.toNat : Int) = 0 ∧ 0 < i) : decF (f + 1) i n l = (0, 0) := by
  rw [decF]; simp only [h]; rw [if_neg (by omega), if_pos (by omega), if_pos h0]
theorem decF_done {f i : Nat} {n : Int} {l : List UInt8} {b : UInt8} (h : l[i]? = some b) (h9 : ¬ (i = 9 ∧ 1 < (b.toNat : Int))) (hb : (b.toNat : Int) < 128) (h0 : ¬ ((b.toNat : Int) = 0 ∧ 0 < i)) : decF (f + 1) i n l = (n + ((b.toNat : Int) % 128) * 2 ^ (7 * i), (i : Int) + 1) := by
  rw [decF]; simp only [h]; rw [if_neg h9, if_pos hb, if_neg h0]
theorem decF_next {f i : Nat} {n : Int} {l : List UInt8} {b : UInt8} (h : l[i]? = some b) (h9 : ¬ (i = 9 ∧ 1 < (b.toNat : Int))) (hb : ¬ (b.toNat : Int) < 128) : decF (f + 1) i n l = decF f (i + 1) (n + ((b.toNat : Int) % 128) * 2 ^ (7 * i)) l := by
  rw [decF]; simp only [h]; rw [if_neg h9, if_neg hb]
theorem decF_none {f i : Nat} {n : Int} {l : List UInt8} (h : l[i]? = none) : decF f i n l = (0, 0) := by cases f <;> simp [decF, h]

set_option maxRecDepth 100000 in
theorem decode_any (s : ByteArray) (w : World) (hs : s.size < 4294967296) :
    Calls Tryz.prog 309 #[.string s] w (RetV w (.tuple #[.int .u64 (decF 10 0 0 s.data.toList).1, .int .i64 (decF 10 0 0 s.data.toList).2])) := by
  have hl : s.size = s.data.toList.length := rfl
  refine enter Tryz.func309 rfl Tryz.ntmps309 rfl ?_
  refine WC.seq ?_
  refine WC.region ?_
  refine WL.p rfl rfl rfl (P.assign rfl) ?_
  refine WL.p rfl rfl rfl (P.assign rfl) ?_
  refine WL.nil_ ?_
  refine End.seq ?_
  refine WC.seq ?_
  refine WC.region ?_
  refine WL.p rfl rfl rfl (P.assign rfl) ?_
  refine WL.nil_ ?_
  refine End.seq ?_
  refine WC.seq ?_
  refine WC.seq ?_
  refine WC.region ?_
  refine WL.p rfl rfl rfl (P.assign rfl) ?_
  refine WL.nil_ ?_
  refine End.seq ?_
  refine WC.block ?_
  refine WC.loopD (σ := Nat × Int) (fun (i, n) => [(5, .int .i64 (i : Nat)), (4, .int .u64 n)]) (fun (i, n) => []) (fun (i, n) => i ≤ 9 ∧ 0 ≤ n ∧ n < 2 ^ (7 * i) ∧ decF (10 - i) i n s.data.toList = decF 10 0 0 s.data.toList) (fun (i, n) => 9 - i) (0, 0) ⟨by decide, by decide, by decide, rfl⟩ (Env.sub_cons rfl (Env.sub_cons rfl (Env.sub_nil))) [] rfl rfl ?_
  rintro ⟨i, n⟩ ⟨hi, hn0, hn1, hd⟩
  refine WC.seq ?_
  refine WC.seq ?_
  refine WC.region ?_
  refine WL.p rfl rfl rfl (P.move rfl) ?_
  refine WL.p rfl rfl rfl (P.move rfl) ?_
  refine WL.p rfl rfl rfl (P.lenS Tryz.underlying9 rfl) ?_
  refine WL.p rfl rfl rfl (P.cmp rfl rfl rfl) ?_
  refine WL.p rfl rfl rfl (P.move rfl) ?_
  refine WL.split 11 rfl (fun hs11 => ?_) (fun hs11 => ?_)
  ·
    try simp only [decide_eq_true_eq, decide_eq_false_iff_not, beq_iff_eq, beq_eq_false_iff_ne, bne_iff_ne, bne_eq_false_iff_eq, Bool.not_eq_true', Bool.not_eq_false', ne_eq, Int.not_lt, Int.not_le] at hs11
    refine WL.p rfl rfl rfl (P.move rfl) ?_
    refine WL.p rfl rfl rfl (P.cmp rfl rfl rfl) ?_
    refine WL.p rfl rfl rfl (P.pickT rfl rfl) ?_
    refine WL.nil_ ?_
    refine End.seq ?_
    refine WC.cond rfl (fun hc14 => ?_) (fun hc14 => ?_)
    ·
      try simp only [decide_eq_true_eq, decide_eq_false_iff_not, beq_iff_eq, beq_eq_false_iff_ne, bne_iff_ne, bne_eq_false_iff_eq, Bool.not_eq_true', Bool.not_eq_false', ne_eq, Int.not_lt, Int.not_le] at hc14
      obtain ⟨b, hbx⟩ := get_of_lt (xs := s.data.toList) (k := i) (by omega)
      refine WC.skip ?_
      refine End.seq ?_
      refine WC.seq ?_
      refine WC.block ?_
      refine WC.seq ?_
      refine WC.region ?_
      refine WL.p rfl rfl rfl (P.move rfl) ?_
      refine WL.p rfl rfl rfl (P.move rfl) ?_
      refine WL.p rfl rfl rfl (P.byte Tryz.underlying9 rfl rfl (by omega) (by omega)) ?_
      refine WL.is 19 rfl (show _ = Value.int .u8 (b.toNat : Int) by rw [show ((i : Int)).toNat = i by omega, hbx]; rfl) ?_
      refine WL.p rfl rfl rfl (P.assign rfl) ?_
      refine WL.nil_ ?_
      refine End.seq ?_
      refine WC.seq ?_
      refine WC.seq ?_
      refine WC.region ?_
      refine WL.p rfl rfl rfl (P.move rfl) ?_
      refine WL.p rfl rfl rfl (P.cmp rfl rfl rfl) ?_
      refine WL.p rfl rfl rfl (P.move rfl) ?_
      refine WL.split 22 rfl (fun hs22 => ?_) (fun hs22 => ?_)
      ·
        try simp only [decide_eq_true_eq, decide_eq_false_iff_not, beq_iff_eq, beq_eq_false_iff_ne, bne_iff_ne, bne_eq_false_iff_eq, Bool.not_eq_true', Bool.not_eq_false', ne_eq, Int.not_lt, Int.not_le] at hs22
        refine WL.p rfl rfl rfl (P.move rfl) ?_
        refine WL.p rfl rfl rfl (P.cmp rfl rfl rfl) ?_
        refine WL.p rfl rfl rfl (P.pickT rfl rfl) ?_
        refine WL.nil_ ?_
        refine End.seq ?_
        refine WC.cond rfl (fun hc25 => ?_) (fun hc25 => ?_)
        ·
          try simp only [decide_eq_true_eq, decide_eq_false_iff_not, beq_iff_eq, beq_eq_false_iff_ne, bne_iff_ne, bne_eq_false_iff_eq, Bool.not_eq_true', Bool.not_eq_false', ne_eq, Int.not_lt, Int.not_le] at hc25
          refine WC.seq ?_
          refine WC.region ?_
          refine WL.p rfl rfl rfl (P.assign rfl) ?_
          refine WL.p rfl rfl rfl (P.assign rfl) ?_
          refine WL.nil_ ?_
          refine End.seq ?_
          refine WC.ret ?_
          refine End.thenR ?_
          refine End.blkR ?_
          refine End.thenR ?_
          refine End.thenR ?_
          refine End.blkR ?_
          refine End.thenR ?_
          refine End.ret2 rfl rfl rfl ?_
          exact fun w' hs' => RetV.of (by rw [← hd, show 10 - i = (9 - i) + 1 by omega, decF_over hbx (by omega)]) hs'
        ·
          try simp only [decide_eq_true_eq, decide_eq_false_iff_not, beq_iff_eq, beq_eq_false_iff_ne, bne_iff_ne, bne_eq_false_iff_eq, Bool.not_eq_true', Bool.not_eq_false', ne_eq, Int.not_lt, Int.not_le] at hc25
          refine WC.skip ?_
          refine End.seq ?_
          refine WC.seq ?_
          refine WC.region ?_
          have hb9 : i = 9 → (b.toNat : Int) ≤ 1 := fun e => by omega
          have hb := u8_lt b
          have hx9 : i = 9 → (b.toNat : Int) % 128 ≤ 1 := fun e => by have := hb9 e; omega
          have hsum := pow7 (x := (b.toNat : Int) % 128) hi hn0 hn1 (by omega) (by omega) hx9
          have hpos := pow7p (i := i) (x := (b.toNat : Int) % 128) (by omega)
          have et : ((7 : Int) * (i : Int)).toNat = 7 * i := by omega
          refine WL.p rfl rfl rfl (P.move rfl) ?_
          refine WL.p rfl rfl rfl (P.move rfl) ?_
          refine WL.p rfl rfl rfl (P.bits rfl rfl rfl (and127 b)) ?_
          refine WL.p rfl rfl rfl (P.conv (by kernel_rfl) Tryz.underlying255 rfl (wrap_u64 (by omega) (by omega))) ?_
          refine WL.p rfl rfl rfl (P.move rfl) ?_
          refine WL.p rfl rfl rfl (P.ari64 rfl rfl rfl (by omega)) ?_
          refine WL.p rfl rfl rfl (P.shl (r := ((b.toNat : Int) % 128) * 2 ^ (7 * i)) rfl rfl (by omega) (by show (7 * (i : Int)) ≤ 64; omega) (by rw [et]; exact wrap_u64 hpos (by omega))) ?_
          refine WL.p rfl rfl rfl (P.bits rfl rfl rfl (or64 hn0 hn1 (by omega) hsum)) ?_
          refine WL.p rfl rfl rfl (P.assign rfl) ?_
          refine WL.nil_ ?_
          refine End.seq ?_
          refine WC.seq ?_
          refine WC.region ?_
          refine WL.p rfl rfl rfl (P.move rfl) ?_
          refine WL.p rfl rfl rfl (P.cmp rfl rfl rfl) ?_
          refine WL.nil_ ?_
          refine End.seq ?_
          refine WC.cond rfl (fun hc35 => ?_) (fun hc35 => ?_)
          ·
            try simp only [decide_eq_true_eq, decide_eq_false_iff_not, beq_iff_eq, beq_eq_false_iff_ne, bne_iff_ne, bne_eq_false_iff_eq, Bool.not_eq_true', Bool.not_eq_false', ne_eq, Int.not_lt, Int.not_le] at hc35
            refine WC.seq ?_
            refine WC.seq ?_
            refine WC.region ?_
            refine WL.p rfl rfl rfl (P.move rfl) ?_
            refine WL.p rfl rfl rfl (P.cmp rfl rfl rfl) ?_
            refine WL.p rfl rfl rfl (P.move rfl) ?_
            refine WL.split 38 rfl (fun hs38 => ?_) (fun hs38 => ?_)
            ·
              try simp only [decide_eq_true_eq, decide_eq_false_iff_not, beq_iff_eq, beq_eq_false_iff_ne, bne_iff_ne, bne_eq_false_iff_eq, Bool.not_eq_true', Bool.not_eq_false', ne_eq, Int.not_lt, Int.not_le] at hs38
              refine WL.p rfl rfl rfl (P.move rfl) ?_
              refine WL.p rfl rfl rfl (P.cmp rfl rfl rfl) ?_
              refine WL.p rfl rfl rfl (P.pickT rfl rfl) ?_
              refine WL.nil_ ?_
              refine End.seq ?_
              refine WC.cond rfl (fun hc41 => ?_) (fun hc41 => ?_)
              ·
                try simp only [decide_eq_true_eq, decide_eq_false_iff_not, beq_iff_eq, beq_eq_false_iff_ne, bne_iff_ne, bne_eq_false_iff_eq, Bool.not_eq_true', Bool.not_eq_false', ne_eq, Int.not_lt, Int.not_le] at hc41
                refine WC.seq ?_
                refine WC.region ?_
                refine WL.p rfl rfl rfl (P.assign rfl) ?_
                refine WL.p rfl rfl rfl (P.assign rfl) ?_
                refine WL.nil_ ?_
                refine End.seq ?_
                refine WC.ret ?_
                refine End.thenR ?_
                refine End.blkR ?_
                refine End.thenR ?_
                refine End.thenR ?_
                refine End.blkR ?_
                refine End.thenR ?_
                refine End.ret2 rfl rfl rfl ?_
                exact fun w' hs' => RetV.of (by rw [← hd, show 10 - i = (9 - i) + 1 by omega, decF_zero hbx (by omega)]) hs'
              ·
                try simp only [decide_eq_true_eq, decide_eq_false_iff_not, beq_iff_eq, beq_eq_false_iff_ne, bne_iff_ne, bne_eq_false_iff_eq, Bool.not_eq_true', Bool.not_eq_false', ne_eq, Int.not_lt, Int.not_le] at hc41
                refine WC.skip ?_
                refine End.seq ?_
                refine WC.seq ?_
                refine WC.region ?_
                refine WL.p rfl rfl rfl (P.move rfl) ?_
                refine WL.p rfl rfl rfl (P.move rfl) ?_
                refine WL.p rfl rfl rfl (P.ari64 rfl rfl rfl (by omega)) ?_
                refine WL.p rfl rfl rfl (P.assign rfl) ?_
                refine WL.p rfl rfl rfl (P.assign rfl) ?_
                refine WL.nil_ ?_
                refine End.seq ?_
                refine WC.ret ?_
                refine End.blkR ?_
                refine End.thenR ?_
                refine End.thenR ?_
                refine End.blkR ?_
                refine End.thenR ?_
                refine End.ret2 rfl rfl rfl ?_
                exact fun w' hs' => RetV.of (by rw [← hd, show 10 - i = (9 - i) + 1 by omega, decF_done hbx (by omega) (by omega) (by omega)]) hs'
            ·
              try simp only [decide_eq_true_eq, decide_eq_false_iff_not, beq_iff_eq, beq_eq_false_iff_ne, bne_iff_ne, bne_eq_false_iff_eq, Bool.not_eq_true', Bool.not_eq_false', ne_eq, Int.not_lt, Int.not_le] at hs38
              refine WL.off rfl rfl ?_
              refine WL.off rfl rfl ?_
              refine WL.p rfl rfl rfl (P.pickF rfl rfl) ?_
              refine WL.nil_ ?_
              refine End.seq ?_
              refine WC.condF rfl ?_
              refine WC.skip ?_
              refine End.seq ?_
              refine WC.seq ?_
              refine WC.region ?_
              refine WL.p rfl rfl rfl (P.move rfl) ?_
              refine WL.p rfl rfl rfl (P.move rfl) ?_
              refine WL.p rfl rfl rfl (P.ari64 rfl rfl rfl (by omega)) ?_
              refine WL.p rfl rfl rfl (P.assign rfl) ?_
              refine WL.p rfl rfl rfl (P.assign rfl) ?_
              refine WL.nil_ ?_
              refine End.seq ?_
              refine WC.ret ?_
              refine End.blkR ?_
              refine End.thenR ?_
              refine End.thenR ?_
              refine End.blkR ?_
              refine End.thenR ?_
              refine End.ret2 rfl rfl rfl ?_
              exact fun w' hs' => RetV.of (by rw [← hd, show 10 - i = (9 - i) + 1 by omega, decF_done hbx (by omega) (by omega) (by omega)]) hs'
          ·
            try simp only [decide_eq_true_eq, decide_eq_false_iff_not, beq_iff_eq, beq_eq_false_iff_ne, bne_iff_ne, bne_eq_false_iff_eq, Bool.not_eq_true', Bool.not_eq_false', ne_eq, Int.not_lt, Int.not_le] at hc35
            refine WC.skip ?_
            refine End.blkN ?_
            refine End.seq ?_
            refine WC.region ?_
            refine WL.p rfl rfl rfl (P.move rfl) ?_
            refine WL.p rfl rfl rfl (P.ari64 rfl rfl rfl (by omega)) ?_
            refine WL.p rfl rfl rfl (P.assign rfl) ?_
            refine WL.nil_ ?_
            refine End.againD (i + 1, n + ((b.toNat : Int) % 128) * 2 ^ (7 * i)) ?_ ?_ rfl (Env.sub_cons rfl (Env.sub_cons rfl (Env.sub_nil))) rfl [] rfl rfl
            · exact ⟨by omega, by omega, pow7s (by omega) hn0 hn1 (by omega) (by omega), by rw [← hd, show 10 - i = (10 - (i + 1)) + 1 by omega]; exact (decF_next hbx (by omega) (by omega)).symm⟩
            · show 9 - (i + 1) < 9 - i; omega
      ·
        try simp only [decide_eq_true_eq, decide_eq_false_iff_not, beq_iff_eq, beq_eq_false_iff_ne, bne_iff_ne, bne_eq_false_iff_eq, Bool.not_eq_true', Bool.not_eq_false', ne_eq, Int.not_lt, Int.not_le] at hs22
        refine WL.off rfl rfl ?_
        refine WL.off rfl rfl ?_
        refine WL.p rfl rfl rfl (P.pickF rfl rfl) ?_
        refine WL.nil_ ?_
        refine End.seq ?_
        refine WC.condF rfl ?_
        refine WC.skip ?_
        refine End.seq ?_
        refine WC.seq ?_
        refine WC.region ?_
        have hb9 : i = 9 → (b.toNat : Int) ≤ 1 := fun e => by omega
        have hb := u8_lt b
        have hx9 : i = 9 → (b.toNat : Int) % 128 ≤ 1 := fun e => by have := hb9 e; omega
        have hsum := pow7 (x := (b.toNat : Int) % 128) hi hn0 hn1 (by omega) (by omega) hx9
        have hpos := pow7p (i := i) (x := (b.toNat : Int) % 128) (by omega)
        have et : ((7 : Int) * (i : Int)).toNat = 7 * i := by omega
        refine WL.p rfl rfl rfl (P.move rfl) ?_
        refine WL.p rfl rfl rfl (P.move rfl) ?_
        refine WL.p rfl rfl rfl (P.bits rfl rfl rfl (and127 b)) ?_
        refine WL.p rfl rfl rfl (P.conv (by kernel_rfl) Tryz.underlying255 rfl (wrap_u64 (by omega) (by omega))) ?_
        refine WL.p rfl rfl rfl (P.move rfl) ?_
        refine WL.p rfl rfl rfl (P.ari64 rfl rfl rfl (by omega)) ?_
        refine WL.p rfl rfl rfl (P.shl (r := ((b.toNat : Int) % 128) * 2 ^ (7 * i)) rfl rfl (by omega) (by show (7 * (i : Int)) ≤ 64; omega) (by rw [et]; exact wrap_u64 hpos (by omega))) ?_
        refine WL.p rfl rfl rfl (P.bits rfl rfl rfl (or64 hn0 hn1 (by omega) hsum)) ?_
        refine WL.p rfl rfl rfl (P.assign rfl) ?_
        refine WL.nil_ ?_
        refine End.seq ?_
        refine WC.seq ?_
        refine WC.region ?_
        refine WL.p rfl rfl rfl (P.move rfl) ?_
        refine WL.p rfl rfl rfl (P.cmp rfl rfl rfl) ?_
        refine WL.nil_ ?_
        refine End.seq ?_
        refine WC.cond rfl (fun hc35 => ?_) (fun hc35 => ?_)
        ·
          try simp only [decide_eq_true_eq, decide_eq_false_iff_not, beq_iff_eq, beq_eq_false_iff_ne, bne_iff_ne, bne_eq_false_iff_eq, Bool.not_eq_true', Bool.not_eq_false', ne_eq, Int.not_lt, Int.not_le] at hc35
          refine WC.seq ?_
          refine WC.seq ?_
          refine WC.region ?_
          refine WL.p rfl rfl rfl (P.move rfl) ?_
          refine WL.p rfl rfl rfl (P.cmp rfl rfl rfl) ?_
          refine WL.p rfl rfl rfl (P.move rfl) ?_
          refine WL.split 38 rfl (fun hs38 => ?_) (fun hs38 => ?_)
          ·
            try simp only [decide_eq_true_eq, decide_eq_false_iff_not, beq_iff_eq, beq_eq_false_iff_ne, bne_iff_ne, bne_eq_false_iff_eq, Bool.not_eq_true', Bool.not_eq_false', ne_eq, Int.not_lt, Int.not_le] at hs38
            refine WL.p rfl rfl rfl (P.move rfl) ?_
            refine WL.p rfl rfl rfl (P.cmp rfl rfl rfl) ?_
            refine WL.p rfl rfl rfl (P.pickT rfl rfl) ?_
            refine WL.nil_ ?_
            refine End.seq ?_
            refine WC.cond rfl (fun hc41 => ?_) (fun hc41 => ?_)
            ·
              try simp only [decide_eq_true_eq, decide_eq_false_iff_not, beq_iff_eq, beq_eq_false_iff_ne, bne_iff_ne, bne_eq_false_iff_eq, Bool.not_eq_true', Bool.not_eq_false', ne_eq, Int.not_lt, Int.not_le] at hc41
              refine WC.seq ?_
              refine WC.region ?_
              refine WL.p rfl rfl rfl (P.assign rfl) ?_
              refine WL.p rfl rfl rfl (P.assign rfl) ?_
              refine WL.nil_ ?_
              refine End.seq ?_
              refine WC.ret ?_
              refine End.thenR ?_
              refine End.blkR ?_
              refine End.thenR ?_
              refine End.thenR ?_
              refine End.blkR ?_
              refine End.thenR ?_
              refine End.ret2 rfl rfl rfl ?_
              exact fun w' hs' => RetV.of (by rw [← hd, show 10 - i = (9 - i) + 1 by omega, decF_zero hbx (by omega)]) hs'
            ·
              try simp only [decide_eq_true_eq, decide_eq_false_iff_not, beq_iff_eq, beq_eq_false_iff_ne, bne_iff_ne, bne_eq_false_iff_eq, Bool.not_eq_true', Bool.not_eq_false', ne_eq, Int.not_lt, Int.not_le] at hc41
              refine WC.skip ?_
              refine End.seq ?_
              refine WC.seq ?_
              refine WC.region ?_
              refine WL.p rfl rfl rfl (P.move rfl) ?_
              refine WL.p rfl rfl rfl (P.move rfl) ?_
              refine WL.p rfl rfl rfl (P.ari64 rfl rfl rfl (by omega)) ?_
              refine WL.p rfl rfl rfl (P.assign rfl) ?_
              refine WL.p rfl rfl rfl (P.assign rfl) ?_
              refine WL.nil_ ?_
              refine End.seq ?_
              refine WC.ret ?_
              refine End.blkR ?_
              refine End.thenR ?_
              refine End.thenR ?_
              refine End.blkR ?_
              refine End.thenR ?_
              refine End.ret2 rfl rfl rfl ?_
              exact fun w' hs' => RetV.of (by rw [← hd, show 10 - i = (9 - i) + 1 by omega, decF_done hbx (by omega) (by omega) (by omega)]) hs'
          ·
            try simp only [decide_eq_true_eq, decide_eq_false_iff_not, beq_iff_eq, beq_eq_false_iff_ne, bne_iff_ne, bne_eq_false_iff_eq, Bool.not_eq_true', Bool.not_eq_false', ne_eq, Int.not_lt, Int.not_le] at hs38
            refine WL.off rfl rfl ?_
            refine WL.off rfl rfl ?_
            refine WL.p rfl rfl rfl (P.pickF rfl rfl) ?_
            refine WL.nil_ ?_
            refine End.seq ?_
            refine WC.condF rfl ?_
            refine WC.skip ?_
            refine End.seq ?_
            refine WC.seq ?_
            refine WC.region ?_
            refine WL.p rfl rfl rfl (P.move rfl) ?_
            refine WL.p rfl rfl rfl (P.move rfl) ?_
            refine WL.p rfl rfl rfl (P.ari64 rfl rfl rfl (by omega)) ?_
            refine WL.p rfl rfl rfl (P.assign rfl) ?_
            refine WL.p rfl rfl rfl (P.assign rfl) ?_
            refine WL.nil_ ?_
            refine End.seq ?_
            refine WC.ret ?_
            refine End.blkR ?_
            refine End.thenR ?_
            refine End.thenR ?_
            refine End.blkR ?_
            refine End.thenR ?_
            refine End.ret2 rfl rfl rfl ?_
            exact fun w' hs' => RetV.of (by rw [← hd, show 10 - i = (9 - i) + 1 by omega, decF_done hbx (by omega) (by omega) (by omega)]) hs'
        ·
          try simp only [decide_eq_true_eq, decide_eq_false_iff_not, beq_iff_eq, beq_eq_false_iff_ne, bne_iff_ne, bne_eq_false_iff_eq, Bool.not_eq_true', Bool.not_eq_false', ne_eq, Int.not_lt, Int.not_le] at hc35
          refine WC.skip ?_
          refine End.blkN ?_
          refine End.seq ?_
          refine WC.region ?_
          refine WL.p rfl rfl rfl (P.move rfl) ?_
          refine WL.p rfl rfl rfl (P.ari64 rfl rfl rfl (by omega)) ?_
          refine WL.p rfl rfl rfl (P.assign rfl) ?_
          refine WL.nil_ ?_
          refine End.againD (i + 1, n + ((b.toNat : Int) % 128) * 2 ^ (7 * i)) ?_ ?_ rfl (Env.sub_cons rfl (Env.sub_cons rfl (Env.sub_nil))) rfl [] rfl rfl
          · exact ⟨by omega, by omega, pow7s (by omega) hn0 hn1 (by omega) (by omega), by rw [← hd, show 10 - i = (10 - (i + 1)) + 1 by omega]; exact (decF_next hbx (by omega) (by omega)).symm⟩
          · show 9 - (i + 1) < 9 - i; omega
    ·
      try simp only [decide_eq_true_eq, decide_eq_false_iff_not, beq_iff_eq, beq_eq_false_iff_ne, bne_iff_ne, bne_eq_false_iff_eq, Bool.not_eq_true', Bool.not_eq_false', ne_eq, Int.not_lt, Int.not_le] at hc14
      refine WC.exit ?_
      refine End.thenX ?_
      refine End.thenX ?_
      refine End.blkX ?_
      refine End.seq ?_
      refine WC.seq ?_
      refine WC.region ?_
      refine WL.p rfl rfl rfl (P.assign rfl) ?_
      refine WL.p rfl rfl rfl (P.assign rfl) ?_
      refine WL.nil_ ?_
      refine End.seq ?_
      refine WC.ret ?_
      refine End.ret2 rfl rfl rfl ?_
      omega
  ·
    try simp only [decide_eq_true_eq, decide_eq_false_iff_not, beq_iff_eq, beq_eq_false_iff_ne, bne_iff_ne, bne_eq_false_iff_eq, Bool.not_eq_true', Bool.not_eq_false', ne_eq, Int.not_lt, Int.not_le] at hs11
    refine WL.off rfl rfl ?_
    refine WL.off rfl rfl ?_
    refine WL.p rfl rfl rfl (P.pickF rfl rfl) ?_
    refine WL.nil_ ?_
    refine End.seq ?_
    refine WC.condF rfl ?_
    refine WC.exit ?_
    refine End.thenX ?_
    refine End.thenX ?_
    refine End.blkX ?_
    refine End.seq ?_
    refine WC.seq ?_
    refine WC.region ?_
    refine WL.p rfl rfl rfl (P.assign rfl) ?_
    refine WL.p rfl rfl rfl (P.assign rfl) ?_
    refine WL.nil_ ?_
    refine End.seq ?_
    refine WC.ret ?_
    refine End.ret2 rfl rfl rfl ?_
    exact fun w' hs' => RetV.of (by rw [← hd, decF_none (List.getElem?_eq_none (by omega))]) hs'

end Go.Proofs.YtlkkiimmangplaaGreatDoor
