/- The reference's names. -/
import Derived.Test.YtlkkiimmangplaaGreatDoorP16
namespace Go.Proofs.YtlkkiimmangplaaGreatDoor
open Go.RowKit
set_option linter.unusedVariables false
set_option linter.unusedSimpArgs false

set_option maxRecDepth 100000 in
theorem refDigit_any (c : Int) (w : World) :
    Calls Tryz.prog 273 #[.int .u8 c] w (RetV w (.bool (isDigit c))) := by
  refine enter Tryz.func273 rfl Tryz.ntmps273 rfl ?_
  refine WC.seq ?_
  refine WC.region ?_
  refine WL.p rfl rfl rfl (P.assign rfl) ?_
  refine WL.nil_ ?_
  refine End.seq ?_
  refine WC.seq ?_
  refine WC.region ?_
  refine WL.p rfl rfl rfl (P.move rfl) ?_
  refine WL.p rfl rfl rfl (P.cmp rfl rfl rfl) ?_
  refine WL.p rfl rfl rfl (P.move rfl) ?_
  refine WL.split 5 rfl (fun hs5 => ?_) (fun hs5 => ?_)
  ·
    refine WL.p rfl rfl rfl (P.move rfl) ?_
    refine WL.p rfl rfl rfl (P.cmp rfl rfl rfl) ?_
    refine WL.p rfl rfl rfl (P.pickT rfl rfl) ?_
    refine WL.p rfl rfl rfl (P.assign rfl) ?_
    refine WL.nil_ ?_
    refine End.seq ?_
    refine WC.ret ?_
    refine End.ret1 rfl rfl ?_
    exact fun w' hs' => RetV.of (by simp [isDigit, hs5]) hs'
  ·
    refine WL.off rfl rfl ?_
    refine WL.off rfl rfl ?_
    refine WL.p rfl rfl rfl (P.pickF rfl rfl) ?_
    refine WL.p rfl rfl rfl (P.assign rfl) ?_
    refine WL.nil_ ?_
    refine End.seq ?_
    refine WC.ret ?_
    refine End.ret1 rfl rfl ?_
    exact fun w' hs' => RetV.of (by simp [isDigit, hs5]) hs'

set_option maxRecDepth 100000 in
theorem refLetter_any (c : Int) (w : World) :
    Calls Tryz.prog 283 #[.int .u8 c] w (RetV w (.bool (isUpper c))) := by
  refine enter Tryz.func283 rfl Tryz.ntmps283 rfl ?_
  refine WC.seq ?_
  refine WC.region ?_
  refine WL.p rfl rfl rfl (P.assign rfl) ?_
  refine WL.nil_ ?_
  refine End.seq ?_
  refine WC.seq ?_
  refine WC.region ?_
  refine WL.p rfl rfl rfl (P.move rfl) ?_
  refine WL.p rfl rfl rfl (P.cmp rfl rfl rfl) ?_
  refine WL.p rfl rfl rfl (P.move rfl) ?_
  refine WL.split 5 rfl (fun hs5 => ?_) (fun hs5 => ?_)
  ·
    refine WL.p rfl rfl rfl (P.move rfl) ?_
    refine WL.p rfl rfl rfl (P.cmp rfl rfl rfl) ?_
    refine WL.p rfl rfl rfl (P.pickT rfl rfl) ?_
    refine WL.p rfl rfl rfl (P.assign rfl) ?_
    refine WL.nil_ ?_
    refine End.seq ?_
    refine WC.ret ?_
    refine End.ret1 rfl rfl ?_
    exact fun w' hs' => RetV.of (by simp [isUpper, hs5]) hs'
  ·
    refine WL.off rfl rfl ?_
    refine WL.off rfl rfl ?_
    refine WL.p rfl rfl rfl (P.pickF rfl rfl) ?_
    refine WL.p rfl rfl rfl (P.assign rfl) ?_
    refine WL.nil_ ?_
    refine End.seq ?_
    refine WC.ret ?_
    refine End.ret1 rfl rfl ?_
    exact fun w' hs' => RetV.of (by simp [isUpper, hs5]) hs'

set_option maxRecDepth 100000 in
theorem refNumber_any (s : ByteArray) (w : World) (hsz : s.size < 4294967281) :
    Calls Tryz.prog 215 #[.string s] w (RetV w (.int .i64 (genNum s.data.toList))) := by
  have hl : s.size = s.data.toList.length := rfl
  refine enter Tryz.func215 rfl Tryz.ntmps215 rfl ?_
  refine WC.seq ?_
  refine WC.region ?_
  refine WL.p rfl rfl rfl (P.assign rfl) ?_
  refine WL.nil_ ?_
  refine End.seq ?_
  refine WC.seq ?_
  refine WC.seq ?_
  refine WC.region ?_
  refine WL.p rfl rfl rfl (P.move rfl) ?_
  refine WL.p rfl rfl rfl (P.lenS Tryz.underlying9 rfl) ?_
  refine WL.p rfl rfl rfl (P.cmp rfl rfl rfl) ?_
  refine WL.p rfl rfl rfl (P.move rfl) ?_
  refine WL.split 8 rfl (fun hs8 => ?_) (fun hs8 => ?_)
  ·
    try simp only [decide_eq_true_eq, decide_eq_false_iff_not, beq_iff_eq, beq_eq_false_iff_ne, bne_iff_ne, bne_eq_false_iff_eq, Bool.not_eq_true', Bool.not_eq_false', ne_eq, Int.not_lt, Int.not_le] at hs8
    refine WL.off rfl rfl ?_
    refine WL.off rfl rfl ?_
    refine WL.off rfl rfl ?_
    refine WL.p rfl rfl rfl (P.pickT rfl rfl) ?_
    refine WL.p rfl rfl rfl (P.move rfl) ?_
    refine WL.off rfl rfl ?_
    refine WL.off rfl rfl ?_
    refine WL.off rfl rfl ?_
    refine WL.p rfl rfl rfl (P.pickT rfl rfl) ?_
    refine WL.nil_ ?_
    refine End.seq ?_
    refine WC.condT rfl ?_
    refine WC.seq ?_
    refine WC.region ?_
    refine WL.p rfl rfl rfl (P.assign rfl) ?_
    refine WL.nil_ ?_
    refine End.seq ?_
    refine WC.ret ?_
    refine End.thenR ?_
    refine End.ret1 rfl rfl ?_
    exact fun w' hs' => RetV.of (by rw [genNum_zero (fun h => hs8 (by omega))]) hs'
  ·
    try simp only [decide_eq_true_eq, decide_eq_false_iff_not, beq_iff_eq, beq_eq_false_iff_ne, bne_iff_ne, bne_eq_false_iff_eq, Bool.not_eq_true', Bool.not_eq_false', ne_eq, Int.not_lt, Int.not_le] at hs8
    refine WL.p rfl rfl rfl (P.move rfl) ?_
    refine WL.p rfl rfl rfl (P.byte Tryz.underlying9 rfl rfl (by omega) (by omega)) ?_
    refine WL.p rfl rfl rfl (P.cmp rfl rfl rfl) ?_
    refine WL.p rfl rfl rfl (P.pickF rfl rfl) ?_
    refine WL.p rfl rfl rfl (P.move rfl) ?_
    refine WL.split 13 rfl (fun hs13 => ?_) (fun hs13 => ?_)
    ·
      try simp only [decide_eq_true_eq, decide_eq_false_iff_not, beq_iff_eq, beq_eq_false_iff_ne, bne_iff_ne, bne_eq_false_iff_eq, Bool.not_eq_true', Bool.not_eq_false', ne_eq, Int.not_lt, Int.not_le] at hs13
      refine WL.off rfl rfl ?_
      refine WL.off rfl rfl ?_
      refine WL.off rfl rfl ?_
      refine WL.p rfl rfl rfl (P.pickT rfl rfl) ?_
      refine WL.nil_ ?_
      refine End.seq ?_
      refine WC.condT rfl ?_
      refine WC.seq ?_
      refine WC.region ?_
      refine WL.p rfl rfl rfl (P.assign rfl) ?_
      refine WL.nil_ ?_
      refine End.seq ?_
      refine WC.ret ?_
      refine End.thenR ?_
      refine End.ret1 rfl rfl ?_
      exact fun w' hs' => RetV.of (by rw [genNum_zero (fun h => hs13 (by rw [show (0 : Int).toNat = 0 from rfl, h.2.1]; rfl))]) hs'
    ·
      try simp only [decide_eq_true_eq, decide_eq_false_iff_not, beq_iff_eq, beq_eq_false_iff_ne, bne_iff_ne, bne_eq_false_iff_eq, Bool.not_eq_true', Bool.not_eq_false', ne_eq, Int.not_lt, Int.not_le] at hs13
      refine WL.p rfl rfl rfl (P.move rfl) ?_
      refine WL.p rfl rfl rfl (P.subL Tryz.underlying9 rfl rfl (by omega) (by omega)) ?_
      refine WL.p rfl rfl rfl (P.cmps rfl rfl rfl) ?_
      refine WL.p rfl rfl rfl (P.pickF rfl rfl) ?_
      refine WL.nil_ ?_
      refine End.seq ?_
      refine WC.cond rfl (fun hc17 => ?_) (fun hc17 => ?_)
      ·
        try simp only [decide_eq_true_eq, decide_eq_false_iff_not, beq_iff_eq, beq_eq_false_iff_ne, bne_iff_ne, bne_eq_false_iff_eq, Bool.not_eq_true', Bool.not_eq_false', ne_eq, Int.not_lt, Int.not_le] at hc17
        refine WC.seq ?_
        refine WC.region ?_
        refine WL.p rfl rfl rfl (P.assign rfl) ?_
        refine WL.nil_ ?_
        refine End.seq ?_
        refine WC.ret ?_
        refine End.thenR ?_
        refine End.ret1 rfl rfl ?_
        exact fun w' hs' => RetV.of (by rw [genNum_zero (fun h => hc17 (by rw [extract_bytes, List.take_of_length_le (by omega), show (5 : Int).toNat = 5 from rfl, h.2.2.1, ByteArray.toList_eq]))]) hs'
      ·
        try simp only [decide_eq_true_eq, decide_eq_false_iff_not, beq_iff_eq, beq_eq_false_iff_ne, bne_iff_ne, bne_eq_false_iff_eq, Bool.not_eq_true', Bool.not_eq_false', ne_eq, Int.not_lt, Int.not_le] at hc17
        refine WC.skip ?_
        refine End.seq ?_
        refine WC.seq ?_
        refine WC.region ?_
        refine WL.p rfl rfl rfl (P.assign rfl) ?_
        refine WL.nil_ ?_
        refine End.seq ?_
        refine WC.seq ?_
        refine WC.seq ?_
        refine WC.region ?_
        refine WL.p rfl rfl rfl (P.assign rfl) ?_
        refine WL.nil_ ?_
        refine End.seq ?_
        refine WC.block ?_
        refine WC.loopD (σ := Nat × Int) (fun (k, n) => [(4, .int .i64 (k : Nat)), (3, .int .i64 n)]) (fun (k, n) => []) (fun (k, n) => 1 ≤ k ∧ k ≤ 5 ∧ ((s.data.toList.take k).drop 1).all (fun c => isDigit (c.toNat : Int)) = true ∧ ((s.data.toList.take k).drop 1).foldl gf 0 = n ∧ 0 ≤ n ∧ n < 10 ^ (k - 1)) (fun (k, n) => 5 - k) (1, 0) ⟨Nat.le_refl _, by decide, by rw [List.drop_eq_nil_of_le (by rw [List.length_take]; omega)]; rfl, by rw [List.drop_eq_nil_of_le (by rw [List.length_take]; omega)]; rfl, Int.le_refl _, by decide⟩ (Env.sub_cons rfl (Env.sub_cons rfl (Env.sub_nil))) [] rfl rfl ?_
        rintro ⟨k, n⟩ ⟨hk1, hk, ht, hn, hn0, hn1⟩
        refine WC.seq ?_
        refine WC.seq ?_
        refine WC.region ?_
        refine WL.p rfl rfl rfl (P.move rfl) ?_
        refine WL.p rfl rfl rfl (P.cmp rfl rfl rfl) ?_
        refine WL.nil_ ?_
        refine End.seq ?_
        refine WC.cond rfl (fun hc19 => ?_) (fun hc19 => ?_)
        ·
          try simp only [decide_eq_true_eq, decide_eq_false_iff_not, beq_iff_eq, beq_eq_false_iff_ne, bne_iff_ne, bne_eq_false_iff_eq, Bool.not_eq_true', Bool.not_eq_false', ne_eq, Int.not_lt, Int.not_le] at hc19
          refine WC.skip ?_
          refine End.seq ?_
          refine WC.seq ?_
          refine WC.block ?_
          refine WC.seq ?_
          refine WC.seq ?_
          refine WC.region ?_
          refine WL.p rfl rfl rfl (P.move rfl) ?_
          refine WL.p rfl rfl rfl (P.move rfl) ?_
          refine WL.p rfl rfl rfl (P.byte Tryz.underlying9 rfl rfl (by omega) (by omega)) ?_
          refine WL.callv (ent_of Tryz.func273 rfl rfl) rfl rfl rfl (fun w hs => refDigit_any _ w) ?_
          refine WL.p rfl rfl rfl (P.not_ rfl) ?_
          refine WL.nil_ ?_
          refine End.seq ?_
          refine WC.cond rfl (fun hc26 => ?_) (fun hc26 => ?_)
          ·
            try simp only [decide_eq_true_eq, decide_eq_false_iff_not, beq_iff_eq, beq_eq_false_iff_ne, bne_iff_ne, bne_eq_false_iff_eq, Bool.not_eq_true', Bool.not_eq_false', ne_eq, Int.not_lt, Int.not_le] at hc26
            refine WC.seq ?_
            refine WC.region ?_
            refine WL.p rfl rfl rfl (P.assign rfl) ?_
            refine WL.nil_ ?_
            refine End.seq ?_
            refine WC.ret ?_
            refine End.thenR ?_
            refine End.blkR ?_
            refine End.thenR ?_
            refine End.thenR ?_
            refine End.blkR ?_
            refine End.thenR ?_
            refine End.ret1 rfl rfl ?_
            exact fun w' hs' => RetV.of (by rw [genNum_zero (fun h => by have := all_false_at (l := s.data.toList) (k := k) hk1 (by omega) (m := 5) (by omega) (p := fun c => isDigit (c.toNat : Int)) (by simpa using hc26); rw [h.2.2.2] at this; cases this)]) hs'
          ·
            try simp only [decide_eq_true_eq, decide_eq_false_iff_not, beq_iff_eq, beq_eq_false_iff_ne, bne_iff_ne, bne_eq_false_iff_eq, Bool.not_eq_true', Bool.not_eq_false', ne_eq, Int.not_lt, Int.not_le] at hc26
            have hdg : isDigit ((s.data.toList[(k : Int).toNat]?.getD 0).toNat : Int) = true := by simpa using hc26
            have hd2 := digit_le hdg
            have hn9 : n < 10000 := pow_small hk1 (by omega) hn1
            refine WC.skip ?_
            refine End.seq ?_
            refine WC.region ?_
            refine WL.p rfl rfl rfl (P.move rfl) ?_
            refine WL.p rfl rfl rfl (P.ari64 rfl rfl rfl (by omega)) ?_
            refine WL.p rfl rfl rfl (P.move rfl) ?_
            refine WL.p rfl rfl rfl (P.move rfl) ?_
            refine WL.p rfl rfl rfl (P.byte Tryz.underlying9 rfl rfl (by omega) (by omega)) ?_
            refine WL.p rfl rfl rfl (P.ari rfl rfl rfl) ?_
            refine WL.is 32 rfl (congrArg (Value.int .u8) (wrap_u8 (by omega) (by omega))) ?_
            refine WL.p rfl rfl rfl (P.conv (by kernel_rfl) Tryz.underlying3 rfl (wrap_i64 (by omega))) ?_
            refine WL.p rfl rfl rfl (P.ari64 rfl rfl rfl (by omega)) ?_
            refine WL.p rfl rfl rfl (P.assign rfl) ?_
            refine WL.nil_ ?_
            refine End.blkN ?_
            refine End.seq ?_
            refine WC.region ?_
            refine WL.p rfl rfl rfl (P.move rfl) ?_
            refine WL.p rfl rfl rfl (P.ari64 rfl rfl rfl (by omega)) ?_
            refine WL.p rfl rfl rfl (P.assign rfl) ?_
            refine WL.nil_ ?_
            refine End.againD (k + 1, 10 * n + (((s.data.toList[(k : Int).toNat]?.getD 0).toNat : Int) - 48)) ?_ ?_ rfl (Env.sub_cons rfl (Env.sub_cons rfl (Env.sub_nil))) rfl [] rfl rfl
            · exact ⟨by omega, by omega, by rw [take_drop_snoc (l := s.data.toList) (k := k) hk1 (by omega), ht, Bool.true_and]; exact hdg, by rw [take_drop_fold (l := s.data.toList) (k := k) hk1 (by omega), hn]; rfl, by omega, pow_step hk1 (by omega) hn0 hn1 hd2⟩
            · show 5 - (k + 1) < 5 - k; omega
        ·
          try simp only [decide_eq_true_eq, decide_eq_false_iff_not, beq_iff_eq, beq_eq_false_iff_ne, bne_iff_ne, bne_eq_false_iff_eq, Bool.not_eq_true', Bool.not_eq_false', ne_eq, Int.not_lt, Int.not_le] at hc19
          refine WC.exit ?_
          refine End.thenX ?_
          refine End.thenX ?_
          refine End.blkX ?_
          refine End.seq ?_
          refine WC.seq ?_
          refine WC.region ?_
          refine WL.p rfl rfl rfl (P.move rfl) ?_
          refine WL.p rfl rfl rfl (P.assign rfl) ?_
          refine WL.nil_ ?_
          refine End.seq ?_
          refine WC.ret ?_
          refine End.ret1 rfl rfl ?_
          have e : k = 5 := by omega
          subst e
          rw [extract_bytes, List.take_of_length_le (by omega)] at hc17
          exact fun w' hs' => RetV.of (by rw [genNum, if_pos ⟨by omega, u8_eq (by decide) (by simpa using hs13), by simpa [ByteArray.toList_eq] using hc17, ht⟩]; exact congrArg _ hn.symm) hs'

/-- The byte at a place, as a number. -/
abbrev byteAt (l : List UInt8) (k : Nat) : Int := ((l[(k : Int).toNat]?.getD 0).toNat : Int)
/-- A byte of a qualifier, or of one with stars: a star does not follow a star. -/
def okAt (stars : Bool) (l : List UInt8) (k : Nat) : Bool :=
  (isUpper (byteAt l k) || (isDigit (byteAt l k) || (stars && (byteAt l k == 42)))) && !((stars && (byteAt l k == 42)) && (decide ((0 : Int) < (k : Nat)) && (((l[((k : Int) - 1).toNat]?.getD 0).toNat : Int) == 42)))
/-- A part of a name or of a pattern. -/
def partB (stars : Bool) (s : ByteArray) : Bool :=
  (stars && (s.toList == (⟨#[42, 42]⟩ : ByteArray).toList)) || (decide (1 ≤ s.size) && (decide (s.size ≤ 8) && (!isDigit (byteAt s.data.toList 0) && (List.range s.size).all (okAt stars s.data.toList))))
theorem range_snoc (p : Nat → Bool) (k : Nat) : (List.range (k + 1)).all p = ((List.range k).all p && p k) := by rw [List.range_succ]; simp
theorem range_bad {p : Nat → Bool} {k n : Nat} (h : k < n) (hp : p k = false) : (List.range n).all p = false := by
  rw [Bool.eq_false_iff]
  intro he
  have := List.all_eq_true.1 he k (List.mem_range.2 h)
  rw [hp] at this; cases this
theorem partB_short {stars : Bool} {s : ByteArray} (h0 : (stars && (s.toList == (⟨#[42, 42]⟩ : ByteArray).toList)) = false) (h : (decide ((s.size : Int) < 1) || (decide ((8 : Int) < s.size) || isDigit (byteAt s.data.toList 0))) = true) : partB stars s = false := by
  rw [partB, h0, Bool.false_or]
  rw [Bool.or_eq_true, Bool.or_eq_true, decide_eq_true_eq, decide_eq_true_eq] at h
  rcases h with h | h | h
  · rw [decide_eq_false (by omega : ¬ 1 ≤ s.size)]; rfl
  · rw [decide_eq_false (by omega : ¬ s.size ≤ 8)]; simp
  · rw [h]; simp
theorem partB_all {stars : Bool} {s : ByteArray} (h0 : (stars && (s.toList == (⟨#[42, 42]⟩ : ByteArray).toList)) = false) (h : (decide ((s.size : Int) < 1) || (decide ((8 : Int) < s.size) || isDigit (byteAt s.data.toList 0))) = false) (h1 : (List.range s.size).all (okAt stars s.data.toList) = true) : partB stars s = true := by
  rw [partB, h0, Bool.false_or, h1]
  rw [Bool.or_eq_false_iff, Bool.or_eq_false_iff, decide_eq_false_iff_not, decide_eq_false_iff_not] at h
  rw [decide_eq_true (by omega : 1 ≤ s.size), decide_eq_true (by omega : s.size ≤ 8), h.2.2]; rfl
theorem partB_bad {stars : Bool} {s : ByteArray} {k : Nat} (h0 : (stars && (s.toList == (⟨#[42, 42]⟩ : ByteArray).toList)) = false) (hk : k < s.size) (h : okAt stars s.data.toList k = false) : partB stars s = false := by
  rw [partB, h0, range_bad hk h]; simp

set_option maxRecDepth 100000 in
theorem refPart_any (s : ByteArray) (stars : Bool) (w : World) (hsz : s.size < 4294967281) :
    Calls Tryz.prog 236 #[.string s, .bool stars] w (RetV w (.bool (partB stars s))) := by
  refine enter Tryz.func236 rfl Tryz.ntmps236 rfl ?_
  refine WC.seq ?_
  refine WC.region ?_
  refine WL.p rfl rfl rfl (P.assign rfl) ?_
  refine WL.nil_ ?_
  refine End.seq ?_
  refine WC.seq ?_
  refine WC.cutD (σ := Bool) (fun z1 => [(11, .bool z1)]) (fun z1 => []) (fun z1 => z1 = (stars && (s.toList == (⟨#[42, 42]⟩ : ByteArray).toList))) ?_ (fun z1 hz1 => ?_)
  ·
    refine WC.region ?_
    refine WL.p rfl rfl rfl (P.move rfl) ?_
    refine WL.p rfl rfl rfl (P.move rfl) ?_
    refine WL.split 8 rfl (fun hs8 => ?_) (fun hs8 => ?_)
    ·
      refine WL.p rfl rfl rfl (P.move rfl) ?_
      refine WL.p rfl rfl rfl (P.cmps rfl rfl rfl) ?_
      refine WL.p rfl rfl rfl (P.pickT rfl rfl) ?_
      refine WL.nil_ ?_
      refine End.atD _ ?_ rfl (Env.sub_cons rfl (Env.sub_nil)) rfl [] rfl rfl
      · simp [okAt, byteAt, *]
    ·
      refine WL.off rfl rfl ?_
      refine WL.off rfl rfl ?_
      refine WL.p rfl rfl rfl (P.pickF rfl rfl) ?_
      refine WL.nil_ ?_
      refine End.atD _ ?_ rfl (Env.sub_cons rfl (Env.sub_nil)) rfl [] rfl rfl
      · simp [okAt, byteAt, *]
  ·
    refine WC.cond rfl (fun hc11 => ?_) (fun hc11 => ?_)
    ·
      refine WC.seq ?_
      refine WC.region ?_
      refine WL.p rfl rfl rfl (P.assign rfl) ?_
      refine WL.nil_ ?_
      refine End.seq ?_
      refine WC.ret ?_
      refine End.thenR ?_
      refine End.ret1 rfl rfl ?_
      exact fun w' hs' => RetV.of (by rw [partB, ← hz1, hc11]; rfl) hs'
    ·
      refine WC.skip ?_
      refine End.seq ?_
      refine WC.seq ?_
      refine WC.cutD (σ := Bool) (fun z3 => [(24, .bool z3)]) (fun z3 => []) (fun z3 => z3 = (decide ((s.size : Int) < 1) || (decide ((8 : Int) < s.size) || isDigit (byteAt s.data.toList 0)))) ?_ (fun z3 hz3 => ?_)
      ·
        refine WC.region ?_
        refine WL.p rfl rfl rfl (P.move rfl) ?_
        refine WL.p rfl rfl rfl (P.lenS Tryz.underlying9 rfl) ?_
        refine WL.p rfl rfl rfl (P.cmp rfl rfl rfl) ?_
        refine WL.p rfl rfl rfl (P.move rfl) ?_
        refine WL.split 15 rfl (fun hs15 => ?_) (fun hs15 => ?_)
        ·
          refine WL.off rfl rfl ?_
          refine WL.off rfl rfl ?_
          refine WL.off rfl rfl ?_
          refine WL.p rfl rfl rfl (P.pickT rfl rfl) ?_
          refine WL.p rfl rfl rfl (P.move rfl) ?_
          refine WL.off rfl rfl ?_
          refine WL.off rfl rfl ?_
          refine WL.off rfl rfl ?_
          refine WL.p rfl rfl rfl (P.pickT rfl rfl) ?_
          refine WL.nil_ ?_
          refine End.atD _ ?_ rfl (Env.sub_cons rfl (Env.sub_nil)) rfl [] rfl rfl
          · simp [okAt, byteAt, *]
        ·
          refine WL.p rfl rfl rfl (P.move rfl) ?_
          refine WL.p rfl rfl rfl (P.lenS Tryz.underlying9 rfl) ?_
          refine WL.p rfl rfl rfl (P.cmp rfl rfl rfl) ?_
          refine WL.p rfl rfl rfl (P.pickF rfl rfl) ?_
          refine WL.p rfl rfl rfl (P.move rfl) ?_
          refine WL.split 20 rfl (fun hs20 => ?_) (fun hs20 => ?_)
          ·
            refine WL.off rfl rfl ?_
            refine WL.off rfl rfl ?_
            refine WL.off rfl rfl ?_
            refine WL.p rfl rfl rfl (P.pickT rfl rfl) ?_
            refine WL.nil_ ?_
            refine End.atD _ ?_ rfl (Env.sub_cons rfl (Env.sub_nil)) rfl [] rfl rfl
            · simp [okAt, byteAt, *]
          ·
            refine WL.p rfl rfl rfl (P.move rfl) ?_
            refine WL.p rfl rfl rfl (P.byte Tryz.underlying9 rfl rfl (by omega) (by have := of_decide_eq_false hs15; omega)) ?_
            refine WL.callv (ent_of Tryz.func273 rfl rfl) rfl rfl rfl (fun w hs => refDigit_any _ w) ?_
            refine WL.p rfl rfl rfl (P.pickF rfl rfl) ?_
            refine WL.nil_ ?_
            refine End.atD _ ?_ rfl (Env.sub_cons rfl (Env.sub_nil)) rfl [] rfl rfl
            · simp [okAt, byteAt, *]
      ·
        refine WC.cond rfl (fun hc24 => ?_) (fun hc24 => ?_)
        ·
          refine WC.seq ?_
          refine WC.region ?_
          refine WL.p rfl rfl rfl (P.assign rfl) ?_
          refine WL.nil_ ?_
          refine End.seq ?_
          refine WC.ret ?_
          refine End.thenR ?_
          refine End.ret1 rfl rfl ?_
          rw [hc24] at hz3
          exact fun w' hs' => RetV.of (by rw [partB_short (hz1 ▸ hc11) hz3.symm]) hs'
        ·
          refine WC.skip ?_
          refine End.seq ?_
          refine WC.seq ?_
          refine WC.seq ?_
          refine WC.region ?_
          refine WL.p rfl rfl rfl (P.assign rfl) ?_
          refine WL.nil_ ?_
          refine End.seq ?_
          refine WC.block ?_
          refine WC.loopD (σ := Nat) (fun k => [(5, .int .i64 (k : Nat))]) (fun k => []) (fun k => k ≤ s.size ∧ (List.range k).all (okAt stars s.data.toList) = true) (fun k => s.size - k) 0 ⟨Nat.zero_le _, rfl⟩ (Env.sub_cons rfl (Env.sub_nil)) [] rfl rfl ?_
          rintro k ⟨hk, ht⟩
          refine WC.seq ?_
          refine WC.seq ?_
          refine WC.region ?_
          refine WL.p rfl rfl rfl (P.move rfl) ?_
          refine WL.p rfl rfl rfl (P.move rfl) ?_
          refine WL.p rfl rfl rfl (P.lenS Tryz.underlying9 rfl) ?_
          refine WL.p rfl rfl rfl (P.cmp rfl rfl rfl) ?_
          refine WL.nil_ ?_
          refine End.seq ?_
          refine WC.cond rfl (fun hc28 => ?_) (fun hc28 => ?_)
          ·
            have hk2 : k < s.size := by have := of_decide_eq_true hc28; omega
            refine WC.skip ?_
            refine End.seq ?_
            refine WC.seq ?_
            refine WC.block ?_
            refine WC.cutD (σ := Bool) (fun z8 => [(6, .bool z8)]) (fun z8 => []) (fun z8 => z8 = (stars && (byteAt s.data.toList k == 42))) ?_ (fun z8 hz8 => ?_)
            ·
              refine WC.region ?_
              refine WL.p rfl rfl rfl (P.move rfl) ?_
              refine WL.p rfl rfl rfl (P.move rfl) ?_
              refine WL.split 32 rfl (fun hs32 => ?_) (fun hs32 => ?_)
              ·
                refine WL.p rfl rfl rfl (P.move rfl) ?_
                refine WL.p rfl rfl rfl (P.move rfl) ?_
                refine WL.p rfl rfl rfl (P.byte Tryz.underlying9 rfl rfl (by omega) (by omega)) ?_
                refine WL.p rfl rfl rfl (P.cmp rfl rfl rfl) ?_
                refine WL.p rfl rfl rfl (P.pickT rfl rfl) ?_
                refine WL.p rfl rfl rfl (P.assign rfl) ?_
                refine WL.nil_ ?_
                refine End.atD _ ?_ rfl (Env.sub_cons rfl (Env.sub_nil)) rfl [] rfl rfl
                · simp [okAt, byteAt, *]
              ·
                refine WL.off rfl rfl ?_
                refine WL.off rfl rfl ?_
                refine WL.off rfl rfl ?_
                refine WL.off rfl rfl ?_
                refine WL.p rfl rfl rfl (P.pickF rfl rfl) ?_
                refine WL.p rfl rfl rfl (P.assign rfl) ?_
                refine WL.nil_ ?_
                refine End.atD _ ?_ rfl (Env.sub_cons rfl (Env.sub_nil)) rfl [] rfl rfl
                · simp [okAt, byteAt, *]
            ·
              refine WC.cutD (σ := Bool) (fun z9 => [(67, .bool z9)]) (fun z9 => []) (fun z9 => z9 = !okAt stars s.data.toList k) ?_ (fun z9 hz9 => ?_)
              ·
                refine WC.region ?_
                refine WL.p rfl rfl rfl (P.move rfl) ?_
                refine WL.p rfl rfl rfl (P.move rfl) ?_
                refine WL.p rfl rfl rfl (P.byte Tryz.underlying9 rfl rfl (by omega) (by omega)) ?_
                refine WL.callv (ent_of Tryz.func283 rfl rfl) rfl rfl rfl (fun w hs => refLetter_any _ w) ?_
                refine WL.p rfl rfl rfl (P.not_ rfl) ?_
                refine WL.p rfl rfl rfl (P.move rfl) ?_
                refine WL.split 43 rfl (fun hs43 => ?_) (fun hs43 => ?_)
                ·
                  refine WL.p rfl rfl rfl (P.move rfl) ?_
                  refine WL.p rfl rfl rfl (P.move rfl) ?_
                  refine WL.p rfl rfl rfl (P.byte Tryz.underlying9 rfl rfl (by omega) (by omega)) ?_
                  refine WL.callv (ent_of Tryz.func273 rfl rfl) rfl rfl rfl (fun w hs => refDigit_any _ w) ?_
                  refine WL.p rfl rfl rfl (P.not_ rfl) ?_
                  refine WL.p rfl rfl rfl (P.pickT rfl rfl) ?_
                  refine WL.p rfl rfl rfl (P.move rfl) ?_
                  refine WL.split 50 rfl (fun hs50 => ?_) (fun hs50 => ?_)
                  ·
                    refine WL.p rfl rfl rfl (P.move rfl) ?_
                    refine WL.p rfl rfl rfl (P.not_ rfl) ?_
                    refine WL.p rfl rfl rfl (P.pickT rfl rfl) ?_
                    refine WL.p rfl rfl rfl (P.move rfl) ?_
                    refine WL.split 54 rfl (fun hs54 => ?_) (fun hs54 => ?_)
                    ·
                      refine WL.off rfl rfl ?_
                      refine WL.off rfl rfl ?_
                      refine WL.offU rfl rfl ?_
                      refine WL.offU rfl rfl ?_
                      refine WL.off rfl rfl ?_
                      refine WL.off rfl rfl ?_
                      refine WL.offU rfl rfl ?_
                      refine WL.offU rfl rfl ?_
                      refine WL.offU rfl rfl ?_
                      refine WL.offU rfl rfl ?_
                      refine WL.offU rfl rfl ?_
                      refine WL.off rfl rfl ?_
                      refine WL.p rfl rfl rfl (P.pickT rfl rfl) ?_
                      refine WL.nil_ ?_
                      refine End.atD _ ?_ rfl (Env.sub_cons rfl (Env.sub_nil)) rfl [] rfl rfl
                      · rw [okAt, ← hz8]; clear hz1 hz8 ht hk hc28 hk2 hc11 hc24 hz3 hsz; generalize isUpper (byteAt s.data.toList k) = a at *; generalize isDigit (byteAt s.data.toList k) = b at *; generalize decide ((0 : Int) < (k : Nat)) = c at *; generalize ((((s.data.toList[((k : Int) - 1).toNat]?).getD 0).toNat : Int) == 42) = d at *; cases a <;> cases b <;> cases c <;> cases d <;> cases z8 <;> first | rfl | (simp at *; done)
                    ·
                      refine WL.p rfl rfl rfl (P.move rfl) ?_
                      refine WL.p rfl rfl rfl (P.move rfl) ?_
                      refine WL.split 56 rfl (fun hs56 => ?_) (fun hs56 => ?_)
                      ·
                        refine WL.p rfl rfl rfl (P.move rfl) ?_
                        refine WL.p rfl rfl rfl (P.cmp rfl rfl rfl) ?_
                        refine WL.p rfl rfl rfl (P.pickT rfl rfl) ?_
                        refine WL.p rfl rfl rfl (P.move rfl) ?_
                        refine WL.split 60 rfl (fun hs60 => ?_) (fun hs60 => ?_)
                        ·
                          refine WL.p rfl rfl rfl (P.move rfl) ?_
                          refine WL.p rfl rfl rfl (P.move rfl) ?_
                          refine WL.p rfl rfl rfl (P.ari64 rfl rfl rfl (by have := of_decide_eq_true hs60; omega)) ?_
                          refine WL.p rfl rfl rfl (P.byte Tryz.underlying9 rfl rfl (by have := of_decide_eq_true hs60; omega) (by omega)) ?_
                          refine WL.p rfl rfl rfl (P.cmp rfl rfl rfl) ?_
                          refine WL.p rfl rfl rfl (P.pickT rfl rfl) ?_
                          refine WL.p rfl rfl rfl (P.pickF rfl rfl) ?_
                          refine WL.nil_ ?_
                          refine End.atD _ ?_ rfl (Env.sub_cons rfl (Env.sub_nil)) rfl [] rfl rfl
                          · rw [okAt, ← hz8]; clear hz1 hz8 ht hk hc28 hk2 hc11 hc24 hz3 hsz; generalize isUpper (byteAt s.data.toList k) = a at *; generalize isDigit (byteAt s.data.toList k) = b at *; generalize decide ((0 : Int) < (k : Nat)) = c at *; generalize ((((s.data.toList[((k : Int) - 1).toNat]?).getD 0).toNat : Int) == 42) = d at *; cases a <;> cases b <;> cases c <;> cases d <;> cases z8 <;> first | rfl | (simp at *; done)
                        ·
                          refine WL.off rfl rfl ?_
                          refine WL.off rfl rfl ?_
                          refine WL.off rfl rfl ?_
                          refine WL.off rfl rfl ?_
                          refine WL.off rfl rfl ?_
                          refine WL.p rfl rfl rfl (P.pickF rfl rfl) ?_
                          refine WL.p rfl rfl rfl (P.pickF rfl rfl) ?_
                          refine WL.nil_ ?_
                          refine End.atD _ ?_ rfl (Env.sub_cons rfl (Env.sub_nil)) rfl [] rfl rfl
                          · rw [okAt, ← hz8]; clear hz1 hz8 ht hk hc28 hk2 hc11 hc24 hz3 hsz; generalize isUpper (byteAt s.data.toList k) = a at *; generalize isDigit (byteAt s.data.toList k) = b at *; generalize decide ((0 : Int) < (k : Nat)) = c at *; generalize ((((s.data.toList[((k : Int) - 1).toNat]?).getD 0).toNat : Int) == 42) = d at *; cases a <;> cases b <;> cases c <;> cases d <;> cases z8 <;> first | rfl | (simp at *; done)
                      ·
                        refine WL.off rfl rfl ?_
                        refine WL.off rfl rfl ?_
                        refine WL.p rfl rfl rfl (P.pickF rfl rfl) ?_
                        refine WL.p rfl rfl rfl (P.move rfl) ?_
                        refine WL.off rfl rfl ?_
                        refine WL.off rfl rfl ?_
                        refine WL.off rfl rfl ?_
                        refine WL.off rfl rfl ?_
                        refine WL.off rfl rfl ?_
                        refine WL.p rfl rfl rfl (P.pickF rfl rfl) ?_
                        refine WL.p rfl rfl rfl (P.pickF rfl rfl) ?_
                        refine WL.nil_ ?_
                        refine End.atD _ ?_ rfl (Env.sub_cons rfl (Env.sub_nil)) rfl [] rfl rfl
                        · rw [okAt, ← hz8]; clear hz1 hz8 ht hk hc28 hk2 hc11 hc24 hz3 hsz; generalize isUpper (byteAt s.data.toList k) = a at *; generalize isDigit (byteAt s.data.toList k) = b at *; generalize decide ((0 : Int) < (k : Nat)) = c at *; generalize ((((s.data.toList[((k : Int) - 1).toNat]?).getD 0).toNat : Int) == 42) = d at *; cases a <;> cases b <;> cases c <;> cases d <;> cases z8 <;> first | rfl | (simp at *; done)
                  ·
                    refine WL.off rfl rfl ?_
                    refine WL.off rfl rfl ?_
                    refine WL.p rfl rfl rfl (P.pickF rfl rfl) ?_
                    refine WL.p rfl rfl rfl (P.move rfl) ?_
                    refine WL.p rfl rfl rfl (P.move rfl) ?_
                    refine WL.p rfl rfl rfl (P.move rfl) ?_
                    refine WL.split 56 rfl (fun hs56 => ?_) (fun hs56 => ?_)
                    ·
                      refine WL.p rfl rfl rfl (P.move rfl) ?_
                      refine WL.p rfl rfl rfl (P.cmp rfl rfl rfl) ?_
                      refine WL.p rfl rfl rfl (P.pickT rfl rfl) ?_
                      refine WL.p rfl rfl rfl (P.move rfl) ?_
                      refine WL.split 60 rfl (fun hs60 => ?_) (fun hs60 => ?_)
                      ·
                        refine WL.p rfl rfl rfl (P.move rfl) ?_
                        refine WL.p rfl rfl rfl (P.move rfl) ?_
                        refine WL.p rfl rfl rfl (P.ari64 rfl rfl rfl (by have := of_decide_eq_true hs60; omega)) ?_
                        refine WL.p rfl rfl rfl (P.byte Tryz.underlying9 rfl rfl (by have := of_decide_eq_true hs60; omega) (by omega)) ?_
                        refine WL.p rfl rfl rfl (P.cmp rfl rfl rfl) ?_
                        refine WL.p rfl rfl rfl (P.pickT rfl rfl) ?_
                        refine WL.p rfl rfl rfl (P.pickF rfl rfl) ?_
                        refine WL.nil_ ?_
                        refine End.atD _ ?_ rfl (Env.sub_cons rfl (Env.sub_nil)) rfl [] rfl rfl
                        · rw [okAt, ← hz8]; clear hz1 hz8 ht hk hc28 hk2 hc11 hc24 hz3 hsz; generalize isUpper (byteAt s.data.toList k) = a at *; generalize isDigit (byteAt s.data.toList k) = b at *; generalize decide ((0 : Int) < (k : Nat)) = c at *; generalize ((((s.data.toList[((k : Int) - 1).toNat]?).getD 0).toNat : Int) == 42) = d at *; cases a <;> cases b <;> cases c <;> cases d <;> cases z8 <;> first | rfl | (simp at *; done)
                      ·
                        refine WL.off rfl rfl ?_
                        refine WL.off rfl rfl ?_
                        refine WL.off rfl rfl ?_
                        refine WL.off rfl rfl ?_
                        refine WL.off rfl rfl ?_
                        refine WL.p rfl rfl rfl (P.pickF rfl rfl) ?_
                        refine WL.p rfl rfl rfl (P.pickF rfl rfl) ?_
                        refine WL.nil_ ?_
                        refine End.atD _ ?_ rfl (Env.sub_cons rfl (Env.sub_nil)) rfl [] rfl rfl
                        · rw [okAt, ← hz8]; clear hz1 hz8 ht hk hc28 hk2 hc11 hc24 hz3 hsz; generalize isUpper (byteAt s.data.toList k) = a at *; generalize isDigit (byteAt s.data.toList k) = b at *; generalize decide ((0 : Int) < (k : Nat)) = c at *; generalize ((((s.data.toList[((k : Int) - 1).toNat]?).getD 0).toNat : Int) == 42) = d at *; cases a <;> cases b <;> cases c <;> cases d <;> cases z8 <;> first | rfl | (simp at *; done)
                    ·
                      refine WL.off rfl rfl ?_
                      refine WL.off rfl rfl ?_
                      refine WL.p rfl rfl rfl (P.pickF rfl rfl) ?_
                      refine WL.p rfl rfl rfl (P.move rfl) ?_
                      refine WL.off rfl rfl ?_
                      refine WL.off rfl rfl ?_
                      refine WL.off rfl rfl ?_
                      refine WL.off rfl rfl ?_
                      refine WL.off rfl rfl ?_
                      refine WL.p rfl rfl rfl (P.pickF rfl rfl) ?_
                      refine WL.p rfl rfl rfl (P.pickF rfl rfl) ?_
                      refine WL.nil_ ?_
                      refine End.atD _ ?_ rfl (Env.sub_cons rfl (Env.sub_nil)) rfl [] rfl rfl
                      · rw [okAt, ← hz8]; clear hz1 hz8 ht hk hc28 hk2 hc11 hc24 hz3 hsz; generalize isUpper (byteAt s.data.toList k) = a at *; generalize isDigit (byteAt s.data.toList k) = b at *; generalize decide ((0 : Int) < (k : Nat)) = c at *; generalize ((((s.data.toList[((k : Int) - 1).toNat]?).getD 0).toNat : Int) == 42) = d at *; cases a <;> cases b <;> cases c <;> cases d <;> cases z8 <;> first | rfl | (simp at *; done)
                ·
                  refine WL.off rfl rfl ?_
                  refine WL.off rfl rfl ?_
                  refine WL.off rfl rfl ?_
                  refine WL.off rfl rfl ?_
                  refine WL.off rfl rfl ?_
                  refine WL.p rfl rfl rfl (P.pickF rfl rfl) ?_
                  refine WL.p rfl rfl rfl (P.move rfl) ?_
                  refine WL.off rfl rfl ?_
                  refine WL.off rfl rfl ?_
                  refine WL.p rfl rfl rfl (P.pickF rfl rfl) ?_
                  refine WL.p rfl rfl rfl (P.move rfl) ?_
                  refine WL.p rfl rfl rfl (P.move rfl) ?_
                  refine WL.p rfl rfl rfl (P.move rfl) ?_
                  refine WL.split 56 rfl (fun hs56 => ?_) (fun hs56 => ?_)
                  ·
                    refine WL.p rfl rfl rfl (P.move rfl) ?_
                    refine WL.p rfl rfl rfl (P.cmp rfl rfl rfl) ?_
                    refine WL.p rfl rfl rfl (P.pickT rfl rfl) ?_
                    refine WL.p rfl rfl rfl (P.move rfl) ?_
                    refine WL.split 60 rfl (fun hs60 => ?_) (fun hs60 => ?_)
                    ·
                      refine WL.p rfl rfl rfl (P.move rfl) ?_
                      refine WL.p rfl rfl rfl (P.move rfl) ?_
                      refine WL.p rfl rfl rfl (P.ari64 rfl rfl rfl (by have := of_decide_eq_true hs60; omega)) ?_
                      refine WL.p rfl rfl rfl (P.byte Tryz.underlying9 rfl rfl (by have := of_decide_eq_true hs60; omega) (by omega)) ?_
                      refine WL.p rfl rfl rfl (P.cmp rfl rfl rfl) ?_
                      refine WL.p rfl rfl rfl (P.pickT rfl rfl) ?_
                      refine WL.p rfl rfl rfl (P.pickF rfl rfl) ?_
                      refine WL.nil_ ?_
                      refine End.atD _ ?_ rfl (Env.sub_cons rfl (Env.sub_nil)) rfl [] rfl rfl
                      · rw [okAt, ← hz8]; clear hz1 hz8 ht hk hc28 hk2 hc11 hc24 hz3 hsz; generalize isUpper (byteAt s.data.toList k) = a at *; generalize isDigit (byteAt s.data.toList k) = b at *; generalize decide ((0 : Int) < (k : Nat)) = c at *; generalize ((((s.data.toList[((k : Int) - 1).toNat]?).getD 0).toNat : Int) == 42) = d at *; cases a <;> cases b <;> cases c <;> cases d <;> cases z8 <;> first | rfl | (simp at *; done)
                    ·
                      refine WL.off rfl rfl ?_
                      refine WL.off rfl rfl ?_
                      refine WL.off rfl rfl ?_
                      refine WL.off rfl rfl ?_
                      refine WL.off rfl rfl ?_
                      refine WL.p rfl rfl rfl (P.pickF rfl rfl) ?_
                      refine WL.p rfl rfl rfl (P.pickF rfl rfl) ?_
                      refine WL.nil_ ?_
                      refine End.atD _ ?_ rfl (Env.sub_cons rfl (Env.sub_nil)) rfl [] rfl rfl
                      · rw [okAt, ← hz8]; clear hz1 hz8 ht hk hc28 hk2 hc11 hc24 hz3 hsz; generalize isUpper (byteAt s.data.toList k) = a at *; generalize isDigit (byteAt s.data.toList k) = b at *; generalize decide ((0 : Int) < (k : Nat)) = c at *; generalize ((((s.data.toList[((k : Int) - 1).toNat]?).getD 0).toNat : Int) == 42) = d at *; cases a <;> cases b <;> cases c <;> cases d <;> cases z8 <;> first | rfl | (simp at *; done)
                  ·
                    refine WL.off rfl rfl ?_
                    refine WL.off rfl rfl ?_
                    refine WL.p rfl rfl rfl (P.pickF rfl rfl) ?_
                    refine WL.p rfl rfl rfl (P.move rfl) ?_
                    refine WL.off rfl rfl ?_
                    refine WL.off rfl rfl ?_
                    refine WL.off rfl rfl ?_
                    refine WL.off rfl rfl ?_
                    refine WL.off rfl rfl ?_
                    refine WL.p rfl rfl rfl (P.pickF rfl rfl) ?_
                    refine WL.p rfl rfl rfl (P.pickF rfl rfl) ?_
                    refine WL.nil_ ?_
                    refine End.atD _ ?_ rfl (Env.sub_cons rfl (Env.sub_nil)) rfl [] rfl rfl
                    · rw [okAt, ← hz8]; clear hz1 hz8 ht hk hc28 hk2 hc11 hc24 hz3 hsz; generalize isUpper (byteAt s.data.toList k) = a at *; generalize isDigit (byteAt s.data.toList k) = b at *; generalize decide ((0 : Int) < (k : Nat)) = c at *; generalize ((((s.data.toList[((k : Int) - 1).toNat]?).getD 0).toNat : Int) == 42) = d at *; cases a <;> cases b <;> cases c <;> cases d <;> cases z8 <;> first | rfl | (simp at *; done)
              ·
                refine WC.cond rfl (fun hc67 => ?_) (fun hc67 => ?_)
                ·
                  refine WC.seq ?_
                  refine WC.region ?_
                  refine WL.p rfl rfl rfl (P.assign rfl) ?_
                  refine WL.nil_ ?_
                  refine End.seq ?_
                  refine WC.ret ?_
                  refine End.blkR ?_
                  refine End.thenR ?_
                  refine End.thenR ?_
                  refine End.blkR ?_
                  refine End.thenR ?_
                  refine End.ret1 rfl rfl ?_
                  rw [hc67] at hz9
                  exact fun w' hs' => RetV.of (by rw [partB_bad (k := k) (hz1 ▸ hc11) hk2 (by simpa using hz9.symm)]) hs'
                ·
                  refine WC.skip ?_
                  refine End.blkN ?_
                  refine End.seq ?_
                  refine WC.region ?_
                  refine WL.p rfl rfl rfl (P.move rfl) ?_
                  refine WL.p rfl rfl rfl (P.ari64 rfl rfl rfl (by omega)) ?_
                  refine WL.p rfl rfl rfl (P.assign rfl) ?_
                  refine WL.nil_ ?_
                  refine End.againD (k + 1) ?_ ?_ rfl (Env.sub_cons rfl (Env.sub_nil)) rfl [] rfl rfl
                  · exact ⟨by omega, by rw [range_snoc, ht, Bool.true_and]; rw [hc67] at hz9; simpa using hz9.symm⟩
                  · omega
          ·
            have hk2 : k = s.size := by have := of_decide_eq_false hc28; omega
            refine WC.exit ?_
            refine End.thenX ?_
            refine End.thenX ?_
            refine End.blkX ?_
            refine End.seq ?_
            refine WC.seq ?_
            refine WC.region ?_
            refine WL.p rfl rfl rfl (P.assign rfl) ?_
            refine WL.nil_ ?_
            refine End.seq ?_
            refine WC.ret ?_
            refine End.ret1 rfl rfl ?_
            subst hk2
            exact fun w' hs' => RetV.of (by rw [partB_all (hz1 ▸ hc11) (hz3 ▸ hc24) ht]) hs'

/-- A name or a pattern. -/
def validB (stars : Bool) (s : ByteArray) : Bool := decide (1 ≤ s.size) && (decide (s.size ≤ 31) && (spB s.data.toList).all (partB stars))
theorem spB_all {s : ByteArray} {p : ByteArray → Bool} {k : Nat} {q : ByteArray} (hq : (spB s.data.toList)[k]? = some q) (h : p q = false) : (spB s.data.toList).all p = false := by
  rw [Bool.eq_false_iff]
  intro he
  rw [List.all_eq_true] at he
  rw [he q (List.mem_of_getElem? hq)] at h; cases h
theorem spB_pos (l : List UInt8) : 0 < (spB l).length := by
  have := List.length_pos_iff.2 (sp_ne l)
  simpa [spB] using this
theorem spB_lenle (s : ByteArray) : (spB s.data.toList).length ≤ s.size + 1 := by
  have := spB_len s.data.toList
  have e : s.size = s.data.toList.length := rfl
  simp only [spB, List.length_map]
  omega

set_option maxRecDepth 100000 in
theorem refValid1_any (s : ByteArray) (stars : Bool) (w : World) :
    Calls Tryz.prog 148 #[.string s, .bool stars] w (RetV w (.bool (validB stars s))) := by
  refine enter Tryz.func148 rfl Tryz.ntmps148 rfl ?_
  refine WC.seq ?_
  refine WC.region ?_
  refine WL.p rfl rfl rfl (P.assign rfl) ?_
  refine WL.nil_ ?_
  refine End.seq ?_
  refine WC.seq ?_
  refine WC.seq ?_
  refine WC.region ?_
  refine WL.p rfl rfl rfl (P.move rfl) ?_
  refine WL.p rfl rfl rfl (P.lenS Tryz.underlying9 rfl) ?_
  refine WL.p rfl rfl rfl (P.cmp rfl rfl rfl) ?_
  refine WL.p rfl rfl rfl (P.move rfl) ?_
  refine WL.split 10 rfl (fun hs10 => ?_) (fun hs10 => ?_)
  ·
    try simp only [decide_eq_true_eq, decide_eq_false_iff_not, beq_iff_eq, beq_eq_false_iff_ne, bne_iff_ne, bne_eq_false_iff_eq, Bool.not_eq_true', Bool.not_eq_false', ne_eq, Int.not_lt, Int.not_le] at hs10
    refine WL.off rfl rfl ?_
    refine WL.off rfl rfl ?_
    refine WL.off rfl rfl ?_
    refine WL.p rfl rfl rfl (P.pickT rfl rfl) ?_
    refine WL.nil_ ?_
    refine End.seq ?_
    refine WC.condT rfl ?_
    refine WC.seq ?_
    refine WC.region ?_
    refine WL.p rfl rfl rfl (P.assign rfl) ?_
    refine WL.nil_ ?_
    refine End.seq ?_
    refine WC.ret ?_
    refine End.thenR ?_
    refine End.ret1 rfl rfl ?_
    exact fun w' hs' => RetV.of (by rw [validB, decide_eq_false (by omega : ¬ 1 ≤ s.size)]; rfl) hs'
  ·
    try simp only [decide_eq_true_eq, decide_eq_false_iff_not, beq_iff_eq, beq_eq_false_iff_ne, bne_iff_ne, bne_eq_false_iff_eq, Bool.not_eq_true', Bool.not_eq_false', ne_eq, Int.not_lt, Int.not_le] at hs10
    refine WL.p rfl rfl rfl (P.move rfl) ?_
    refine WL.p rfl rfl rfl (P.lenS Tryz.underlying9 rfl) ?_
    refine WL.p rfl rfl rfl (P.cmp rfl rfl rfl) ?_
    refine WL.p rfl rfl rfl (P.pickF rfl rfl) ?_
    refine WL.nil_ ?_
    refine End.seq ?_
    refine WC.cond rfl (fun hc14 => ?_) (fun hc14 => ?_)
    ·
      try simp only [decide_eq_true_eq, decide_eq_false_iff_not, beq_iff_eq, beq_eq_false_iff_ne, bne_iff_ne, bne_eq_false_iff_eq, Bool.not_eq_true', Bool.not_eq_false', ne_eq, Int.not_lt, Int.not_le] at hc14
      refine WC.seq ?_
      refine WC.region ?_
      refine WL.p rfl rfl rfl (P.assign rfl) ?_
      refine WL.nil_ ?_
      refine End.seq ?_
      refine WC.ret ?_
      refine End.thenR ?_
      refine End.ret1 rfl rfl ?_
      exact fun w' hs' => RetV.of (by rw [validB, decide_eq_false (by omega : ¬ s.size ≤ 31)]; simp) hs'
    ·
      try simp only [decide_eq_true_eq, decide_eq_false_iff_not, beq_iff_eq, beq_eq_false_iff_ne, bne_iff_ne, bne_eq_false_iff_eq, Bool.not_eq_true', Bool.not_eq_false', ne_eq, Int.not_lt, Int.not_le] at hc14
      refine WC.skip ?_
      refine End.seq ?_
      refine WC.seq ?_
      refine WC.region ?_
      have hpl := spB_lenle s
      refine WL.p rfl rfl rfl (P.move rfl) ?_
      refine WL.callx (ent_of Tryz.func124 rfl rfl) rfl rfl rfl (fun w hs => refParts_any s w (by omega)) (fun p hp => ?_)
      refine WL.p rfl rfl rfl (P.assign rfl) ?_
      refine WL.nil_ ?_
      refine End.seq ?_
      refine WC.seq ?_
      refine WC.seq ?_
      refine WC.region ?_
      refine WL.p rfl rfl rfl (P.assign rfl) ?_
      refine WL.nil_ ?_
      refine End.seq ?_
      refine WC.block ?_
      refine WC.loopD (σ := Nat) (fun k => [(6, .int .i64 (k : Nat))]) (fun k => _) (fun k => k ≤ (spB s.data.toList).length ∧ ((spB s.data.toList).take k).all (partB stars) = true) (fun k => (spB s.data.toList).length - k) 0 ⟨Nat.zero_le _, rfl⟩ (Env.sub_cons rfl (Env.sub_nil)) [0] rfl rfl ?_
      rintro k ⟨hk, ht⟩
      refine WC.seq ?_
      refine WC.seq ?_
      refine WC.region ?_
      refine WL.p rfl rfl rfl (P.move rfl) ?_
      refine WL.p rfl rfl rfl (P.move rfl) ?_
      refine WL.p rfl rfl rfl (P.lenR Tryz.underlying48 rfl) ?_
      refine WL.p rfl rfl rfl (P.cmp rfl rfl rfl) ?_
      refine WL.nil_ ?_
      refine End.seq ?_
      refine WC.cond rfl (fun hc20 => ?_) (fun hc20 => ?_)
      ·
        try simp only [decide_eq_true_eq, decide_eq_false_iff_not, beq_iff_eq, beq_eq_false_iff_ne, bne_iff_ne, bne_eq_false_iff_eq, Bool.not_eq_true', Bool.not_eq_false', ne_eq, Int.not_lt, Int.not_le] at hc20
        obtain ⟨q, hq⟩ := get_of_lt (xs := spB s.data.toList) (k := k) (by omega)
        refine WC.skip ?_
        refine End.seq ?_
        refine WC.seq ?_
        refine WC.block ?_
        refine WC.seq ?_
        refine WC.region ?_
        refine WL.p rfl rfl rfl (P.move rfl) ?_
        refine WL.p rfl rfl rfl (P.move rfl) ?_
        refine WL.p rfl rfl rfl (P.elemAddr Tryz.underlying48 Tryz.sizeOf9 rfl rfl (by omega) (by omega)) ?_
        refine WL.p rfl rfl rfl (P.loadR 0 Tryz.isAgg9 rfl rfl (off := 0 + (k : Int).toNat * 1) (by simpa using strs_get hq)) ?_
        refine WL.p rfl rfl rfl (P.move rfl) ?_
        refine WL.callv (ent_of Tryz.func236 rfl rfl) rfl rfl rfl (fun w hs => refPart_any q stars w (by have := spB_el (List.mem_of_getElem? hq); have e : s.size = s.data.toList.length := rfl; omega)) ?_
        refine WL.p rfl rfl rfl (P.not_ rfl) ?_
        refine WL.nil_ ?_
        refine End.seq ?_
        refine WC.cond rfl (fun hc29 => ?_) (fun hc29 => ?_)
        ·
          try simp only [decide_eq_true_eq, decide_eq_false_iff_not, beq_iff_eq, beq_eq_false_iff_ne, bne_iff_ne, bne_eq_false_iff_eq, Bool.not_eq_true', Bool.not_eq_false', ne_eq, Int.not_lt, Int.not_le] at hc29
          refine WC.seq ?_
          refine WC.region ?_
          refine WL.p rfl rfl rfl (P.assign rfl) ?_
          refine WL.nil_ ?_
          refine End.seq ?_
          refine WC.ret ?_
          refine End.blkR ?_
          refine End.thenR ?_
          refine End.thenR ?_
          refine End.blkR ?_
          refine End.thenR ?_
          refine End.ret1 rfl rfl ?_
          exact fun w' hs' => RetV.of (by rw [validB, spB_all hq (by simpa using hc29)]; simp) hs'
        ·
          try simp only [decide_eq_true_eq, decide_eq_false_iff_not, beq_iff_eq, beq_eq_false_iff_ne, bne_iff_ne, bne_eq_false_iff_eq, Bool.not_eq_true', Bool.not_eq_false', ne_eq, Int.not_lt, Int.not_le] at hc29
          refine WC.skip ?_
          refine End.blkN ?_
          refine End.seq ?_
          refine WC.region ?_
          refine WL.p rfl rfl rfl (P.move rfl) ?_
          refine WL.p rfl rfl rfl (P.ari64 rfl rfl rfl (by omega)) ?_
          refine WL.p rfl rfl rfl (P.assign rfl) ?_
          refine WL.nil_ ?_
          refine End.againD (k + 1) ?_ ?_ rfl (Env.sub_cons rfl (Env.sub_nil)) rfl [0] rfl rfl
          · exact ⟨by omega, by rw [all_snoc hq, ht, Bool.true_and]; simpa using hc29⟩
          · omega
      ·
        try simp only [decide_eq_true_eq, decide_eq_false_iff_not, beq_iff_eq, beq_eq_false_iff_ne, bne_iff_ne, bne_eq_false_iff_eq, Bool.not_eq_true', Bool.not_eq_false', ne_eq, Int.not_lt, Int.not_le] at hc20
        refine WC.exit ?_
        refine End.thenX ?_
        refine End.thenX ?_
        refine End.blkX ?_
        refine End.seq ?_
        refine WC.seq ?_
        refine WC.region ?_
        refine WL.p rfl rfl rfl (P.assign rfl) ?_
        refine WL.nil_ ?_
        refine End.seq ?_
        refine WC.ret ?_
        refine End.ret1 rfl rfl ?_
        have e : k = (spB s.data.toList).length := by omega
        rw [e, List.take_length] at ht
        exact fun w' hs' => RetV.of (by rw [validB, ht, decide_eq_true (by omega : 1 ≤ s.size), decide_eq_true (by omega : s.size ≤ 31)]; rfl) hs'

set_option maxRecDepth 100000 in
theorem refValid_any (s : ByteArray) (w : World) :
    Calls Tryz.prog 117 #[.string s] w (RetV w (.bool (validB false s))) := by
  refine enter Tryz.func117 rfl Tryz.ntmps117 rfl ?_
  refine WC.seq ?_
  refine WC.region ?_
  refine WL.p rfl rfl rfl (P.assign rfl) ?_
  refine WL.nil_ ?_
  refine End.seq ?_
  refine WC.seq ?_
  refine WC.region ?_
  refine WL.p rfl rfl rfl (P.move rfl) ?_
  refine WL.callv (ent_of Tryz.func148 rfl rfl) rfl rfl rfl (fun w hs => refValid1_any s false w) ?_
  refine WL.p rfl rfl rfl (P.assign rfl) ?_
  refine WL.nil_ ?_
  refine End.seq ?_
  refine WC.ret ?_
  refine End.ret1 rfl rfl ?_
  exact fun w' hs' => RetV.of rfl hs'

set_option maxRecDepth 100000 in
theorem refValidPattern_any (s : ByteArray) (w : World) :
    Calls Tryz.prog 59 #[.string s] w (RetV w (.bool (validB true s))) := by
  refine enter Tryz.func59 rfl Tryz.ntmps59 rfl ?_
  refine WC.seq ?_
  refine WC.region ?_
  refine WL.p rfl rfl rfl (P.assign rfl) ?_
  refine WL.nil_ ?_
  refine End.seq ?_
  refine WC.seq ?_
  refine WC.region ?_
  refine WL.p rfl rfl rfl (P.move rfl) ?_
  refine WL.callv (ent_of Tryz.func148 rfl rfl) rfl rfl rfl (fun w hs => refValid1_any s true w) ?_
  refine WL.p rfl rfl rfl (P.assign rfl) ?_
  refine WL.nil_ ?_
  refine End.seq ?_
  refine WC.ret ?_
  refine End.ret1 rfl rfl ?_
  exact fun w' hs' => RetV.of rfl hs'

def rgroupB (s : ByteArray) : Bool := validB false s && (decide (s.size ≤ 22) && !((spB s.data.toList).any isGenQ))
theorem validB_size {stars : Bool} {s : ByteArray} (h : validB stars s = true) : 1 ≤ s.size ∧ s.size ≤ 31 := by
  unfold validB at h
  rw [Bool.and_eq_true, Bool.and_eq_true, decide_eq_true_eq, decide_eq_true_eq] at h
  exact ⟨h.1, h.2.1⟩
theorem any_hit {l : List ByteArray} {k : Nat} {x : ByteArray} {p : ByteArray → Bool} (hx : l[k]? = some x) (h : p x = true) : l.any p = true := idx_hit hx h

set_option maxRecDepth 100000 in
theorem refIsGroup_any (s : ByteArray) (w : World) :
    Calls Tryz.prog 122 #[.string s] w (RetV w (.bool (rgroupB s))) := by
  refine enter Tryz.func122 rfl Tryz.ntmps122 rfl ?_
  refine WC.seq ?_
  refine WC.region ?_
  refine WL.p rfl rfl rfl (P.assign rfl) ?_
  refine WL.nil_ ?_
  refine End.seq ?_
  refine WC.seq ?_
  refine WC.seq ?_
  refine WC.region ?_
  refine WL.p rfl rfl rfl (P.move rfl) ?_
  refine WL.callv (ent_of Tryz.func117 rfl rfl) rfl rfl rfl (fun w hs => refValid_any s w) ?_
  refine WL.p rfl rfl rfl (P.not_ rfl) ?_
  refine WL.p rfl rfl rfl (P.move rfl) ?_
  refine WL.split 8 rfl (fun hs8 => ?_) (fun hs8 => ?_)
  ·
    try simp only [decide_eq_true_eq, decide_eq_false_iff_not, beq_iff_eq, beq_eq_false_iff_ne, bne_iff_ne, bne_eq_false_iff_eq, Bool.not_eq_true', Bool.not_eq_false', ne_eq, Int.not_lt, Int.not_le] at hs8
    refine WL.off rfl rfl ?_
    refine WL.off rfl rfl ?_
    refine WL.off rfl rfl ?_
    refine WL.p rfl rfl rfl (P.pickT rfl rfl) ?_
    refine WL.nil_ ?_
    refine End.seq ?_
    refine WC.condT rfl ?_
    refine WC.seq ?_
    refine WC.region ?_
    refine WL.p rfl rfl rfl (P.assign rfl) ?_
    refine WL.nil_ ?_
    refine End.seq ?_
    refine WC.ret ?_
    refine End.thenR ?_
    refine End.ret1 rfl rfl ?_
    exact fun w' hs' => RetV.of (by rw [rgroupB, hs8]; rfl) hs'
  ·
    try simp only [decide_eq_true_eq, decide_eq_false_iff_not, beq_iff_eq, beq_eq_false_iff_ne, bne_iff_ne, bne_eq_false_iff_eq, Bool.not_eq_true', Bool.not_eq_false', ne_eq, Int.not_lt, Int.not_le] at hs8
    refine WL.p rfl rfl rfl (P.move rfl) ?_
    refine WL.p rfl rfl rfl (P.lenS Tryz.underlying9 rfl) ?_
    refine WL.p rfl rfl rfl (P.cmp rfl rfl rfl) ?_
    refine WL.p rfl rfl rfl (P.pickF rfl rfl) ?_
    refine WL.nil_ ?_
    refine End.seq ?_
    refine WC.cond rfl (fun hc12 => ?_) (fun hc12 => ?_)
    ·
      try simp only [decide_eq_true_eq, decide_eq_false_iff_not, beq_iff_eq, beq_eq_false_iff_ne, bne_iff_ne, bne_eq_false_iff_eq, Bool.not_eq_true', Bool.not_eq_false', ne_eq, Int.not_lt, Int.not_le] at hc12
      refine WC.seq ?_
      refine WC.region ?_
      refine WL.p rfl rfl rfl (P.assign rfl) ?_
      refine WL.nil_ ?_
      refine End.seq ?_
      refine WC.ret ?_
      refine End.thenR ?_
      refine End.ret1 rfl rfl ?_
      exact fun w' hs' => RetV.of (by rw [rgroupB, decide_eq_false (by omega : ¬ s.size ≤ 22)]; simp) hs'
    ·
      try simp only [decide_eq_true_eq, decide_eq_false_iff_not, beq_iff_eq, beq_eq_false_iff_ne, bne_iff_ne, bne_eq_false_iff_eq, Bool.not_eq_true', Bool.not_eq_false', ne_eq, Int.not_lt, Int.not_le] at hc12
      refine WC.skip ?_
      refine End.seq ?_
      refine WC.seq ?_
      refine WC.region ?_
      have hpl := spB_lenle s
      have hv := validB_size hs8
      refine WL.p rfl rfl rfl (P.move rfl) ?_
      refine WL.callx (ent_of Tryz.func124 rfl rfl) rfl rfl rfl (fun w hs => refParts_any s w (by omega)) (fun p hp => ?_)
      refine WL.p rfl rfl rfl (P.assign rfl) ?_
      refine WL.nil_ ?_
      refine End.seq ?_
      refine WC.seq ?_
      refine WC.seq ?_
      refine WC.region ?_
      refine WL.p rfl rfl rfl (P.assign rfl) ?_
      refine WL.nil_ ?_
      refine End.seq ?_
      refine WC.block ?_
      refine WC.loopD (σ := Nat) (fun k => [(4, .int .i64 (k : Nat))]) (fun k => _) (fun k => k ≤ (spB s.data.toList).length ∧ ((spB s.data.toList).take k).any isGenQ = false) (fun k => (spB s.data.toList).length - k) 0 ⟨Nat.zero_le _, rfl⟩ (Env.sub_cons rfl (Env.sub_nil)) [0] rfl rfl ?_
      rintro k ⟨hk, ht⟩
      refine WC.seq ?_
      refine WC.seq ?_
      refine WC.region ?_
      refine WL.p rfl rfl rfl (P.move rfl) ?_
      refine WL.p rfl rfl rfl (P.move rfl) ?_
      refine WL.p rfl rfl rfl (P.lenR Tryz.underlying48 rfl) ?_
      refine WL.p rfl rfl rfl (P.cmp rfl rfl rfl) ?_
      refine WL.nil_ ?_
      refine End.seq ?_
      refine WC.cond rfl (fun hc18 => ?_) (fun hc18 => ?_)
      ·
        try simp only [decide_eq_true_eq, decide_eq_false_iff_not, beq_iff_eq, beq_eq_false_iff_ne, bne_iff_ne, bne_eq_false_iff_eq, Bool.not_eq_true', Bool.not_eq_false', ne_eq, Int.not_lt, Int.not_le] at hc18
        obtain ⟨q, hq⟩ := get_of_lt (xs := spB s.data.toList) (k := k) (by omega)
        refine WC.skip ?_
        refine End.seq ?_
        refine WC.seq ?_
        refine WC.block ?_
        refine WC.seq ?_
        refine WC.region ?_
        refine WL.p rfl rfl rfl (P.move rfl) ?_
        refine WL.p rfl rfl rfl (P.move rfl) ?_
        refine WL.p rfl rfl rfl (P.elemAddr Tryz.underlying48 Tryz.sizeOf9 rfl rfl (by omega) (by omega)) ?_
        refine WL.p rfl rfl rfl (P.loadR 0 Tryz.isAgg9 rfl rfl (off := 0 + (k : Int).toNat * 1) (by simpa using strs_get hq)) ?_
        refine WL.callv (ent_of Tryz.func215 rfl rfl) rfl rfl rfl (fun w hs => refNumber_any q w (by have := spB_el (List.mem_of_getElem? hq); have e : s.size = s.data.toList.length := rfl; omega)) ?_
        refine WL.p rfl rfl rfl (P.cmp rfl rfl rfl) ?_
        refine WL.nil_ ?_
        refine End.seq ?_
        refine WC.cond rfl (fun hc26 => ?_) (fun hc26 => ?_)
        ·
          try simp only [decide_eq_true_eq, decide_eq_false_iff_not, beq_iff_eq, beq_eq_false_iff_ne, bne_iff_ne, bne_eq_false_iff_eq, Bool.not_eq_true', Bool.not_eq_false', ne_eq, Int.not_lt, Int.not_le] at hc26
          refine WC.seq ?_
          refine WC.region ?_
          refine WL.p rfl rfl rfl (P.assign rfl) ?_
          refine WL.nil_ ?_
          refine End.seq ?_
          refine WC.ret ?_
          refine End.blkR ?_
          refine End.thenR ?_
          refine End.thenR ?_
          refine End.blkR ?_
          refine End.thenR ?_
          refine End.ret1 rfl rfl ?_
          exact fun w' hs' => RetV.of (by rw [rgroupB, any_hit hq (decide_eq_true (by omega))]; simp) hs'
        ·
          try simp only [decide_eq_true_eq, decide_eq_false_iff_not, beq_iff_eq, beq_eq_false_iff_ne, bne_iff_ne, bne_eq_false_iff_eq, Bool.not_eq_true', Bool.not_eq_false', ne_eq, Int.not_lt, Int.not_le] at hc26
          refine WC.skip ?_
          refine End.blkN ?_
          refine End.seq ?_
          refine WC.region ?_
          refine WL.p rfl rfl rfl (P.move rfl) ?_
          refine WL.p rfl rfl rfl (P.ari64 rfl rfl rfl (by omega)) ?_
          refine WL.p rfl rfl rfl (P.assign rfl) ?_
          refine WL.nil_ ?_
          refine End.againD (k + 1) ?_ ?_ rfl (Env.sub_cons rfl (Env.sub_nil)) rfl [0] rfl rfl
          · exact ⟨by omega, by rw [any_false_snoc hq, ht, Bool.false_or]; simp only [isGenQ]; exact decide_eq_false (by omega)⟩
          · omega
      ·
        try simp only [decide_eq_true_eq, decide_eq_false_iff_not, beq_iff_eq, beq_eq_false_iff_ne, bne_iff_ne, bne_eq_false_iff_eq, Bool.not_eq_true', Bool.not_eq_false', ne_eq, Int.not_lt, Int.not_le] at hc18
        refine WC.exit ?_
        refine End.thenX ?_
        refine End.thenX ?_
        refine End.blkX ?_
        refine End.seq ?_
        refine WC.seq ?_
        refine WC.region ?_
        refine WL.p rfl rfl rfl (P.assign rfl) ?_
        refine WL.nil_ ?_
        refine End.seq ?_
        refine WC.ret ?_
        refine End.ret1 rfl rfl ?_
        have e : k = (spB s.data.toList).length := by omega
        rw [e, List.take_length] at ht
        exact fun w' hs' => RetV.of (by rw [rgroupB, ht, hs8, decide_eq_true (by omega : s.size ≤ 22)]; rfl) hs'

/-- Texts with full stops between them. -/
def joinB : List ByteArray → ByteArray
  | [] => ⟨#[]⟩
  | x :: r => r.foldl (fun s y => s ++ dot ++ y) x
theorem joinB_snoc {l : List ByteArray} (h : l ≠ []) (y : ByteArray) : joinB (l ++ [y]) = joinB l ++ dot ++ y := by
  cases l with
  | nil => exact absurd rfl h
  | cons x r => simp [joinB, List.foldl_append]
def sizes (l : List ByteArray) : Nat := (l.map (fun x => x.size + 1)).sum
theorem mkB_size (l : List UInt8) : (mkB l).size = l.length := by
  show l.toArray.size = _
  simp
theorem sizes_cons (x : ByteArray) (l : List ByteArray) : sizes (x :: l) = x.size + 1 + sizes l := by simp [sizes]
theorem sizes_app (a b : List ByteArray) : sizes (a ++ b) = sizes a + sizes b := by simp [sizes]
theorem joinB_size : ∀ (n : Nat) (l : List ByteArray), l.length = n → (joinB l).size ≤ sizes l
  | 0, l, h => by
    have : l = [] := List.length_eq_zero_iff.1 h
    subst this
    exact Nat.le_refl _
  | n + 1, l, h => by
    have hne : l ≠ [] := by intro e; subst e; cases h
    obtain ⟨a, y, rfl⟩ : ∃ a y, l = a ++ [y] := ⟨l.dropLast, l.getLast hne, (List.dropLast_concat_getLast hne).symm⟩
    have ih := joinB_size n a (by simpa using h)
    by_cases ha : a = []
    · subst ha
      simp [joinB, sizes]
    · rw [joinB_snoc ha, sizes_app, ByteArray.size_append, ByteArray.size_append]
      have e1 : (dot : ByteArray).size = 1 := rfl
      have e2 : sizes [y] = y.size + 1 := by simp [sizes]
      omega
theorem sizes_take (l : List ByteArray) (k : Nat) : sizes (l.take k) ≤ sizes l := by
  conv => rhs; rw [← List.take_append_drop k l, sizes_app]
  omega
theorem sizes_spB : ∀ l : List UInt8, sizes (spB l) = l.length + 1
  | [] => rfl
  | c :: r => by
    have ih := sizes_spB r
    unfold spB sp
    split
    · simp only [List.map_cons]
      have : sizes (mkB [] :: (sp r).map mkB) = 1 + sizes (spB r) := by rw [sizes_cons, mkB_size]; simp [spB]
      rw [this, ih]; simp; omega
    · split
      · rename_i h t e
        have h2 : sizes (spB r) = h.length + 1 + sizes (t.map mkB) := by rw [spB, e, List.map_cons, sizes_cons, mkB_size]
        have h3 : sizes (((c :: h) :: t).map mkB) = h.length + 1 + 1 + sizes (t.map mkB) := by rw [List.map_cons, sizes_cons, mkB_size]; simp
        rw [h3]; simp only [List.length_cons]; omega
      · rename_i e
        exact absurd e (sp_ne r)

set_option maxRecDepth 100000 in
theorem refJoin_any (A : Option Addr) (c : Nat) (xs : List ByteArray) (w : World) (hr : Sl encS 1 w A xs) (hz : sizes xs < 4294967290) :
    Calls Tryz.prog 214 #[.slice A xs.length c] w (RetV w (.string (joinB xs))) := by
  have hl := hr.1
  refine enter Tryz.func214 rfl Tryz.ntmps214 rfl ?_
  refine WC.seq ?_
  refine WC.region ?_
  refine WL.p rfl rfl rfl (P.assign rfl) ?_
  refine WL.nil_ ?_
  refine End.seq ?_
  refine WC.seq ?_
  refine WC.region ?_
  refine WL.p rfl rfl rfl (P.assign rfl) ?_
  refine WL.nil_ ?_
  refine End.seq ?_
  refine WC.seq ?_
  refine WC.seq ?_
  refine WC.region ?_
  refine WL.p rfl rfl rfl (P.assign rfl) ?_
  refine WL.nil_ ?_
  refine End.seq ?_
  refine WC.block ?_
  refine WC.loopD (σ := Nat) (fun k => [(4, .int .i64 (k : Nat)), (3, .string (joinB (xs.take k)))]) (fun k => []) (fun k => k ≤ xs.length) (fun k => xs.length - k) 0 (Nat.zero_le _) (Env.sub_cons rfl (Env.sub_cons rfl (Env.sub_nil))) [] rfl rfl ?_
  rintro k hk
  refine WC.seq ?_
  refine WC.seq ?_
  refine WC.region ?_
  refine WL.p rfl rfl rfl (P.move rfl) ?_
  refine WL.p rfl rfl rfl (P.move rfl) ?_
  refine WL.p rfl rfl rfl (P.lenR Tryz.underlying48 rfl) ?_
  refine WL.p rfl rfl rfl (P.cmp rfl rfl rfl) ?_
  refine WL.nil_ ?_
  refine End.seq ?_
  refine WC.cond rfl (fun hc8 => ?_) (fun hc8 => ?_)
  ·
    try simp only [decide_eq_true_eq, decide_eq_false_iff_not, beq_iff_eq, beq_eq_false_iff_ne, bne_iff_ne, bne_eq_false_iff_eq, Bool.not_eq_true', Bool.not_eq_false', ne_eq, Int.not_lt, Int.not_le] at hc8
    obtain ⟨b, off, rfl, hcx⟩ := hr.at_ (by omega)
    obtain ⟨x, hx⟩ := get_of_lt (xs := xs) (k := k) (by omega)
    have hj1 := joinB_size _ (xs.take k) rfl
    have hj2 : sizes (xs.take k) + (x.size + 1) ≤ sizes xs := by have := sizes_take xs (k + 1); rw [take_snoc hx, sizes_app] at this; have e2 : sizes [x] = x.size + 1 := (by simp [sizes]); omega
    have hdot : (dot : ByteArray).size = 1 := rfl
    refine WC.skip ?_
    refine End.seq ?_
    refine WC.seq ?_
    refine WC.block ?_
    refine WC.seq ?_
    refine WC.seq ?_
    refine WC.region ?_
    refine WL.p rfl rfl rfl (P.move rfl) ?_
    refine WL.p rfl rfl rfl (P.cmp rfl rfl rfl) ?_
    refine WL.nil_ ?_
    refine End.seq ?_
    refine WC.cond rfl (fun hc12 => ?_) (fun hc12 => ?_)
    ·
      try simp only [decide_eq_true_eq, decide_eq_false_iff_not, beq_iff_eq, beq_eq_false_iff_ne, bne_iff_ne, bne_eq_false_iff_eq, Bool.not_eq_true', Bool.not_eq_false', ne_eq, Int.not_lt, Int.not_le] at hc12
      have hj : joinB (xs.take k) ++ dot ++ x = joinB (xs.take (k + 1)) := by rw [take_snoc hx, joinB_snoc (by intro e; have := congrArg List.length e; rw [List.length_take, List.length_nil] at this; omega)]
      refine WC.region ?_
      refine WL.p rfl rfl rfl (P.move rfl) ?_
      refine WL.p rfl rfl rfl (P.cat rfl rfl (show _ + 1 ≤ 9223372036854775807 by omega)) ?_
      refine WL.p rfl rfl rfl (P.assign rfl) ?_
      refine WL.nil_ ?_
      refine End.seq ?_
      refine WC.region ?_
      refine WL.p rfl rfl rfl (P.move rfl) ?_
      refine WL.p rfl rfl rfl (P.move rfl) ?_
      refine WL.p rfl rfl rfl (P.move rfl) ?_
      refine WL.p rfl rfl rfl (P.elemAddr Tryz.underlying48 Tryz.sizeOf9 rfl rfl (by omega) (by omega)) ?_
      refine WL.p rfl rfl rfl (P.loadB Tryz.isAgg9 rfl (hcx k x hx 0 _ rfl)) ?_
      refine WL.p rfl rfl rfl (P.cat rfl rfl (by first | omega | (rw [ByteArray.size_append]; show _ + 1 + _ ≤ 9223372036854775807; omega))) ?_
      refine WL.p rfl rfl rfl (P.assign rfl) ?_
      refine WL.nil_ ?_
      refine End.blkN ?_
      refine End.seq ?_
      refine WC.region ?_
      refine WL.is 3 rfl (congrArg Value.string hj) ?_
      refine WL.p rfl rfl rfl (P.move rfl) ?_
      refine WL.p rfl rfl rfl (P.ari64 rfl rfl rfl (by omega)) ?_
      refine WL.p rfl rfl rfl (P.assign rfl) ?_
      refine WL.nil_ ?_
      refine End.againD (k + 1) ?_ ?_ rfl (Env.sub_cons rfl (Env.sub_cons rfl (Env.sub_nil))) rfl [] rfl rfl
      · exact (by omega : k + 1 ≤ xs.length)
      · omega
    ·
      try simp only [decide_eq_true_eq, decide_eq_false_iff_not, beq_iff_eq, beq_eq_false_iff_ne, bne_iff_ne, bne_eq_false_iff_eq, Bool.not_eq_true', Bool.not_eq_false', ne_eq, Int.not_lt, Int.not_le] at hc12
      have hj : joinB (xs.take k) ++ x = joinB (xs.take (k + 1)) := by have e : k = 0 := (by omega); subst e; rw [take_snoc hx]; exact ByteArray.empty_append
      refine WC.skip ?_
      refine End.seq ?_
      refine WC.region ?_
      refine WL.p rfl rfl rfl (P.move rfl) ?_
      refine WL.p rfl rfl rfl (P.move rfl) ?_
      refine WL.p rfl rfl rfl (P.move rfl) ?_
      refine WL.p rfl rfl rfl (P.elemAddr Tryz.underlying48 Tryz.sizeOf9 rfl rfl (by omega) (by omega)) ?_
      refine WL.p rfl rfl rfl (P.loadB Tryz.isAgg9 rfl (hcx k x hx 0 _ rfl)) ?_
      refine WL.p rfl rfl rfl (P.cat rfl rfl (by first | omega | (rw [ByteArray.size_append]; show _ + 1 + _ ≤ 9223372036854775807; omega))) ?_
      refine WL.p rfl rfl rfl (P.assign rfl) ?_
      refine WL.nil_ ?_
      refine End.blkN ?_
      refine End.seq ?_
      refine WC.region ?_
      refine WL.is 3 rfl (congrArg Value.string hj) ?_
      refine WL.p rfl rfl rfl (P.move rfl) ?_
      refine WL.p rfl rfl rfl (P.ari64 rfl rfl rfl (by omega)) ?_
      refine WL.p rfl rfl rfl (P.assign rfl) ?_
      refine WL.nil_ ?_
      refine End.againD (k + 1) ?_ ?_ rfl (Env.sub_cons rfl (Env.sub_cons rfl (Env.sub_nil))) rfl [] rfl rfl
      · exact (by omega : k + 1 ≤ xs.length)
      · omega
  ·
    try simp only [decide_eq_true_eq, decide_eq_false_iff_not, beq_iff_eq, beq_eq_false_iff_ne, bne_iff_ne, bne_eq_false_iff_eq, Bool.not_eq_true', Bool.not_eq_false', ne_eq, Int.not_lt, Int.not_le] at hc8
    refine WC.exit ?_
    refine End.thenX ?_
    refine End.thenX ?_
    refine End.blkX ?_
    refine End.seq ?_
    refine WC.seq ?_
    refine WC.region ?_
    refine WL.p rfl rfl rfl (P.move rfl) ?_
    refine WL.p rfl rfl rfl (P.assign rfl) ?_
    refine WL.nil_ ?_
    refine End.seq ?_
    refine WC.ret ?_
    refine End.ret1 rfl rfl ?_
    have e : k = xs.length := by omega
    rw [e, List.take_length]
    exact fun w' hs' => RetV.of rfl hs'

/-- The group and the number of a generation's name. -/
def rsplitB (s : ByteArray) : ByteArray × Int × Bool :=
  if genNum ((spB s.data.toList).getLast?.getD ⟨#[]⟩).data.toList = 0 ∨ rgroupB (joinB ((spB s.data.toList).take ((spB s.data.toList).length - 1))) = false then (⟨#[]⟩, 0, false) else (joinB ((spB s.data.toList).take ((spB s.data.toList).length - 1)), genNum ((spB s.data.toList).getLast?.getD ⟨#[]⟩).data.toList, true)
theorem last_of {l : List ByteArray} (h : 0 < l.length) : l[l.length - 1]? = some (l.getLast?.getD ⟨#[]⟩) := by
  rw [List.getLast?_eq_getElem?, List.getElem?_eq_getElem (by omega)]; rfl
theorem init_of (l : List ByteArray) : l.dropLast = l.take (l.length - 1) := List.dropLast_eq_take

set_option maxRecDepth 100000 in
theorem refSplit_any (s : ByteArray) (w : World) (hsz : s.size < 4294967281) :
    Calls Tryz.prog 118 #[.string s] w (RetV w (.tuple #[.string (rsplitB s).1, .int .i64 (rsplitB s).2.1, .bool (rsplitB s).2.2])) := by
  have hl : s.size = s.data.toList.length := rfl
  refine enter Tryz.func118 rfl Tryz.ntmps118 rfl ?_
  refine WC.seq ?_
  refine WC.region ?_
  refine WL.p rfl rfl rfl (P.assign rfl) ?_
  refine WL.p rfl rfl rfl (P.assign rfl) ?_
  refine WL.p rfl rfl rfl (P.assign rfl) ?_
  refine WL.nil_ ?_
  refine End.seq ?_
  refine WC.seq ?_
  refine WC.region ?_
  refine WL.p rfl rfl rfl (P.move rfl) ?_
  refine WL.callx (ent_of Tryz.func124 rfl rfl) rfl rfl rfl (fun w hs => refParts_any s w (by omega)) (fun p hp => ?_)
  refine WL.p rfl rfl rfl (P.assign rfl) ?_
  refine WL.nil_ ?_
  refine End.seq ?_
  refine WC.seq ?_
  refine WC.quiet (by kernel_rfl) ?_
  have hpl := spB_lenle s
  have hpos := spB_pos s.data.toList
  refine WQ.p rfl rfl rfl (P.move rfl) ?_
  refine WQ.p rfl rfl rfl (P.move rfl) ?_
  refine WQ.p rfl rfl rfl (P.lenR Tryz.underlying48 rfl) ?_
  refine WQ.p rfl rfl rfl (P.ari64 rfl rfl rfl (by omega)) ?_
  refine WQ.p rfl rfl rfl (P.cutH Tryz.underlying48 Tryz.sizeOf9 rfl rfl (by omega) (by omega)) ?_
  refine WQ.is 14 rfl (congrArg (fun q => Value.slice (some ⟨p.1, 0, none⟩) q p.2) (show _ = ((spB s.data.toList).take ((spB s.data.toList).length - 1)).length from by rw [List.length_take]; omega)) ?_
  refine WQ.callv (ent_of Tryz.func214 rfl rfl) rfl rfl rfl (fun w hs => refJoin_any _ _ _ w ((slS_item hs (j := 0) rfl (by omega)).take _) (by have := sizes_take (spB s.data.toList) ((spB s.data.toList).length - 1); rw [sizes_spB] at this; omega)) ?_
  refine WQ.p rfl rfl rfl (P.move rfl) ?_
  refine WQ.p rfl rfl rfl (P.move rfl) ?_
  refine WQ.p rfl rfl rfl (P.lenR Tryz.underlying48 rfl) ?_
  refine WQ.p rfl rfl rfl (P.ari64 rfl rfl rfl (by omega)) ?_
  refine WQ.p rfl rfl rfl (P.elemAddr Tryz.underlying48 Tryz.sizeOf9 rfl rfl (by omega) (by omega)) ?_
  refine WQ.p rfl rfl rfl (P.loadR 0 Tryz.isAgg9 rfl rfl (off := 0 + ((((spB s.data.toList).length : Nat) : Int) - 1).toNat * 1) (by rw [show 0 + ((((spB s.data.toList).length : Nat) : Int) - 1).toNat * 1 = (spB s.data.toList).length - 1 by omega]; exact strs_get (last_of hpos))) ?_
  refine WQ.callv (ent_of Tryz.func215 rfl rfl) rfl rfl rfl (fun w hs => refNumber_any _ w (by have := spB_el (List.mem_of_getElem? (last_of hpos)); omega)) ?_
  refine WQ.p rfl rfl rfl (P.assign rfl) ?_
  refine WQ.p rfl rfl rfl (P.assign rfl) ?_
  refine WQ.nil_ ?_
  refine End.seq ?_
  refine WC.seq ?_
  refine WC.seq ?_
  refine WC.region ?_
  refine WL.p rfl rfl rfl (P.move rfl) ?_
  refine WL.p rfl rfl rfl (P.cmp rfl rfl rfl) ?_
  refine WL.p rfl rfl rfl (P.move rfl) ?_
  refine WL.split 25 rfl (fun hs25 => ?_) (fun hs25 => ?_)
  ·
    try simp only [decide_eq_true_eq, decide_eq_false_iff_not, beq_iff_eq, beq_eq_false_iff_ne, bne_iff_ne, bne_eq_false_iff_eq, Bool.not_eq_true', Bool.not_eq_false', ne_eq, Int.not_lt, Int.not_le] at hs25
    refine WL.off rfl rfl ?_
    refine WL.off rfl rfl ?_
    refine WL.off rfl rfl ?_
    refine WL.p rfl rfl rfl (P.pickT rfl rfl) ?_
    refine WL.nil_ ?_
    refine End.seq ?_
    refine WC.condT rfl ?_
    refine WC.seq ?_
    refine WC.region ?_
    refine WL.p rfl rfl rfl (P.assign rfl) ?_
    refine WL.p rfl rfl rfl (P.assign rfl) ?_
    refine WL.p rfl rfl rfl (P.assign rfl) ?_
    refine WL.nil_ ?_
    refine End.seq ?_
    refine WC.ret ?_
    refine End.thenR ?_
    refine End.ret3 rfl rfl rfl rfl ?_
    exact fun w' hs' => RetV.of (by rw [rsplitB, if_pos (.inl hs25)]) hs'
  ·
    try simp only [decide_eq_true_eq, decide_eq_false_iff_not, beq_iff_eq, beq_eq_false_iff_ne, bne_iff_ne, bne_eq_false_iff_eq, Bool.not_eq_true', Bool.not_eq_false', ne_eq, Int.not_lt, Int.not_le] at hs25
    refine WL.p rfl rfl rfl (P.move rfl) ?_
    refine WL.callv (ent_of Tryz.func122 rfl rfl) rfl rfl rfl (fun w hs => refIsGroup_any (joinB ((spB s.data.toList).take ((spB s.data.toList).length - 1))) w) ?_
    refine WL.p rfl rfl rfl (P.not_ rfl) ?_
    refine WL.p rfl rfl rfl (P.pickF rfl rfl) ?_
    refine WL.nil_ ?_
    refine End.seq ?_
    refine WC.cond rfl (fun hc29 => ?_) (fun hc29 => ?_)
    ·
      try simp only [decide_eq_true_eq, decide_eq_false_iff_not, beq_iff_eq, beq_eq_false_iff_ne, bne_iff_ne, bne_eq_false_iff_eq, Bool.not_eq_true', Bool.not_eq_false', ne_eq, Int.not_lt, Int.not_le] at hc29
      refine WC.seq ?_
      refine WC.region ?_
      refine WL.p rfl rfl rfl (P.assign rfl) ?_
      refine WL.p rfl rfl rfl (P.assign rfl) ?_
      refine WL.p rfl rfl rfl (P.assign rfl) ?_
      refine WL.nil_ ?_
      refine End.seq ?_
      refine WC.ret ?_
      refine End.thenR ?_
      refine End.ret3 rfl rfl rfl rfl ?_
      exact fun w' hs' => RetV.of (by rw [rsplitB, if_pos (.inr hc29)]) hs'
    ·
      try simp only [decide_eq_true_eq, decide_eq_false_iff_not, beq_iff_eq, beq_eq_false_iff_ne, bne_iff_ne, bne_eq_false_iff_eq, Bool.not_eq_true', Bool.not_eq_false', ne_eq, Int.not_lt, Int.not_le] at hc29
      refine WC.skip ?_
      refine End.seq ?_
      refine WC.seq ?_
      refine WC.region ?_
      refine WL.p rfl rfl rfl (P.move rfl) ?_
      refine WL.p rfl rfl rfl (P.move rfl) ?_
      refine WL.p rfl rfl rfl (P.assign rfl) ?_
      refine WL.p rfl rfl rfl (P.assign rfl) ?_
      refine WL.p rfl rfl rfl (P.assign rfl) ?_
      refine WL.nil_ ?_
      refine End.seq ?_
      refine WC.ret ?_
      refine End.ret3 rfl rfl rfl rfl ?_
      exact fun w' hs' => RetV.of (by rw [rsplitB, if_neg (by rw [hc29]; simp [hs25])]) hs'

def qualR (s : ByteArray) : Bool := validB false s && decide ((spB s.data.toList).length = 1)

set_option maxRecDepth 100000 in
theorem refQualifier_any (s : ByteArray) (w : World) :
    Calls Tryz.prog 218 #[.string s] w (RetV w (.bool (qualR s))) := by
  refine enter Tryz.func218 rfl Tryz.ntmps218 rfl ?_
  refine WC.seq ?_
  refine WC.region ?_
  refine WL.p rfl rfl rfl (P.assign rfl) ?_
  refine WL.nil_ ?_
  refine End.seq ?_
  refine WC.seq ?_
  refine WC.region ?_
  refine WL.p rfl rfl rfl (P.move rfl) ?_
  refine WL.callv (ent_of Tryz.func117 rfl rfl) rfl rfl rfl (fun w hs => refValid_any s w) ?_
  refine WL.p rfl rfl rfl (P.move rfl) ?_
  refine WL.split 5 rfl (fun hs5 => ?_) (fun hs5 => ?_)
  ·
    refine WL.p rfl rfl rfl (P.move rfl) ?_
    refine WL.callx (ent_of Tryz.func124 rfl rfl) rfl rfl rfl (fun w hs => refParts_any s w (by have := validB_size hs5; omega)) (fun p hp => ?_)
    refine WL.p rfl rfl rfl (P.lenR Tryz.underlying48 rfl) ?_
    refine WL.p rfl rfl rfl (P.cmp rfl rfl rfl) ?_
    refine WL.p rfl rfl rfl (P.pickT rfl rfl) ?_
    refine WL.p rfl rfl rfl (P.assign rfl) ?_
    refine WL.nil_ ?_
    refine End.seq ?_
    refine WC.ret ?_
    refine End.ret1 rfl rfl ?_
    exact fun w' hs' => RetV.of (by rw [qualR, hs5, Bool.true_and]; congr 1; rw [Bool.eq_iff_iff]; simp; omega) hs'
  ·
    refine WL.off rfl rfl ?_
    refine WL.off rfl rfl ?_
    refine WL.off rfl rfl ?_
    refine WL.off rfl rfl ?_
    refine WL.p rfl rfl rfl (P.pickF rfl rfl) ?_
    refine WL.p rfl rfl rfl (P.assign rfl) ?_
    refine WL.nil_ ?_
    refine End.seq ?_
    refine WC.ret ?_
    refine End.ret1 rfl rfl ?_
    exact fun w' hs' => RetV.of (by rw [qualR, hs5]; rfl) hs'

def ownerR (s : ByteArray) : Bool := (s.toList == (⟨#[]⟩ : ByteArray).toList) || qualR s

set_option maxRecDepth 100000 in
theorem refOwner_any (s : ByteArray) (w : World) :
    Calls Tryz.prog 123 #[.string s] w (RetV w (.bool (ownerR s))) := by
  refine enter Tryz.func123 rfl Tryz.ntmps123 rfl ?_
  refine WC.seq ?_
  refine WC.region ?_
  refine WL.p rfl rfl rfl (P.assign rfl) ?_
  refine WL.nil_ ?_
  refine End.seq ?_
  refine WC.seq ?_
  refine WC.region ?_
  refine WL.p rfl rfl rfl (P.move rfl) ?_
  refine WL.p rfl rfl rfl (P.cmps rfl rfl rfl) ?_
  refine WL.p rfl rfl rfl (P.move rfl) ?_
  refine WL.split 5 rfl (fun hs5 => ?_) (fun hs5 => ?_)
  ·
    refine WL.off rfl rfl ?_
    refine WL.off rfl rfl ?_
    refine WL.p rfl rfl rfl (P.pickT rfl rfl) ?_
    refine WL.p rfl rfl rfl (P.assign rfl) ?_
    refine WL.nil_ ?_
    refine End.seq ?_
    refine WC.ret ?_
    refine End.ret1 rfl rfl ?_
    exact fun w' hs' => RetV.of (by rw [ownerR, hs5]; rfl) hs'
  ·
    refine WL.p rfl rfl rfl (P.move rfl) ?_
    refine WL.callv (ent_of Tryz.func218 rfl rfl) rfl rfl rfl (fun w hs => refQualifier_any s w) ?_
    refine WL.p rfl rfl rfl (P.pickF rfl rfl) ?_
    refine WL.p rfl rfl rfl (P.assign rfl) ?_
    refine WL.nil_ ?_
    refine End.seq ?_
    refine WC.ret ?_
    refine End.ret1 rfl rfl ?_
    exact fun w' hs' => RetV.of (by rw [ownerR, hs5]; rfl) hs'

end Go.Proofs.YtlkkiimmangplaaGreatDoor
