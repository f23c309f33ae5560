/- Numbers, truth values and texts written. -/
import Derived.Test.YtlkkiimmangplaaGreatDoorP2
namespace Go.Proofs.YtlkkiimmangplaaGreatDoor
open Go.RowKit
set_option linter.unusedVariables false
set_option linter.unusedSimpArgs false

/-- The bytes of a number, seven bits each. -/
def encF : Nat → Int → List Int
  | 0, n => [n]
  | f + 1, n => if n < 128 then [n] else (n % 128 + 128) :: encF f (n / 128)
theorem encF_small {f : Nat} {n : Int} (h : n < 128) : encF f n = [n] := by cases f <;> simp [encF, h]
theorem encF_big {f : Nat} {n : Int} (h : 128 ≤ n) : encF (f + 1) n = (n % 128 + 128) :: encF f (n / 128) := by rw [encF, if_neg (by omega)]
theorem encF_len : ∀ (f : Nat) (n : Int), (encF f n).length ≤ f + 1
  | 0, n => by simp [encF]
  | f + 1, n => by
    unfold encF
    split
    · simp
    · have := encF_len f (n / 128)
      simp; omega
def arr10 (l : List Int) : Array Value := (l.map (Value.int .u8) ++ List.replicate (10 - l.length) (Value.int .u8 0)).toArray
theorem arr10_size {l : List Int} (h : l.length ≤ 10) : (arr10 l).size = 10 := by simp [arr10]; omega
theorem arr10_put {l : List Int} (h : l.length < 10) (x : Int) : (arr10 l).setIfInBounds l.length (.int .u8 x) = arr10 (l ++ [x]) := by
  apply Array.ext_getElem?
  intro i
  obtain ⟨m, hm⟩ : ∃ m, 10 - l.length = m + 1 := ⟨10 - l.length - 1, by omega⟩
  have hm' : 10 - (l ++ [x]).length = m := by simp; omega
  unfold arr10
  rw [hm, hm', List.setIfInBounds_toArray, List.replicate_succ]
  simp
theorem arr10_get {l : List Int} {i : Nat} (h : i < l.length) : (arr10 l)[0 + i]? = some (.int .u8 (l.getD i 0)) := by
  simp only [arr10, Nat.zero_add, List.getElem?_toArray]
  rw [List.getElem?_append_left (by simpa using h)]
  simp [h]
theorem or128 (n : Int) (w : World) : (Op.intBits .or .u8 (IntKind.u8.wrap n) 128).run Tryz.prog w = .ok (.int .u8 (n % 128 + 128)) w := by
  have key : ∀ m : Nat, m < 256 → bits .or .u8 (m : Int) 128 = (m : Int) % 128 + 128 := by decide +kernel
  have e : IntKind.u8.wrap n = ((n % 256).toNat : Int) := by
    have : IntKind.u8.wrap n = n % 256 := rfl
    rw [this]; omega
  rw [e, intBits_or, key _ (by omega)]
  simp
  omega
theorem shr7 {n : Int} : n / 2 ^ (7 : Int).toNat = n / 128 := rfl
abbrev lim (k : Nat) : Int := 2 ^ (64 - 7 * k)
theorem lim_step {k : Nat} {n : Int} (hk : k < 9) (h0 : 0 ≤ n) (h : n < lim k) : n / 128 < lim (k + 1) := by
  have : lim k = 128 * lim (k + 1) := by
    unfold lim
    rw [show 64 - 7 * k = 7 + (64 - 7 * (k + 1)) by omega, Int.pow_add]; rfl
  omega
theorem lim_nine {k : Nat} {n : Int} (hk : k ≤ 9) (h : n < lim k) (h1 : 128 ≤ n) : k < 9 := by
  rcases Nat.lt_or_ge k 9 with h2 | h2
  · exact h2
  · have : k = 9 := by omega
    subst this
    have e : lim 9 = 2 := rfl
    omega

set_option maxRecDepth 100000 in
theorem appendNumber_any (s : ByteArray) (n : Int) (w : World) (h0 : 0 ≤ n) (h1 : n < 18446744073709551616) (hs : s.size < 4611686018427387904) :
    Calls Tryz.prog 247 #[.string s, .int .u64 n] w (RetV w (.string (s ++ strOfNums (encF 9 n)))) := by
  refine enter Tryz.func247 rfl Tryz.ntmps247 rfl ?_
  refine WC.seq ?_
  refine WC.region ?_
  refine WL.p rfl rfl rfl (P.assign rfl) ?_
  refine WL.nil_ ?_
  refine End.seq ?_
  refine WC.seq ?_
  refine WC.region ?_
  refine WL.alloc Tryz.zeroValue295 rfl rfl (fun b5 => ?_)
  refine WL.nil_ ?_
  refine End.seq ?_
  refine WC.seq ?_
  refine WC.region ?_
  refine WL.p rfl rfl rfl (P.assign rfl) ?_
  refine WL.nil_ ?_
  refine End.seq ?_
  refine WC.seq ?_
  refine WC.block ?_
  refine WC.loopD (σ := Int × List Int) (fun (m, l) => [(6, .int .i64 (l.length : Nat)), (1, .int .u64 m)]) (fun (m, l) => [.blk b5 295 (arr10 l)]) (fun (m, l) => l.length ≤ 9 ∧ 0 ≤ m ∧ m < lim l.length ∧ l ++ encF (9 - l.length) m = encF 9 n) (fun (m, l) => 9 - l.length) (n, []) ⟨by decide, h0, h1, rfl⟩ (Env.sub_cons rfl (Env.sub_cons rfl (Env.sub_nil))) [0] rfl rfl ?_
  rintro ⟨m, l⟩ ⟨hl, hm0, hm1, hm⟩
  refine WC.seq ?_
  refine WC.seq ?_
  refine WC.region ?_
  refine WL.p rfl rfl rfl (P.move rfl) ?_
  refine WL.p rfl rfl rfl (P.cmp rfl rfl rfl) ?_
  refine WL.nil_ ?_
  refine End.seq ?_
  refine WC.cond rfl (fun hc8 => ?_) (fun hc8 => ?_)
  ·
    try simp only [decide_eq_true_eq, decide_eq_false_iff_not, beq_iff_eq, beq_eq_false_iff_ne, bne_iff_ne, bne_eq_false_iff_eq, Bool.not_eq_true', Bool.not_eq_false', ne_eq, Int.not_lt, Int.not_le] at hc8
    have hl9 := lim_nine hl hm1 hc8
    refine WC.skip ?_
    refine End.seq ?_
    refine WC.block ?_
    refine WC.seq ?_
    refine WC.region ?_
    refine WL.p rfl rfl rfl (P.move rfl) ?_
    refine WL.p rfl rfl rfl (P.move rfl) ?_
    refine WL.p rfl rfl rfl (P.conv (by kernel_rfl) Tryz.underlying5 rfl rfl) ?_
    refine WL.p rfl rfl rfl (P.bits rfl rfl rfl (or128 m)) ?_
    refine WL.p rfl rfl rfl (P.elemArr Tryz.underlying295 Tryz.sizeOf5 rfl rfl (by omega) (by omega)) ?_
    refine WL.store 0 Tryz.sizeOf5 rfl rfl rfl rfl rfl (by rw [arr10_size (by omega)]; simp [Nat.blt, Nat.succ_le_iff]; omega) ?_
    refine WL.nil_ ?_
    refine End.seq ?_
    refine WC.seq ?_
    refine WC.region ?_
    refine WL.p rfl rfl rfl (P.move rfl) ?_
    refine WL.p rfl rfl rfl (P.shr rfl rfl (by decide) (by decide) shr7) ?_
    refine WL.p rfl rfl rfl (P.assign rfl) ?_
    refine WL.nil_ ?_
    refine End.seq ?_
    refine WC.region ?_
    refine WL.p rfl rfl rfl (P.move rfl) ?_
    refine WL.p rfl rfl rfl (P.ari64 rfl rfl rfl (by omega)) ?_
    refine WL.p rfl rfl rfl (P.assign rfl) ?_
    refine WL.nil_ ?_
    refine End.blkN ?_
    refine End.againD (m / 128, l ++ [m % 128 + 128]) ?_ ?_ rfl (Env.sub_cons (congrArg (fun q => some (Value.int .i64 q)) (by simp)) (Env.sub_cons rfl Env.sub_nil)) rfl [0] rfl (congrArg (fun q => [It.blk b5 295 q]) (by have e := arr10_put (l := l) (by omega) (m % 128 + 128); simpa using e))
    · exact ⟨by simp; omega, by omega, by simpa using lim_step hl9 hm0 hm1, by rw [← hm, show 9 - l.length = (9 - (l.length + 1)) + 1 by omega, encF_big hc8]; simp⟩
    · show 9 - (l ++ [m % 128 + 128]).length < 9 - l.length; rw [List.length_append, List.length_singleton]; omega
  ·
    try simp only [decide_eq_true_eq, decide_eq_false_iff_not, beq_iff_eq, beq_eq_false_iff_ne, bne_iff_ne, bne_eq_false_iff_eq, Bool.not_eq_true', Bool.not_eq_false', ne_eq, Int.not_lt, Int.not_le] at hc8
    refine WC.exit ?_
    refine End.thenX ?_
    refine End.thenX ?_
    refine End.blkX ?_
    refine End.seq ?_
    refine WC.seq ?_
    refine WC.region ?_
    refine WL.p rfl rfl rfl (P.move rfl) ?_
    refine WL.p rfl rfl rfl (P.move rfl) ?_
    refine WL.p rfl rfl rfl (P.conv (by kernel_rfl) Tryz.underlying5 rfl (wrap_u8 (by omega) (by omega))) ?_
    refine WL.p rfl rfl rfl (P.elemArr Tryz.underlying295 Tryz.sizeOf5 rfl rfl (by omega) (by omega)) ?_
    refine WL.store 0 Tryz.sizeOf5 rfl rfl rfl rfl rfl (by rw [arr10_size (by omega)]; simp [Nat.blt, Nat.succ_le_iff]; omega) ?_
    refine WL.nil_ ?_
    refine End.seq ?_
    refine WC.seq ?_
    refine WC.region ?_
    refine WL.p rfl rfl rfl (P.move rfl) ?_
    refine WL.p rfl rfl rfl (P.move rfl) ?_
    refine WL.p rfl rfl rfl (P.ari64 rfl rfl rfl (by omega)) ?_
    refine WL.p rfl rfl rfl (P.arrH Tryz.underlying295 Tryz.sizeOf5 rfl rfl (by omega) (by omega)) ?_
    refine WL.p rfl rfl rfl (P.bytesOwn 0 (xs := l ++ [m]) Tryz.underlying47 Tryz.underlying5 Tryz.underlying9 rfl rfl (by simp) (fun i hi => ?_)) ?_
    · rw [show 0 + ((l.length : Nat) : Int).toNat * 1 = l.length by simp, arr10_put (by omega)]; exact arr10_get (by simp at hi ⊢; omega)
    refine WL.p rfl rfl rfl (P.cat rfl rfl (by rw [strOfNums_size]; simp; omega)) ?_
    refine WL.p rfl rfl rfl (P.assign rfl) ?_
    refine WL.nil_ ?_
    refine End.seq ?_
    refine WC.ret ?_
    refine End.ret1 rfl rfl ?_
    exact fun w' hs' => RetV.of (by rw [← hm, encF_small (by omega)]) hs'

set_option maxRecDepth 100000 in
theorem appendBool_any (s : ByteArray) (x : Bool) (w : World) (hs : s.size < 4611686018427387904) :
    Calls Tryz.prog 265 #[.string s, .bool x] w (RetV w (.string (s ++ strOfNums [if x then 1 else 0]))) := by
  refine enter Tryz.func265 rfl Tryz.ntmps265 rfl ?_
  refine WC.seq ?_
  refine WC.region ?_
  refine WL.p rfl rfl rfl (P.assign rfl) ?_
  refine WL.nil_ ?_
  refine End.seq ?_
  refine WC.seq ?_
  refine WC.seq ?_
  refine WC.region ?_
  refine WL.p rfl rfl rfl (P.move rfl) ?_
  refine WL.nil_ ?_
  refine End.seq ?_
  refine WC.cond rfl (fun hc5 => ?_) (fun hc5 => ?_)
  ·
    refine WC.seq ?_
    refine WC.region ?_
    refine WL.p rfl rfl rfl (P.move rfl) ?_
    refine WL.p rfl rfl rfl (P.cat rfl rfl (by have e : ByteArray.size ⟨#[1]⟩ = 1 := rfl; omega)) ?_
    refine WL.p rfl rfl rfl (P.assign rfl) ?_
    refine WL.nil_ ?_
    refine End.seq ?_
    refine WC.ret ?_
    refine End.thenR ?_
    refine End.ret1 rfl rfl ?_
    exact fun w' hs' => RetV.of (by rw [if_pos hc5]; rfl) hs'
  ·
    refine WC.skip ?_
    refine End.seq ?_
    refine WC.seq ?_
    refine WC.region ?_
    refine WL.p rfl rfl rfl (P.move rfl) ?_
    refine WL.p rfl rfl rfl (P.cat rfl rfl (by have e : ByteArray.size ⟨#[0]⟩ = 1 := rfl; omega)) ?_
    refine WL.p rfl rfl rfl (P.assign rfl) ?_
    refine WL.nil_ ?_
    refine End.seq ?_
    refine WC.ret ?_
    refine End.ret1 rfl rfl ?_
    exact fun w' hs' => RetV.of (by rw [if_neg (by simpa using hc5)]; rfl) hs'

theorem wrap_u64 {p : Int} (h0 : 0 ≤ p) (h1 : p < 18446744073709551616) : IntKind.u64.wrap p = p := by
  have e : IntKind.u64.wrap p = p % 18446744073709551616 := rfl
  rw [e]; omega
theorem size_append (a b : ByteArray) : (a ++ b).size = a.size + b.size := ByteArray.size_append
def encText (s : ByteArray) : ByteArray := strOfNums (encF 9 s.size) ++ s

set_option maxRecDepth 100000 in
theorem appendText_any (s t : ByteArray) (w : World) (hs : s.size < 4294967296) (ht : t.size < 4294967296) :
    Calls Tryz.prog 169 #[.string s, .string t] w (RetV w (.string (s ++ encText t))) := by
  refine enter Tryz.func169 rfl Tryz.ntmps169 rfl ?_
  refine WC.seq ?_
  refine WC.region ?_
  refine WL.p rfl rfl rfl (P.assign rfl) ?_
  refine WL.nil_ ?_
  refine End.seq ?_
  refine WC.seq ?_
  refine WC.region ?_
  refine WL.p rfl rfl rfl (P.move rfl) ?_
  refine WL.p rfl rfl rfl (P.move rfl) ?_
  refine WL.p rfl rfl rfl (P.lenS Tryz.underlying9 rfl) ?_
  refine WL.p rfl rfl rfl (P.conv (by kernel_rfl) Tryz.underlying255 rfl (wrap_u64 (by omega) (by omega))) ?_
  refine WL.callv (ent_of Tryz.func247 rfl rfl) rfl rfl rfl (fun w hs => appendNumber_any s t.size w (by omega) (by omega) (by omega)) ?_
  refine WL.p rfl rfl rfl (P.move rfl) ?_
  refine WL.p rfl rfl rfl (P.cat rfl rfl (by rw [size_append, strOfNums_size]; have := encF_len 9 t.size; omega)) ?_
  refine WL.p rfl rfl rfl (P.assign rfl) ?_
  refine WL.nil_ ?_
  refine End.seq ?_
  refine WC.ret ?_
  refine End.ret1 rfl rfl ?_
  exact fun w' hs' => RetV.of (by rw [encText, ByteArray.append_assoc]) hs'

end Go.Proofs.YtlkkiimmangplaaGreatDoor
