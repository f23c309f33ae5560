/- The codec in plain words: what is read is what was written. -/
import Derived.Test.YtlkkiimmangplaaGreatDoorP9
namespace Go.Proofs.YtlkkiimmangplaaGreatDoor
open Go.RowKit
set_option linter.unusedVariables false
set_option linter.unusedSimpArgs false

abbrev by8 (n : Int) : UInt8 := UInt8.ofNat n.toNat
theorem by8_nat {n : Int} (h0 : 0 ≤ n) (h1 : n < 256) : ((by8 n).toNat : Int) = n := by
  show ((UInt8.ofNat n.toNat).toNat : Int) = n
  rw [UInt8.toNat_ofNat']
  omega
theorem drop_cons_get {l : List UInt8} {i : Nat} {b : UInt8} {r : List UInt8} (h : l.drop i = b :: r) : l[i]? = some b ∧ l.drop (i + 1) = r := by
  constructor
  · have := congrArg (fun q => q[0]?) h
    simpa using this
  · rw [← List.drop_drop, h]; rfl
/-- A number is read as it was written. -/
theorem decF_encF : ∀ (f i : Nat) (n acc : Int) (l rest : List UInt8), f + i = 9 → 0 ≤ n → n < 2 ^ (64 - 7 * i) → (0 < i → 0 < n) → l.drop i = (encF f n).map by8 ++ rest →
    decF (f + 1) i acc l = (acc + n * 2 ^ (7 * i), (i : Int) + (encF f n).length)
  | f, i, n, acc, l, rest, hf, h0, h1, hp, hl => by
    by_cases hs : n < 128
    · rw [encF_small hs] at hl ⊢
      obtain ⟨hg, _⟩ := drop_cons_get (by simpa using hl)
      have hb : ((UInt8.ofNat n.toNat).toNat : Int) = n := by8_nat h0 (by omega)
      rw [decF_done hg (fun h9 => by obtain ⟨rfl, h9⟩ := h9; simp at h1; omega) (by omega) (fun h => by have := hp h.2; omega), hb]
      rw [Int.emod_eq_of_lt h0 hs]
      simp
    · cases f with
      | zero =>
        have : i = 9 := by omega
        subst this
        simp at h1
        omega
      | succ f =>
        rw [encF_big (by omega)] at hl ⊢
        obtain ⟨hg, hd⟩ := drop_cons_get (by simpa using hl)
        have hb : ((UInt8.ofNat (n % 128 + 128).toNat).toNat : Int) = n % 128 + 128 := by8_nat (n := n % 128 + 128) (by omega) (by omega)
        rw [decF_next hg (fun h9 => by omega) (by omega), hb]
        have h2 : n / 128 < 2 ^ (64 - 7 * (i + 1)) := lim_step (by omega) h0 h1
        have ih := decF_encF f (i + 1) (n / 128) (acc + (n % 128 + 128) % 128 * 2 ^ (7 * i)) l rest (by omega) (by omega) h2 (by omega) (by simpa using hd)
        rw [ih]
        have e1 : (n % 128 + 128) % 128 = n % 128 := by omega
        have e2 : (2 : Int) ^ (7 * (i + 1)) = 128 * 2 ^ (7 * i) := by rw [show 7 * (i + 1) = 7 + 7 * i by omega, Int.pow_add]; rfl
        rw [e1, e2]
        refine Prod.ext ?_ ?_
        · show acc + n % 128 * 2 ^ (7 * i) + n / 128 * (128 * 2 ^ (7 * i)) = acc + n * 2 ^ (7 * i)
          have e3 : n * 2 ^ (7 * i) = (n % 128 + 128 * (n / 128)) * 2 ^ (7 * i) := by rw [Int.emod_add_mul_ediv]
          rw [e3, Int.add_mul, Int.add_assoc]
          congr 1
          congr 1
          rw [Int.mul_comm 128 (n / 128), Int.mul_assoc]
        · simp; omega
theorem data_append (a b : ByteArray) : (a ++ b).data.toList = a.data.toList ++ b.data.toList := by rw [ByteArray.data_append, Array.toList_append]
theorem encF_pos (f : Nat) (n : Int) : 0 < (encF f n).length := by
  cases f with
  | zero => simp [encF]
  | succ f => unfold encF; split <;> simp
theorem extract_rest (a b : ByteArray) (k : Nat) (hk : a.size = k) : (a ++ b).extract k (a ++ b).size = b := by
  apply toList_inj.1
  rw [ByteArray.toList_eq, ByteArray.toList_eq, ByteArray.data_extract]
  have hs : (a ++ b).size = (a.data.toList ++ b.data.toList).length := by rw [← data_append]; rfl
  have hk' : a.data.toList.length = k := hk
  simp only [Array.toList_extract, List.extract_eq_take_drop, data_append, hs]
  rw [List.drop_append_of_le_length (by omega), List.drop_eq_nil_of_le (by omega), List.nil_append, List.take_of_length_le (by simp; omega)]
theorem extract_front (a b : ByteArray) (k : Nat) (hk : a.size = k) : (a ++ b).extract 0 k = a := by
  apply toList_inj.1
  rw [ByteArray.toList_eq, ByteArray.toList_eq, ByteArray.data_extract]
  have hk' : a.data.toList.length = k := hk
  simp only [Array.toList_extract, List.extract_eq_take_drop, data_append]
  simp [← hk']
theorem num_back (n : Int) (t : ByteArray) (h0 : 0 ≤ n) (h1 : n < 9223372036854775808) : Rd.num (strOfNums (encF 9 n) ++ t, 0) = (n, (t, 0)) := by
  have hd : decF 10 0 0 (strOfNums (encF 9 n) ++ t).data.toList = (n, ((encF 9 n).length : Int)) := by
    have := decF_encF 9 0 n 0 (strOfNums (encF 9 n) ++ t).data.toList t.data.toList rfl h0 (by simp; omega) (fun h => absurd h (by decide)) (by rw [data_append, strOfNums_data]; rfl)
    simpa using this
  unfold Rd.num
  simp only [hd]
  have hp := encF_pos 9 n
  unfold Rd.take
  simp only [ne_eq, not_true_eq_false, if_false]
  rw [if_neg (by omega)]
  simp only [Int.toNat_natCast]
  rw [extract_rest _ _ _ (by rw [strOfNums_size])]
theorem bool_back (b : Bool) (t : ByteArray) : Rd.bool (strOfNums [if b then 1 else 0] ++ t, 0) = (b, (t, 0)) := by
  have hg : (strOfNums [if b then 1 else 0] ++ t).data.toList = (if b then 1 else 0) :: t.data.toList := by
    rw [data_append, strOfNums_data]
    cases b <;> rfl
  have hne : ¬ strOfNums [if b then 1 else 0] ++ t = bempty := fun e => by
    have := congrArg (fun q : ByteArray => q.data.toList) e
    simp only [hg] at this
    cases this
  have h1 : boolLen (strOfNums [if b then 1 else 0] ++ t) = 1 := by
    unfold boolLen
    rw [hg, if_neg]
    rintro (h | h)
    · exact hne h
    · cases b <;> simp at h
  have h2 : boolVal (strOfNums [if b then 1 else 0] ++ t) = b := by
    unfold boolVal
    rw [hg]
    cases b <;> rfl
  unfold Rd.bool Rd.take
  simp only [h1, h2]
  simp only [ne_eq, not_true_eq_false, if_false, Int.reduceEq]
  rw [extract_rest _ _ _ (by rw [strOfNums_size]; rfl)]
theorem text_back (s t : ByteArray) (most : Int) (h : (s.size : Int) ≤ most) (hm : most < 4294967296) : Rd.text (encText s ++ t, 0) most = (s, (t, 0)) := by
  have hn := num_back s.size (s ++ t) (by omega) (by omega)
  have hc : Rd.count (encText s ++ t, 0) most = ((s.size : Int), (s ++ t, 0)) := by
    unfold Rd.count encText
    rw [ByteArray.append_assoc, hn]
    simp only [ne_eq, not_true_eq_false, if_false]
    rw [if_neg (by omega)]
  unfold Rd.text
  rw [hc]
  simp only [ne_eq, not_true_eq_false, if_false]
  rw [if_neg (by rw [ByteArray.size_append]; omega)]
  simp only [Int.toNat_natCast]
  rw [extract_front _ _ _ rfl, extract_rest _ _ _ rfl]
theorem clampN_small {n : Int} (h : n ≤ 1099511627776) : clampN n = n := if_neg (by omega)
/-- A group in its ranges is read back as it was written. -/
theorem grpRead_ok {e : E} (h : groupOK e = true) : (grpRead e).1 = { E.zero with kind := e.kind, name := e.name, limit := e.limit, last := e.last, empty := e.empty, owner := e.owner } ∧ (grpRead e).2.end_ = 0 := by
  obtain ⟨hl, hl', how⟩ := groupOK_lim h
  have hb : (1 ≤ e.limit ∧ e.limit ≤ 63) ∧ (0 ≤ e.last ∧ e.last ≤ 9999) ∧ e.owner.size ≤ 31 := by
    unfold groupOK at h
    rw [Bool.and_eq_true, Bool.and_eq_true, Bool.or_eq_true, decide_eq_true_eq] at h
    refine ⟨inB_one h.1, inB_one h.2.1, ?_⟩
    rcases h.2.2 with h3 | h3
    · rw [h3]; decide
    · unfold wordB at h3
      rw [Bool.and_eq_true] at h3
      exact name_size h3.1
  have e0 : gb e = strOfNums (encF 9 e.limit) ++ (strOfNums (encF 9 e.last) ++ (strOfNums [if e.empty then 1 else 0] ++ (encText e.owner ++ bempty))) := by
    unfold gb grpOut
    rw [show (bempty : ByteArray) = ByteArray.empty from rfl, ByteArray.empty_append, ByteArray.append_empty, ByteArray.append_assoc, ByteArray.append_assoc]
  have h1 := num_back e.limit (strOfNums (encF 9 e.last) ++ (strOfNums [if e.empty then 1 else 0] ++ (encText e.owner ++ bempty))) (by omega) (by omega)
  have h2 := num_back e.last (strOfNums [if e.empty then 1 else 0] ++ (encText e.owner ++ bempty)) (by omega) (by omega)
  have h3 := bool_back e.empty (encText e.owner ++ bempty)
  have h4 := text_back e.owner bempty 200 (by omega) (by decide)
  unfold grpRead
  rw [e0, h1]
  simp only [h2, h3, h4]
  rw [clampN_small (by omega), clampN_small (by omega)]
  exact ⟨rfl, rfl⟩
end Go.Proofs.YtlkkiimmangplaaGreatDoor
