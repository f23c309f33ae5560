/- The reader. -/
import Derived.Test.YtlkkiimmangplaaGreatDoorP4
import Derived.Test.YtlkkiimmangplaaGreatDoorT
namespace Go.Proofs.YtlkkiimmangplaaGreatDoor
open Go.RowKit
set_option linter.unusedVariables false
set_option linter.unusedSimpArgs false

theorem toList_nil {a : ByteArray} : a.toList = [] ↔ a = ⟨#[]⟩ := by
  rw [← toList_inj (b := ⟨#[]⟩), ByteArray.toList_eq ⟨#[]⟩]
theorem size_pos {s : ByteArray} (h : s ≠ ⟨#[]⟩) : 0 < s.size := by
  rcases Nat.eq_zero_or_pos s.size with e | e
  · exact absurd (ByteArray.ext (Array.eq_empty_of_size_eq_zero e)) h
  · exact e
/-- A reader: what is left, and the first error. -/
abbrev Rd := ByteArray × Int
def rdB (r : Nat) (x : Rd) : It := .blk r 244 #[.string x.1, .int .i64 x.2]
abbrev bempty : ByteArray := ⟨#[]⟩
def Rd.fail (x : Rd) (e : Int) : Rd := if x.2 = 0 then (bempty, e) else x
def Rd.take (x : Rd) (k : Int) : Rd := if x.2 ≠ 0 then x else if k = 0 then x.fail 11 else (x.1.extract k.toNat x.1.size, x.2)
def Rd.num (x : Rd) : Int × Rd := (if x.2 ≠ 0 then 0 else (decF 10 0 0 x.1.data.toList).1, x.take (decF 10 0 0 x.1.data.toList).2)
/-- A truth value at the front: how many bytes, and it. -/
def boolLen (s : ByteArray) : Int := if s = bempty ∨ 1 < ((s.data.toList[0]?.getD 0).toNat : Int) then 0 else 1
def boolVal (s : ByteArray) : Bool := decide (((s.data.toList[0]?.getD 0).toNat : Int) = 1)
def Rd.bool (x : Rd) : Bool × Rd := (if x.2 ≠ 0 then false else if boolLen x.1 = 0 then false else boolVal x.1, x.take (boolLen x.1))
def Rd.count (x : Rd) (most : Int) : Int × Rd := if x.num.2.2 ≠ 0 then (0, x.num.2) else if most < 0 ∨ most < x.num.1 then (0, x.num.2.fail 8) else (x.num.1, x.num.2)
def Rd.text (x : Rd) (most : Int) : ByteArray × Rd :=
  if (x.count most).2.2 ≠ 0 then (bempty, (x.count most).2) else
  if ((x.count most).2.1.size : Int) < (x.count most).1 then (bempty, (x.count most).2.fail 11) else
  ((x.count most).2.1.extract 0 (x.count most).1.toNat, ((x.count most).2.1.extract (x.count most).1.toNat (x.count most).2.1.size, (x.count most).2.2))
def Rd.end_ (x : Rd) : Int := if x.2 = 0 ∧ x.1 ≠ bempty then 11 else x.2
theorem decF_bounds : ∀ (f i : Nat) (n : Int) (l : List UInt8), 0 ≤ (decF f i n l).2 ∧ (decF f i n l).2 ≤ l.length
  | 0, i, n, l => by simp [decF]
  | f + 1, i, n, l => by
    have ih := decF_bounds f (i + 1)
    unfold decF
    cases h : l[i]? with
    | none => simp
    | some b =>
      have hlt : i < l.length := (List.getElem?_eq_some_iff.1 h).1
      simp only
      split
      · simp
      · split
        · split
          · simp
          · simp; omega
        · exact ih _ l
theorem decF_val : ∀ (f i : Nat) (n : Int) (l : List UInt8), i + f = 10 → 0 ≤ n → n < 2 ^ (7 * i) → 0 ≤ (decF f i n l).1 ∧ (decF f i n l).1 < 18446744073709551616
  | 0, i, n, l, _, _, _ => by simp [decF]
  | f + 1, i, n, l, hi, h0, h1 => by
    unfold decF
    cases h : l[i]? with
    | none => simp
    | some b =>
      have hb := u8_lt b
      simp only
      split
      · simp
      · rename_i h9
        split
        · split
          · simp
          · have hp := pow7p (i := i) (x := (b.toNat : Int) % 128) (by omega)
            have := pow7 (i := i) (n := n) (x := (b.toNat : Int) % 128) (by omega) h0 h1 (by omega) (by omega) (fun e => by omega)
            exact ⟨by simp only; omega, this⟩
        · have hp := pow7p (i := i) (x := (b.toNat : Int) % 128) (by omega)
          exact decF_val f (i + 1) _ l (by omega) (by omega) (pow7s (by omega) h0 h1 (by omega) (by omega))

set_option maxRecDepth 100000 in
theorem fail_any (r : Nat) (x : Rd) (e : Int) (w0 w : World) (H : List It) (hst : St w0 (rdB r x :: H) w) :
    Calls Tryz.prog 250 #[.pointer (some ⟨r, 0, none⟩), .int .i64 e] w (Mo w0 (.tuple #[]) (rdB r (x.fail e) :: H)) := by
  refine enterH Tryz.func250 rfl Tryz.ntmps250 rfl hst ?_
  refine WC.seq ?_
  refine WC.region ?_
  refine WL.p rfl rfl rfl (P.move rfl) ?_
  refine WL.p rfl rfl rfl (P.nilCheck rfl) ?_
  refine WL.p rfl rfl rfl (P.fieldAddr fa_244_1 rfl) ?_
  refine WL.p rfl rfl rfl (P.loadO 0 Tryz.isAgg26 rfl rfl rfl) ?_
  refine WL.p rfl rfl rfl (P.cmp rfl rfl rfl) ?_
  refine WL.nil_ ?_
  refine End.seq ?_
  refine WC.cond rfl (fun hc8 => ?_) (fun hc8 => ?_)
  ·
    try simp only [decide_eq_true_eq, decide_eq_false_iff_not, beq_iff_eq, beq_eq_false_iff_ne, bne_iff_ne, bne_eq_false_iff_eq, Bool.not_eq_true', Bool.not_eq_false', ne_eq, Int.not_lt, Int.not_le] at hc8
    refine WC.region ?_
    refine WL.p rfl rfl rfl (P.move rfl) ?_
    refine WL.p rfl rfl rfl (P.move rfl) ?_
    refine WL.p rfl rfl rfl (P.move rfl) ?_
    refine WL.p rfl rfl rfl (P.nilCheck rfl) ?_
    refine WL.p rfl rfl rfl (P.fieldAddr fa_244_1 rfl) ?_
    refine WL.store 0 Tryz.sizeOf26 rfl rfl rfl rfl rfl rfl ?_
    refine WL.p rfl rfl rfl (P.nilCheck rfl) ?_
    refine WL.p rfl rfl rfl (P.fieldAddr fa_244_0 rfl) ?_
    refine WL.store 0 Tryz.sizeOf9 rfl rfl rfl rfl rfl rfl ?_
    refine WL.nil_ ?_
    refine End.norm ?_
    refine End.ret0 rfl ?_
    exact fun w' hs' => Mo.of rfl (by rw [Rd.fail, if_pos hc8]; rfl) hs'
  ·
    try simp only [decide_eq_true_eq, decide_eq_false_iff_not, beq_iff_eq, beq_eq_false_iff_ne, bne_iff_ne, bne_eq_false_iff_eq, Bool.not_eq_true', Bool.not_eq_false', ne_eq, Int.not_lt, Int.not_le] at hc8
    refine WC.skip ?_
    refine End.norm ?_
    refine End.ret0 rfl ?_
    exact fun w' hs' => Mo.of rfl (by rw [Rd.fail, if_neg hc8]) hs'

set_option maxRecDepth 100000 in
theorem open_any (r : Nat) (x : Rd) (w0 w : World) (H : List It) (hst : St w0 (rdB r x :: H) w) :
    Calls Tryz.prog 231 #[.pointer (some ⟨r, 0, none⟩)] w (Mo w0 (.bool (decide (x.2 = 0 ∧ x.1 ≠ bempty))) (rdB r x :: H)) := by
  refine enterH Tryz.func231 rfl Tryz.ntmps231 rfl hst ?_
  refine WC.seq ?_
  refine WC.region ?_
  refine WL.p rfl rfl rfl (P.assign rfl) ?_
  refine WL.nil_ ?_
  refine End.seq ?_
  refine WC.seq ?_
  refine WC.region ?_
  refine WL.p rfl rfl rfl (P.move rfl) ?_
  refine WL.p rfl rfl rfl (P.nilCheck rfl) ?_
  refine WL.p rfl rfl rfl (P.fieldAddr fa_244_1 rfl) ?_
  refine WL.p rfl rfl rfl (P.loadO 0 Tryz.isAgg26 rfl rfl rfl) ?_
  refine WL.p rfl rfl rfl (P.cmp rfl rfl rfl) ?_
  refine WL.p rfl rfl rfl (P.move rfl) ?_
  refine WL.split 8 rfl (fun hs8 => ?_) (fun hs8 => ?_)
  ·
    try simp only [decide_eq_true_eq, decide_eq_false_iff_not, beq_iff_eq, beq_eq_false_iff_ne, bne_iff_ne, bne_eq_false_iff_eq, Bool.not_eq_true', Bool.not_eq_false', ne_eq, Int.not_lt, Int.not_le] at hs8
    refine WL.p rfl rfl rfl (P.move rfl) ?_
    refine WL.p rfl rfl rfl (P.nilCheck rfl) ?_
    refine WL.p rfl rfl rfl (P.fieldAddr fa_244_0 rfl) ?_
    refine WL.p rfl rfl rfl (P.loadO 0 Tryz.isAgg9 rfl rfl rfl) ?_
    refine WL.p rfl rfl rfl (P.cmps rfl rfl rfl) ?_
    refine WL.p rfl rfl rfl (P.pickT rfl rfl) ?_
    refine WL.p rfl rfl rfl (P.assign rfl) ?_
    refine WL.nil_ ?_
    refine End.seq ?_
    refine WC.ret ?_
    refine End.ret1 rfl rfl ?_
    exact fun w' hs' => Mo.of (by congr 1; rw [Bool.eq_iff_iff]; simp [hs8, toList_nil]) rfl hs'
  ·
    try simp only [decide_eq_true_eq, decide_eq_false_iff_not, beq_iff_eq, beq_eq_false_iff_ne, bne_iff_ne, bne_eq_false_iff_eq, Bool.not_eq_true', Bool.not_eq_false', ne_eq, Int.not_lt, Int.not_le] at hs8
    refine WL.off rfl rfl ?_
    refine WL.off rfl rfl ?_
    refine WL.off rfl rfl ?_
    refine WL.off rfl rfl ?_
    refine WL.off rfl rfl ?_
    refine WL.p rfl rfl rfl (P.pickF rfl rfl) ?_
    refine WL.p rfl rfl rfl (P.assign rfl) ?_
    refine WL.nil_ ?_
    refine End.seq ?_
    refine WC.ret ?_
    refine End.ret1 rfl rfl ?_
    exact fun w' hs' => Mo.of (by congr 1; rw [Bool.eq_iff_iff]; simp [hs8]) rfl hs'

set_option maxRecDepth 100000 in
theorem end_any (r : Nat) (x : Rd) (w0 w : World) (H : List It) (hst : St w0 (rdB r x :: H) w) :
    Calls Tryz.prog 144 #[.pointer (some ⟨r, 0, none⟩)] w (Mo w0 (.int .i64 x.end_) (rdB r x :: H)) := by
  refine enterH Tryz.func144 rfl Tryz.ntmps144 rfl hst ?_
  refine WC.seq ?_
  refine WC.region ?_
  refine WL.p rfl rfl rfl (P.assign rfl) ?_
  refine WL.nil_ ?_
  refine End.seq ?_
  refine WC.seq ?_
  refine WC.region ?_
  refine WL.p rfl rfl rfl (P.move rfl) ?_
  refine WL.p rfl rfl rfl (P.makeBound rfl rfl) ?_
  refine WL.p rfl rfl rfl (P.assign rfl) ?_
  refine WL.nil_ ?_
  refine End.seq ?_
  refine WC.seq ?_
  refine WC.seq ?_
  refine WC.region ?_
  refine WL.p rfl rfl rfl (P.move rfl) ?_
  refine WL.callb (ent_of Tryz.func231 rfl rfl) rfl rfl rfl rfl (fun w hs => open_any r x w0 w H hs) ?_
  refine WL.nil_ ?_
  refine End.seq ?_
  refine WC.cond rfl (fun hc7 => ?_) (fun hc7 => ?_)
  ·
    try simp only [decide_eq_true_eq, decide_eq_false_iff_not, beq_iff_eq, beq_eq_false_iff_ne, bne_iff_ne, bne_eq_false_iff_eq, Bool.not_eq_true', Bool.not_eq_false', ne_eq, Int.not_lt, Int.not_le] at hc7
    refine WC.seq ?_
    refine WC.region ?_
    refine WL.p rfl rfl rfl (P.assign rfl) ?_
    refine WL.nil_ ?_
    refine End.seq ?_
    refine WC.ret ?_
    refine End.thenR ?_
    refine End.ret1 rfl rfl ?_
    exact fun w' hs' => Mo.of (by rw [Rd.end_, if_pos hc7]) rfl hs'
  ·
    try simp only [decide_eq_true_eq, decide_eq_false_iff_not, beq_iff_eq, beq_eq_false_iff_ne, bne_iff_ne, bne_eq_false_iff_eq, Bool.not_eq_true', Bool.not_eq_false', ne_eq, Int.not_lt, Int.not_le] at hc7
    refine WC.skip ?_
    refine End.seq ?_
    refine WC.seq ?_
    refine WC.region ?_
    refine WL.p rfl rfl rfl (P.move rfl) ?_
    refine WL.p rfl rfl rfl (P.nilCheck rfl) ?_
    refine WL.p rfl rfl rfl (P.fieldAddr fa_244_1 rfl) ?_
    refine WL.p rfl rfl rfl (P.loadO 0 Tryz.isAgg26 rfl rfl rfl) ?_
    refine WL.p rfl rfl rfl (P.assign rfl) ?_
    refine WL.nil_ ?_
    refine End.seq ?_
    refine WC.ret ?_
    refine End.ret1 rfl rfl ?_
    exact fun w' hs' => Mo.of (by rw [Rd.end_, if_neg hc7]; rfl) rfl hs'

set_option maxRecDepth 100000 in
theorem newReader_any (s : ByteArray) (w : World) :
    Calls Tryz.prog 143 #[.string s] w (Ret w (fun _ : Nat => True) (fun r => .pointer (some ⟨r, 0, none⟩)) (fun r => [rdB r (s, 0)])) := by
  refine enter Tryz.func143 rfl Tryz.ntmps143 rfl ?_
  refine WC.seq ?_
  refine WC.region ?_
  refine WL.p rfl rfl rfl (P.assign rfl) ?_
  refine WL.nil_ ?_
  refine End.seq ?_
  refine WC.seq ?_
  refine WC.region ?_
  refine WL.p rfl rfl rfl (P.move rfl) ?_
  refine WL.p rfl rfl rfl (P.build rfl (fun w => bo_244 Tryz.zeroValue244 (cs := #[_, _]) rfl rfl w)) ?_
  refine WL.box rfl rfl rfl (fun b5 => ?_)
  refine WL.p rfl rfl rfl (P.assign rfl) ?_
  refine WL.nil_ ?_
  refine End.seq ?_
  refine WC.ret ?_
  refine End.ret1 rfl rfl ?_
  exact fun w' hs' => ⟨b5, trivial, rfl, hs'⟩

set_option maxRecDepth 100000 in
theorem take_any (r : Nat) (x : Rd) (g : Nat) (cap : Array Value) (k : Int) (X X' : It) (w0 w : World) (H : List It) (hst : St w0 (X :: rdB r x :: H) w) (he : Ent g) (hk : 0 ≤ k ∧ k ≤ x.1.size) (hc : ∀ w, St w0 (X :: rdB r x :: H) w → Calls Tryz.prog g (#[.string x.1] ++ cap) w (Mo w0 (.int .i64 k) (X' :: rdB r x :: H))) :
    Calls Tryz.prog 305 #[.pointer (some ⟨r, 0, none⟩), .func (.func g) #[] cap] w (Mo w0 (.tuple #[]) ((if x.2 = 0 then X' else X) :: rdB r (x.take k) :: H)) := by
  refine enterH Tryz.func305 rfl Tryz.ntmps305 rfl hst ?_
  refine WC.seq ?_
  refine WC.seq ?_
  refine WC.region ?_
  refine WL.p rfl rfl rfl (P.move rfl) ?_
  refine WL.p rfl rfl rfl (P.nilCheck rfl) ?_
  refine WL.p rfl rfl rfl (P.fieldAddr fa_244_1 rfl) ?_
  refine WL.p rfl rfl rfl (P.loadO 1 Tryz.isAgg26 rfl rfl rfl) ?_
  refine WL.p rfl rfl rfl (P.cmp rfl rfl rfl) ?_
  refine WL.nil_ ?_
  refine End.seq ?_
  refine WC.cond rfl (fun hc9 => ?_) (fun hc9 => ?_)
  ·
    try simp only [decide_eq_true_eq, decide_eq_false_iff_not, beq_iff_eq, beq_eq_false_iff_ne, bne_iff_ne, bne_eq_false_iff_eq, Bool.not_eq_true', Bool.not_eq_false', ne_eq, Int.not_lt, Int.not_le] at hc9
    refine WC.ret ?_
    refine End.thenR ?_
    refine End.ret0 rfl ?_
    exact fun w' hs' => Mo.of rfl (by rw [if_neg hc9, Rd.take, if_pos hc9]) hs'
  ·
    try simp only [decide_eq_true_eq, decide_eq_false_iff_not, beq_iff_eq, beq_eq_false_iff_ne, bne_iff_ne, bne_eq_false_iff_eq, Bool.not_eq_true', Bool.not_eq_false', ne_eq, Int.not_lt, Int.not_le] at hc9
    refine WC.skip ?_
    refine End.seq ?_
    refine WC.seq ?_
    refine WC.region ?_
    refine WL.p rfl rfl rfl (P.move rfl) ?_
    refine WL.p rfl rfl rfl (P.move rfl) ?_
    refine WL.p rfl rfl rfl (P.nilCheck rfl) ?_
    refine WL.p rfl rfl rfl (P.fieldAddr fa_244_0 rfl) ?_
    refine WL.p rfl rfl rfl (P.loadO 1 Tryz.isAgg9 rfl rfl rfl) ?_
    refine WL.callco (H' := _) he rfl rfl rfl rfl (fun w hs => hc w hs) ?_
    refine WL.p rfl rfl rfl (P.assign rfl) ?_
    refine WL.nil_ ?_
    refine End.seq ?_
    refine WC.seq ?_
    refine WC.seq ?_
    refine WC.region ?_
    refine WL.p rfl rfl rfl (P.move rfl) ?_
    refine WL.p rfl rfl rfl (P.cmp rfl rfl rfl) ?_
    refine WL.nil_ ?_
    refine End.seq ?_
    refine WC.cond rfl (fun hc17 => ?_) (fun hc17 => ?_)
    ·
      try simp only [decide_eq_true_eq, decide_eq_false_iff_not, beq_iff_eq, beq_eq_false_iff_ne, bne_iff_ne, bne_eq_false_iff_eq, Bool.not_eq_true', Bool.not_eq_false', ne_eq, Int.not_lt, Int.not_le] at hc17
      refine WC.seq ?_
      refine WC.region ?_
      refine WL.p rfl rfl rfl (P.move rfl) ?_
      refine WL.callo (H' := _) (ent_of Tryz.func250 rfl rfl) rfl rfl rfl (fun w hs => (fail_any r x 11 w0 w (X' :: H) hs.swap2).mono fun e w' h => h.swap2) ?_
      refine WL.nil_ ?_
      refine End.seq ?_
      refine WC.ret ?_
      refine End.thenR ?_
      refine End.ret0 rfl ?_
      exact fun w' hs' => Mo.of rfl (by rw [if_pos (by simpa using hc9), Rd.take, if_neg (fun h => h hc9), if_pos hc17]) hs'
    ·
      try simp only [decide_eq_true_eq, decide_eq_false_iff_not, beq_iff_eq, beq_eq_false_iff_ne, bne_iff_ne, bne_eq_false_iff_eq, Bool.not_eq_true', Bool.not_eq_false', ne_eq, Int.not_lt, Int.not_le] at hc17
      refine WC.skip ?_
      refine End.seq ?_
      refine WC.region ?_
      refine WL.p rfl rfl rfl (P.move rfl) ?_
      refine WL.p rfl rfl rfl (P.move rfl) ?_
      refine WL.p rfl rfl rfl (P.nilCheck rfl) ?_
      refine WL.p rfl rfl rfl (P.fieldAddr fa_244_0 rfl) ?_
      refine WL.p rfl rfl rfl (P.loadO 1 Tryz.isAgg9 rfl rfl rfl) ?_
      refine WL.p rfl rfl rfl (P.move rfl) ?_
      refine WL.p rfl rfl rfl (P.subL Tryz.underlying9 rfl rfl (by omega) (by omega)) ?_
      refine WL.p rfl rfl rfl (P.nilCheck rfl) ?_
      refine WL.p rfl rfl rfl (P.fieldAddr fa_244_0 rfl) ?_
      refine WL.store 1 Tryz.sizeOf9 rfl rfl rfl rfl rfl rfl ?_
      refine WL.nil_ ?_
      refine End.norm ?_
      refine End.ret0 rfl ?_
      exact fun w' hs' => Mo.of rfl (by rw [if_pos (by simpa using hc9), Rd.take, if_neg (fun h => h hc9), if_neg hc17]; rfl) hs'

set_option maxRecDepth 100000 in
theorem number1_any (q : Nat) (s : ByteArray) (v : Value) (w0 w : World) (H : List It) (hst : St w0 (.blk q 255 #[v] :: H) w) (hsz : s.size < 4294967296) :
    Calls Tryz.prog 308 #[.string s, .pointer (some ⟨q, 0, none⟩)] w (Mo w0 (.int .i64 (decF 10 0 0 s.data.toList).2) (.blk q 255 #[.int .u64 (decF 10 0 0 s.data.toList).1] :: H)) := by
  refine enterH Tryz.func308 rfl Tryz.ntmps308 rfl hst ?_
  refine WC.seq ?_
  refine WC.region ?_
  refine WL.p rfl rfl rfl (P.assign rfl) ?_
  refine WL.nil_ ?_
  refine End.seq ?_
  refine WC.seq ?_
  refine WC.region ?_
  refine WL.p rfl rfl rfl (P.move rfl) ?_
  refine WL.callv (ent_of Tryz.func309 rfl rfl) rfl rfl rfl (fun w hs => decode_any s w hsz) ?_
  refine WL.p rfl rfl rfl (P.move rfl) ?_
  refine WL.p rfl rfl rfl (P.extract rfl rfl) ?_
  refine WL.p rfl rfl rfl (P.extract rfl rfl) ?_
  refine WL.p rfl rfl rfl (P.assign rfl) ?_
  refine WL.p rfl rfl rfl (P.assign rfl) ?_
  refine WL.nil_ ?_
  refine End.seq ?_
  refine WC.seq ?_
  refine WC.region ?_
  refine WL.p rfl rfl rfl (P.move rfl) ?_
  refine WL.store 0 Tryz.sizeOf255 rfl rfl rfl rfl rfl rfl ?_
  refine WL.nil_ ?_
  refine End.seq ?_
  refine WC.seq ?_
  refine WC.region ?_
  refine WL.p rfl rfl rfl (P.move rfl) ?_
  refine WL.p rfl rfl rfl (P.assign rfl) ?_
  refine WL.nil_ ?_
  refine End.seq ?_
  refine WC.ret ?_
  refine End.ret1 rfl rfl ?_
  exact fun w' hs' => Mo.of rfl rfl hs'

set_option maxRecDepth 100000 in
theorem bool1_any (q : Nat) (s : ByteArray) (w0 w : World) (H : List It) (hst : St w0 (.blk q 4 #[.bool false] :: H) w) :
    Calls Tryz.prog 306 #[.string s, .pointer (some ⟨q, 0, none⟩)] w (Mo w0 (.int .i64 (boolLen s)) (.blk q 4 #[.bool (if boolLen s = 0 then false else boolVal s)] :: H)) := by
  refine enterH Tryz.func306 rfl Tryz.ntmps306 rfl hst ?_
  refine WC.seq ?_
  refine WC.region ?_
  refine WL.p rfl rfl rfl (P.assign rfl) ?_
  refine WL.nil_ ?_
  refine End.seq ?_
  refine WC.seq ?_
  refine WC.seq ?_
  refine WC.region ?_
  refine WL.p rfl rfl rfl (P.move rfl) ?_
  refine WL.p rfl rfl rfl (P.cmps rfl rfl rfl) ?_
  refine WL.p rfl rfl rfl (P.move rfl) ?_
  refine WL.split 6 rfl (fun hs6 => ?_) (fun hs6 => ?_)
  ·
    try simp only [decide_eq_true_eq, decide_eq_false_iff_not, beq_iff_eq, beq_eq_false_iff_ne, bne_iff_ne, bne_eq_false_iff_eq, Bool.not_eq_true', Bool.not_eq_false', ne_eq, Int.not_lt, Int.not_le] at hs6
    have he : s = bempty := toList_inj.1 hs6
    have hb : boolLen s = 0 := if_pos (.inl he)
    refine WL.off rfl rfl ?_
    refine WL.off rfl rfl ?_
    refine WL.off rfl rfl ?_
    refine WL.p rfl rfl rfl (P.pickT rfl rfl) ?_
    refine WL.nil_ ?_
    refine End.seq ?_
    refine WC.condT rfl ?_
    refine WC.seq ?_
    refine WC.region ?_
    refine WL.p rfl rfl rfl (P.assign rfl) ?_
    refine WL.nil_ ?_
    refine End.seq ?_
    refine WC.ret ?_
    refine End.thenR ?_
    refine End.ret1 rfl rfl ?_
    exact fun w' hs' => Mo.of (by rw [hb]) (by rw [if_pos hb]) hs'
  ·
    try simp only [decide_eq_true_eq, decide_eq_false_iff_not, beq_iff_eq, beq_eq_false_iff_ne, bne_iff_ne, bne_eq_false_iff_eq, Bool.not_eq_true', Bool.not_eq_false', ne_eq, Int.not_lt, Int.not_le] at hs6
    have hne : s ≠ bempty := fun e => hs6 (by rw [e])
    have hpos := size_pos hne
    refine WL.p rfl rfl rfl (P.move rfl) ?_
    refine WL.p rfl rfl rfl (P.byte Tryz.underlying9 rfl rfl (by omega) (by omega)) ?_
    refine WL.p rfl rfl rfl (P.cmp rfl rfl rfl) ?_
    refine WL.p rfl rfl rfl (P.pickF rfl rfl) ?_
    refine WL.nil_ ?_
    refine End.seq ?_
    refine WC.cond rfl (fun hc10 => ?_) (fun hc10 => ?_)
    ·
      try simp only [decide_eq_true_eq, decide_eq_false_iff_not, beq_iff_eq, beq_eq_false_iff_ne, bne_iff_ne, bne_eq_false_iff_eq, Bool.not_eq_true', Bool.not_eq_false', ne_eq, Int.not_lt, Int.not_le] at hc10
      refine WC.seq ?_
      refine WC.region ?_
      refine WL.p rfl rfl rfl (P.assign rfl) ?_
      refine WL.nil_ ?_
      refine End.seq ?_
      refine WC.ret ?_
      refine End.thenR ?_
      refine End.ret1 rfl rfl ?_
      have hb : boolLen s = 0 := if_pos (.inr hc10)
      exact fun w' hs' => Mo.of (by rw [hb]) (by rw [if_pos hb]) hs'
    ·
      try simp only [decide_eq_true_eq, decide_eq_false_iff_not, beq_iff_eq, beq_eq_false_iff_ne, bne_iff_ne, bne_eq_false_iff_eq, Bool.not_eq_true', Bool.not_eq_false', ne_eq, Int.not_lt, Int.not_le] at hc10
      refine WC.skip ?_
      refine End.seq ?_
      refine WC.seq ?_
      refine WC.region ?_
      refine WL.p rfl rfl rfl (P.move rfl) ?_
      refine WL.p rfl rfl rfl (P.byte Tryz.underlying9 rfl rfl (by omega) (by omega)) ?_
      refine WL.p rfl rfl rfl (P.cmp rfl rfl rfl) ?_
      refine WL.store 0 Tryz.sizeOf4 rfl rfl rfl rfl rfl rfl ?_
      refine WL.nil_ ?_
      refine End.seq ?_
      refine WC.seq ?_
      refine WC.region ?_
      refine WL.p rfl rfl rfl (P.assign rfl) ?_
      refine WL.nil_ ?_
      refine End.seq ?_
      refine WC.ret ?_
      refine End.ret1 rfl rfl ?_
      have hb : boolLen s = 1 := if_neg (fun h => h.elim hne (fun h => by have : ((s.data.toList[(0 : Int).toNat]?.getD 0).toNat : Int) = ((s.data.toList[0]?.getD 0).toNat : Int) := rfl; omega))
      exact fun w' hs' => Mo.of (by rw [hb]) (by rw [if_neg (by rw [hb]; decide)]; rfl) hs'

theorem boolLen_bounds (s : ByteArray) : 0 ≤ boolLen s ∧ boolLen s ≤ s.size := by
  unfold boolLen
  split
  · exact ⟨by decide, by omega⟩
  · rename_i h
    have := size_pos (s := s) (fun e => h (.inl e))
    omega

set_option maxRecDepth 100000 in
theorem number_rd (r : Nat) (x : Rd) (w0 w : World) (H : List It) (hst : St w0 (rdB r x :: H) w) (hsz : x.1.size < 4294967296) :
    Calls Tryz.prog 272 #[.pointer (some ⟨r, 0, none⟩)] w (Mo w0 (.int .u64 x.num.1) (rdB r x.num.2 :: H)) := by
  refine enterH Tryz.func272 rfl Tryz.ntmps272 rfl hst ?_
  refine WC.seq ?_
  refine WC.region ?_
  refine WL.p rfl rfl rfl (P.assign rfl) ?_
  refine WL.nil_ ?_
  refine End.seq ?_
  refine WC.seq ?_
  refine WC.region ?_
  refine WL.alloc Tryz.zeroValue255 rfl rfl (fun b3 => ?_)
  refine WL.nil_ ?_
  refine End.seq ?_
  refine WC.seq ?_
  refine WC.region ?_
  refine WL.p rfl rfl rfl (P.move rfl) ?_
  refine WL.p rfl rfl rfl (P.makeFunc rfl) ?_
  refine WL.callo (H' := _) (ent_of Tryz.func305 rfl rfl) rfl rfl rfl (fun w hs => take_any r x 308 _ (decF 10 0 0 x.1.data.toList).2 _ _ w0 w H hs (ent_of Tryz.func308 rfl rfl) (decF_bounds 10 0 0 _) (fun w hs => number1_any b3 x.1 _ w0 w _ hs hsz)) ?_
  refine WL.nil_ ?_
  refine End.seq ?_
  refine WC.seq ?_
  refine WC.region ?_
  refine WL.p rfl rfl rfl (P.loadO 0 (t' := 255) (cs := #[.int .u64 x.num.1]) Tryz.isAgg255 rfl (by unfold Rd.num; by_cases h : x.2 = 0 <;> simp [h] <;> rfl) rfl) ?_
  refine WL.p rfl rfl rfl (P.assign rfl) ?_
  refine WL.nil_ ?_
  refine End.seq ?_
  refine WC.ret ?_
  refine End.ret1 rfl rfl ?_
  exact fun w' hs' => Mo.of rfl rfl hs'.tail

set_option maxRecDepth 100000 in
theorem bool_rd (r : Nat) (x : Rd) (w0 w : World) (H : List It) (hst : St w0 (rdB r x :: H) w) (hsz : x.1.size < 4294967296) :
    Calls Tryz.prog 266 #[.pointer (some ⟨r, 0, none⟩)] w (Mo w0 (.bool x.bool.1) (rdB r x.bool.2 :: H)) := by
  refine enterH Tryz.func266 rfl Tryz.ntmps266 rfl hst ?_
  refine WC.seq ?_
  refine WC.region ?_
  refine WL.p rfl rfl rfl (P.assign rfl) ?_
  refine WL.nil_ ?_
  refine End.seq ?_
  refine WC.seq ?_
  refine WC.region ?_
  refine WL.alloc Tryz.zeroValue4 rfl rfl (fun b3 => ?_)
  refine WL.store 0 Tryz.sizeOf4 rfl rfl rfl rfl rfl rfl ?_
  refine WL.nil_ ?_
  refine End.seq ?_
  refine WC.seq ?_
  refine WC.region ?_
  refine WL.p rfl rfl rfl (P.move rfl) ?_
  refine WL.p rfl rfl rfl (P.makeFunc rfl) ?_
  refine WL.callo (H' := _) (ent_of Tryz.func305 rfl rfl) rfl rfl rfl (fun w hs => take_any r x 306 _ (boolLen x.1) _ _ w0 w H hs (ent_of Tryz.func306 rfl rfl) (boolLen_bounds x.1) (fun w hs => bool1_any b3 x.1 w0 w _ hs)) ?_
  refine WL.nil_ ?_
  refine End.seq ?_
  refine WC.seq ?_
  refine WC.region ?_
  refine WL.p rfl rfl rfl (P.loadO 0 (t' := 4) (cs := #[.bool x.bool.1]) Tryz.isAgg4 rfl (by unfold Rd.bool; by_cases h : x.2 = 0 <;> simp [h] <;> rfl) rfl) ?_
  refine WL.p rfl rfl rfl (P.assign rfl) ?_
  refine WL.nil_ ?_
  refine End.seq ?_
  refine WC.ret ?_
  refine End.ret1 rfl rfl ?_
  exact fun w' hs' => Mo.of rfl rfl hs'.tail

theorem Rd.num_val (x : Rd) : 0 ≤ x.num.1 ∧ x.num.1 < 18446744073709551616 := by
  unfold Rd.num
  simp only
  split
  · decide
  · exact decF_val 10 0 0 _ rfl (by decide) (by decide)
theorem Rd.fail_size (x : Rd) (e : Int) : (x.fail e).1.size ≤ x.1.size := by
  unfold Rd.fail
  split
  · exact Nat.zero_le _
  · exact Nat.le_refl _
theorem Rd.take_size (x : Rd) (k : Int) : (x.take k).1.size ≤ x.1.size := by
  unfold Rd.take
  split
  · exact Nat.le_refl _
  · split
    · exact x.fail_size 11
    · simp [ByteArray.size_extract]
theorem Rd.num_size (x : Rd) : x.num.2.1.size ≤ x.1.size := x.take_size _
theorem Rd.bool_size (x : Rd) : x.bool.2.1.size ≤ x.1.size := x.take_size _
theorem Rd.count_size (x : Rd) (m : Int) : (x.count m).2.1.size ≤ x.1.size := by
  unfold Rd.count
  split
  · exact x.num_size
  · split
    · exact Nat.le_trans (Rd.fail_size _ _) x.num_size
    · exact x.num_size
theorem Rd.count_val (x : Rd) (m : Int) (hm : 0 ≤ m) : 0 ≤ (x.count m).1 ∧ (x.count m).1 ≤ m := by
  have := x.num_val
  unfold Rd.count
  split
  · exact ⟨Int.le_refl 0, hm⟩
  · split
    · exact ⟨Int.le_refl 0, hm⟩
    · rename_i h
      simp only
      omega
theorem Rd.text_size (x : Rd) (m : Int) : (x.text m).2.1.size ≤ x.1.size := by
  have := x.count_size m
  unfold Rd.text
  split
  · exact this
  · split
    · exact Nat.le_trans (Rd.fail_size _ _) this
    · simp [ByteArray.size_extract]; omega

set_option maxRecDepth 100000 in
theorem count_rd (r : Nat) (x : Rd) (most : Int) (w0 w : World) (H : List It) (hst : St w0 (rdB r x :: H) w) (hsz : x.1.size < 4294967296) (hm : 0 ≤ most ∧ most < 4611686018427387904) :
    Calls Tryz.prog 249 #[.pointer (some ⟨r, 0, none⟩), .int .i64 most] w (Mo w0 (.int .i64 (x.count most).1) (rdB r (x.count most).2 :: H)) := by
  have hn := x.num_val
  refine enterH Tryz.func249 rfl Tryz.ntmps249 rfl hst ?_
  refine WC.seq ?_
  refine WC.region ?_
  refine WL.p rfl rfl rfl (P.assign rfl) ?_
  refine WL.nil_ ?_
  refine End.seq ?_
  refine WC.seq ?_
  refine WC.region ?_
  refine WL.p rfl rfl rfl (P.move rfl) ?_
  refine WL.callo (H' := _) (ent_of Tryz.func272 rfl rfl) rfl rfl rfl (fun w hs => number_rd r x w0 w H hs hsz) ?_
  refine WL.p rfl rfl rfl (P.assign rfl) ?_
  refine WL.nil_ ?_
  refine End.seq ?_
  refine WC.seq ?_
  refine WC.seq ?_
  refine WC.region ?_
  refine WL.p rfl rfl rfl (P.move rfl) ?_
  refine WL.p rfl rfl rfl (P.nilCheck rfl) ?_
  refine WL.p rfl rfl rfl (P.fieldAddr fa_244_1 rfl) ?_
  refine WL.p rfl rfl rfl (P.loadO 0 Tryz.isAgg26 rfl rfl rfl) ?_
  refine WL.p rfl rfl rfl (P.cmp rfl rfl rfl) ?_
  refine WL.nil_ ?_
  refine End.seq ?_
  refine WC.cond rfl (fun hc12 => ?_) (fun hc12 => ?_)
  ·
    try simp only [decide_eq_true_eq, decide_eq_false_iff_not, beq_iff_eq, beq_eq_false_iff_ne, bne_iff_ne, bne_eq_false_iff_eq, Bool.not_eq_true', Bool.not_eq_false', ne_eq, Int.not_lt, Int.not_le] at hc12
    refine WC.seq ?_
    refine WC.region ?_
    refine WL.p rfl rfl rfl (P.assign rfl) ?_
    refine WL.nil_ ?_
    refine End.seq ?_
    refine WC.ret ?_
    refine End.thenR ?_
    refine End.ret1 rfl rfl ?_
    exact fun w' hs' => Mo.of (by rw [Rd.count, if_pos hc12]) (by rw [Rd.count, if_pos hc12]) hs'
  ·
    try simp only [decide_eq_true_eq, decide_eq_false_iff_not, beq_iff_eq, beq_eq_false_iff_ne, bne_iff_ne, bne_eq_false_iff_eq, Bool.not_eq_true', Bool.not_eq_false', ne_eq, Int.not_lt, Int.not_le] at hc12
    refine WC.skip ?_
    refine End.seq ?_
    refine WC.seq ?_
    refine WC.seq ?_
    refine WC.region ?_
    refine WL.p rfl rfl rfl (P.move rfl) ?_
    refine WL.p rfl rfl rfl (P.cmp rfl rfl rfl) ?_
    refine WL.p rfl rfl rfl (P.move rfl) ?_
    refine WL.split 15 rfl (fun hs15 => ?_) (fun hs15 => ?_)
    ·
      try simp only [decide_eq_true_eq, decide_eq_false_iff_not, beq_iff_eq, beq_eq_false_iff_ne, bne_iff_ne, bne_eq_false_iff_eq, Bool.not_eq_true', Bool.not_eq_false', ne_eq, Int.not_lt, Int.not_le] at hs15
      refine WL.off rfl rfl ?_
      refine WL.off rfl rfl ?_
      refine WL.off rfl rfl ?_
      refine WL.off rfl rfl ?_
      refine WL.p rfl rfl rfl (P.pickT rfl rfl) ?_
      refine WL.nil_ ?_
      refine End.seq ?_
      refine WC.condT rfl ?_
      refine WC.seq ?_
      refine WC.region ?_
      refine WL.p rfl rfl rfl (P.move rfl) ?_
      refine WL.callo (H' := _) (ent_of Tryz.func250 rfl rfl) rfl rfl rfl (fun w hs => fail_any r x.num.2 8 w0 w H hs) ?_
      refine WL.nil_ ?_
      refine End.seq ?_
      refine WC.seq ?_
      refine WC.region ?_
      refine WL.p rfl rfl rfl (P.assign rfl) ?_
      refine WL.nil_ ?_
      refine End.seq ?_
      refine WC.ret ?_
      refine End.thenR ?_
      refine End.ret1 rfl rfl ?_
      omega
    ·
      try simp only [decide_eq_true_eq, decide_eq_false_iff_not, beq_iff_eq, beq_eq_false_iff_ne, bne_iff_ne, bne_eq_false_iff_eq, Bool.not_eq_true', Bool.not_eq_false', ne_eq, Int.not_lt, Int.not_le] at hs15
      refine WL.p rfl rfl rfl (P.move rfl) ?_
      refine WL.p rfl rfl rfl (P.move rfl) ?_
      refine WL.p rfl rfl rfl (P.conv (by kernel_rfl) Tryz.underlying255 rfl (wrap_u64 (by omega) (by omega))) ?_
      refine WL.p rfl rfl rfl (P.cmp rfl rfl rfl) ?_
      refine WL.p rfl rfl rfl (P.pickF rfl rfl) ?_
      refine WL.nil_ ?_
      refine End.seq ?_
      refine WC.cond rfl (fun hc20 => ?_) (fun hc20 => ?_)
      ·
        try simp only [decide_eq_true_eq, decide_eq_false_iff_not, beq_iff_eq, beq_eq_false_iff_ne, bne_iff_ne, bne_eq_false_iff_eq, Bool.not_eq_true', Bool.not_eq_false', ne_eq, Int.not_lt, Int.not_le] at hc20
        refine WC.seq ?_
        refine WC.region ?_
        refine WL.p rfl rfl rfl (P.move rfl) ?_
        refine WL.callo (H' := _) (ent_of Tryz.func250 rfl rfl) rfl rfl rfl (fun w hs => fail_any r x.num.2 8 w0 w H hs) ?_
        refine WL.nil_ ?_
        refine End.seq ?_
        refine WC.seq ?_
        refine WC.region ?_
        refine WL.p rfl rfl rfl (P.assign rfl) ?_
        refine WL.nil_ ?_
        refine End.seq ?_
        refine WC.ret ?_
        refine End.thenR ?_
        refine End.ret1 rfl rfl ?_
        exact fun w' hs' => Mo.of (by rw [Rd.count, if_neg (fun h => h hc12), if_pos (by omega)]) (by rw [Rd.count, if_neg (fun h => h hc12), if_pos (by omega)]) hs'
      ·
        try simp only [decide_eq_true_eq, decide_eq_false_iff_not, beq_iff_eq, beq_eq_false_iff_ne, bne_iff_ne, bne_eq_false_iff_eq, Bool.not_eq_true', Bool.not_eq_false', ne_eq, Int.not_lt, Int.not_le] at hc20
        refine WC.skip ?_
        refine End.seq ?_
        refine WC.seq ?_
        refine WC.region ?_
        refine WL.p rfl rfl rfl (P.move rfl) ?_
        refine WL.p rfl rfl rfl (P.conv (by kernel_rfl) Tryz.underlying3 rfl (wrap_i64 (by omega))) ?_
        refine WL.p rfl rfl rfl (P.assign rfl) ?_
        refine WL.nil_ ?_
        refine End.seq ?_
        refine WC.ret ?_
        refine End.ret1 rfl rfl ?_
        exact fun w' hs' => Mo.of (by rw [Rd.count, if_neg (fun h => h hc12), if_neg (by omega)]) (by rw [Rd.count, if_neg (fun h => h hc12), if_neg (by omega)]) hs'

set_option maxRecDepth 100000 in
theorem text_rd (r : Nat) (x : Rd) (most : Int) (w0 w : World) (H : List It) (hst : St w0 (rdB r x :: H) w) (hsz : x.1.size < 4294967296) (hm : 0 ≤ most ∧ most < 4611686018427387904) :
    Calls Tryz.prog 172 #[.pointer (some ⟨r, 0, none⟩), .int .i64 most] w (Mo w0 (.string (x.text most).1) (rdB r (x.text most).2 :: H)) := by
  have hn := x.count_val most hm.1
  refine enterH Tryz.func172 rfl Tryz.ntmps172 rfl hst ?_
  refine WC.seq ?_
  refine WC.region ?_
  refine WL.p rfl rfl rfl (P.assign rfl) ?_
  refine WL.nil_ ?_
  refine End.seq ?_
  refine WC.seq ?_
  refine WC.region ?_
  refine WL.p rfl rfl rfl (P.move rfl) ?_
  refine WL.p rfl rfl rfl (P.move rfl) ?_
  refine WL.callo (H' := _) (ent_of Tryz.func249 rfl rfl) rfl rfl rfl (fun w hs => count_rd r x most w0 w H hs hsz hm) ?_
  refine WL.p rfl rfl rfl (P.assign rfl) ?_
  refine WL.nil_ ?_
  refine End.seq ?_
  refine WC.seq ?_
  refine WC.seq ?_
  refine WC.region ?_
  refine WL.p rfl rfl rfl (P.move rfl) ?_
  refine WL.p rfl rfl rfl (P.nilCheck rfl) ?_
  refine WL.p rfl rfl rfl (P.fieldAddr fa_244_1 rfl) ?_
  refine WL.p rfl rfl rfl (P.loadO 0 Tryz.isAgg26 rfl rfl rfl) ?_
  refine WL.p rfl rfl rfl (P.cmp rfl rfl rfl) ?_
  refine WL.nil_ ?_
  refine End.seq ?_
  refine WC.cond rfl (fun hc14 => ?_) (fun hc14 => ?_)
  ·
    try simp only [decide_eq_true_eq, decide_eq_false_iff_not, beq_iff_eq, beq_eq_false_iff_ne, bne_iff_ne, bne_eq_false_iff_eq, Bool.not_eq_true', Bool.not_eq_false', ne_eq, Int.not_lt, Int.not_le] at hc14
    refine WC.seq ?_
    refine WC.region ?_
    refine WL.p rfl rfl rfl (P.assign rfl) ?_
    refine WL.nil_ ?_
    refine End.seq ?_
    refine WC.ret ?_
    refine End.thenR ?_
    refine End.ret1 rfl rfl ?_
    exact fun w' hs' => Mo.of (by rw [Rd.text, if_pos hc14]) (by rw [Rd.text, if_pos hc14]) hs'
  ·
    try simp only [decide_eq_true_eq, decide_eq_false_iff_not, beq_iff_eq, beq_eq_false_iff_ne, bne_iff_ne, bne_eq_false_iff_eq, Bool.not_eq_true', Bool.not_eq_false', ne_eq, Int.not_lt, Int.not_le] at hc14
    refine WC.skip ?_
    refine End.seq ?_
    refine WC.seq ?_
    refine WC.seq ?_
    refine WC.region ?_
    refine WL.p rfl rfl rfl (P.move rfl) ?_
    refine WL.p rfl rfl rfl (P.move rfl) ?_
    refine WL.p rfl rfl rfl (P.nilCheck rfl) ?_
    refine WL.p rfl rfl rfl (P.fieldAddr fa_244_0 rfl) ?_
    refine WL.p rfl rfl rfl (P.loadO 0 Tryz.isAgg9 rfl rfl rfl) ?_
    refine WL.p rfl rfl rfl (P.lenS Tryz.underlying9 rfl) ?_
    refine WL.p rfl rfl rfl (P.cmp rfl rfl rfl) ?_
    refine WL.nil_ ?_
    refine End.seq ?_
    refine WC.cond rfl (fun hc21 => ?_) (fun hc21 => ?_)
    ·
      try simp only [decide_eq_true_eq, decide_eq_false_iff_not, beq_iff_eq, beq_eq_false_iff_ne, bne_iff_ne, bne_eq_false_iff_eq, Bool.not_eq_true', Bool.not_eq_false', ne_eq, Int.not_lt, Int.not_le] at hc21
      refine WC.seq ?_
      refine WC.region ?_
      refine WL.p rfl rfl rfl (P.move rfl) ?_
      refine WL.callo (H' := _) (ent_of Tryz.func250 rfl rfl) rfl rfl rfl (fun w hs => fail_any r (x.count most).2 11 w0 w H hs) ?_
      refine WL.nil_ ?_
      refine End.seq ?_
      refine WC.seq ?_
      refine WC.region ?_
      refine WL.p rfl rfl rfl (P.assign rfl) ?_
      refine WL.nil_ ?_
      refine End.seq ?_
      refine WC.ret ?_
      refine End.thenR ?_
      refine End.ret1 rfl rfl ?_
      exact fun w' hs' => Mo.of (by rw [Rd.text, if_neg (fun h => h hc14), if_pos hc21]) (by rw [Rd.text, if_neg (fun h => h hc14), if_pos hc21]) hs'
    ·
      try simp only [decide_eq_true_eq, decide_eq_false_iff_not, beq_iff_eq, beq_eq_false_iff_ne, bne_iff_ne, bne_eq_false_iff_eq, Bool.not_eq_true', Bool.not_eq_false', ne_eq, Int.not_lt, Int.not_le] at hc21
      refine WC.skip ?_
      refine End.seq ?_
      refine WC.seq ?_
      refine WC.region ?_
      refine WL.p rfl rfl rfl (P.move rfl) ?_
      refine WL.p rfl rfl rfl (P.nilCheck rfl) ?_
      refine WL.p rfl rfl rfl (P.fieldAddr fa_244_0 rfl) ?_
      refine WL.p rfl rfl rfl (P.loadO 0 Tryz.isAgg9 rfl rfl rfl) ?_
      refine WL.p rfl rfl rfl (P.move rfl) ?_
      refine WL.p rfl rfl rfl (P.subH Tryz.underlying9 rfl rfl (by omega) (by omega)) ?_
      refine WL.p rfl rfl rfl (P.assign rfl) ?_
      refine WL.nil_ ?_
      refine End.seq ?_
      refine WC.seq ?_
      refine WC.region ?_
      refine WL.p rfl rfl rfl (P.move rfl) ?_
      refine WL.p rfl rfl rfl (P.move rfl) ?_
      refine WL.p rfl rfl rfl (P.nilCheck rfl) ?_
      refine WL.p rfl rfl rfl (P.fieldAddr fa_244_0 rfl) ?_
      refine WL.p rfl rfl rfl (P.loadO 0 Tryz.isAgg9 rfl rfl rfl) ?_
      refine WL.p rfl rfl rfl (P.move rfl) ?_
      refine WL.p rfl rfl rfl (P.subL Tryz.underlying9 rfl rfl (by omega) (by omega)) ?_
      refine WL.p rfl rfl rfl (P.nilCheck rfl) ?_
      refine WL.p rfl rfl rfl (P.fieldAddr fa_244_0 rfl) ?_
      refine WL.store 0 Tryz.sizeOf9 rfl rfl rfl rfl rfl rfl ?_
      refine WL.nil_ ?_
      refine End.seq ?_
      refine WC.seq ?_
      refine WC.region ?_
      refine WL.p rfl rfl rfl (P.move rfl) ?_
      refine WL.p rfl rfl rfl (P.assign rfl) ?_
      refine WL.nil_ ?_
      refine End.seq ?_
      refine WC.ret ?_
      refine End.ret1 rfl rfl ?_
      exact fun w' hs' => Mo.of (by rw [Rd.text, if_neg (fun h => h hc14), if_neg (by omega)]) (by rw [Rd.text, if_neg (fun h => h hc14), if_neg (by omega)]; rfl) hs'

end Go.Proofs.YtlkkiimmangplaaGreatDoor
