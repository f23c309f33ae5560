/- Names: qualifiers. -/
import Derived.Test.YtlkkiimmangplaaGreatDoorC
import Derived.Test.YtlkkiimmangplaaGreatDoorO
import Derived.Test.YtlkkiimmangplaaGreatDoorShelf
namespace Go.Proofs.YtlkkiimmangplaaGreatDoor
open Go.RowKit
set_option linter.unusedVariables false
set_option linter.unusedSimpArgs false

abbrev dot : ByteArray := ⟨#[46]⟩
/-- The parts of a text between full stops, as the library cuts them. -/
def parts (s : ByteArray) : List ByteArray := Lib.splitB dot 0 (Lib.countB s dot) s
theorem parts_length (s : ByteArray) : (parts s).length = Lib.countB s dot + 1 := Lib.splitB_all dot (by decide) 0 _ s rfl
theorem parts_le (s : ByteArray) : (parts s).length ≤ s.size + 1 := by
  rw [parts_length]
  have := Lib.countB_le dot (by decide) _ s (Nat.le_refl _)
  omega
theorem split_any (s : ByteArray) (w : World) (hg : Good w) (hs : s.size < 4294967281) :
    Calls Tryz.prog 107 #[.string s, .string dot] w (Ret w (fun _ : Nat => True) (fun b => .slice (some ⟨b, 0, none⟩) (parts s).length (parts s).length) (fun b => [.blk b 9 ((parts s).map Value.string).toArray])) :=
  (Tryz.strings_Split_shaped s dot w hg.shaped hs (by decide)).mono fun e w' ⟨h1, h2⟩ => ⟨w.heap.size, trivial, by rw [h1, parts_length], by rw [h2]; exact St.new w 9 _⟩
theorem contains_any (s : ByteArray) (c : UInt8) (w : World) : Calls Tryz.prog 192 #[.string s, .string ⟨#[c]⟩] w (RetV w (.bool (decide (0 ≤ Lib.indexByte s.data.toList c)))) :=
  (Tryz.strings_Contains_one s c w).mono fun e w' ⟨h1, h2⟩ => ⟨h1, by rw [h2]; exact St.refl w⟩
/-- A function value that answers like p at texts. -/
structure Pred1 (w : World) (g : Nat) (cap : Array Value) (p : ByteArray → Bool) : Prop where
  ent : Ent g
  at_ : ∀ (q : ByteArray) (w' : World), Below w.heap.size w w' → q.size < 4294967281 → Calls Tryz.prog g (#[.string q] ++ cap) w' (RetV w' (.bool (p q)))
structure PredC (g : Nat) (p : UInt8 → Bool) : Prop where
  ent : Ent g
  at_ : ∀ (c : UInt8) (w' : World), Calls Tryz.prog g #[.int .u8 (c.toNat : Int)] w' (RetV w' (.bool (p c)))
theorem PredC.at' {g : Nat} {p : UInt8 → Bool} (h : PredC g p) (c : UInt8) (w' : World) : Calls Tryz.prog g (#[.int .u8 (c.toNat : Int)] ++ #[]) w' (RetV w' (.bool (p c))) := by rw [Array.append_empty]; exact h.at_ c w'
def isUpper (c : Int) : Bool := decide (65 ≤ c) && decide (c ≤ 90)
def isDigit (c : Int) : Bool := decide (48 ≤ c) && decide (c ≤ 57)

set_option maxRecDepth 100000 in
theorem upper_any (c : Int) (w : World) :
    Calls Tryz.prog 165 #[.int .u8 c] w (RetV w (.bool (isUpper c))) := by
  refine enter Tryz.func165 rfl Tryz.ntmps165 rfl ?_
  refine WC.seq ?_
  refine WC.region ?_
  refine WL.p rfl rfl rfl (P.assign rfl) ?_
  refine WL.nil_ ?_
  refine End.seq ?_
  refine WC.seq ?_
  refine WC.region ?_
  refine WL.p rfl rfl rfl (P.move rfl) ?_
  refine WL.p rfl rfl rfl (P.cmp rfl rfl rfl) ?_
  refine WL.p rfl rfl rfl (P.move rfl) ?_
  refine WL.split 5 rfl (fun hs5 => ?_) (fun hs5 => ?_)
  ·
    refine WL.p rfl rfl rfl (P.move rfl) ?_
    refine WL.p rfl rfl rfl (P.cmp rfl rfl rfl) ?_
    refine WL.p rfl rfl rfl (P.pickT rfl rfl) ?_
    refine WL.p rfl rfl rfl (P.assign rfl) ?_
    refine WL.nil_ ?_
    refine End.seq ?_
    refine WC.ret ?_
    refine End.ret1 rfl rfl ?_
    exact fun w' hs' => RetV.of (by simp [isUpper, hs5]) hs'
  ·
    refine WL.off rfl rfl ?_
    refine WL.off rfl rfl ?_
    refine WL.p rfl rfl rfl (P.pickF rfl rfl) ?_
    refine WL.p rfl rfl rfl (P.assign rfl) ?_
    refine WL.nil_ ?_
    refine End.seq ?_
    refine WC.ret ?_
    refine End.ret1 rfl rfl ?_
    exact fun w' hs' => RetV.of (by simp [isUpper, hs5]) hs'

set_option maxRecDepth 100000 in
theorem digit_any (c : Int) (w : World) :
    Calls Tryz.prog 246 #[.int .u8 c] w (RetV w (.bool (isDigit c))) := by
  refine enter Tryz.func246 rfl Tryz.ntmps246 rfl ?_
  refine WC.seq ?_
  refine WC.region ?_
  refine WL.p rfl rfl rfl (P.assign rfl) ?_
  refine WL.nil_ ?_
  refine End.seq ?_
  refine WC.seq ?_
  refine WC.region ?_
  refine WL.p rfl rfl rfl (P.move rfl) ?_
  refine WL.p rfl rfl rfl (P.cmp rfl rfl rfl) ?_
  refine WL.p rfl rfl rfl (P.move rfl) ?_
  refine WL.split 5 rfl (fun hs5 => ?_) (fun hs5 => ?_)
  ·
    refine WL.p rfl rfl rfl (P.move rfl) ?_
    refine WL.p rfl rfl rfl (P.cmp rfl rfl rfl) ?_
    refine WL.p rfl rfl rfl (P.pickT rfl rfl) ?_
    refine WL.p rfl rfl rfl (P.assign rfl) ?_
    refine WL.nil_ ?_
    refine End.seq ?_
    refine WC.ret ?_
    refine End.ret1 rfl rfl ?_
    exact fun w' hs' => RetV.of (by simp [isDigit, hs5]) hs'
  ·
    refine WL.off rfl rfl ?_
    refine WL.off rfl rfl ?_
    refine WL.p rfl rfl rfl (P.pickF rfl rfl) ?_
    refine WL.p rfl rfl rfl (P.assign rfl) ?_
    refine WL.nil_ ?_
    refine End.seq ?_
    refine WC.ret ?_
    refine End.ret1 rfl rfl ?_
    exact fun w' hs' => RetV.of (by simp [isDigit, hs5]) hs'

set_option maxRecDepth 100000 in
theorem plain_any (c : Int) (w : World) :
    Calls Tryz.prog 166 #[.int .u8 c] w (RetV w (.bool (isUpper c || isDigit c))) := by
  refine enter Tryz.func166 rfl Tryz.ntmps166 rfl ?_
  refine WC.seq ?_
  refine WC.region ?_
  refine WL.p rfl rfl rfl (P.assign rfl) ?_
  refine WL.nil_ ?_
  refine End.seq ?_
  refine WC.seq ?_
  refine WC.region ?_
  refine WL.p rfl rfl rfl (P.move rfl) ?_
  refine WL.callv (ent_of Tryz.func165 rfl rfl) rfl rfl rfl (fun w hs => upper_any c w) ?_
  refine WL.p rfl rfl rfl (P.move rfl) ?_
  refine WL.split 5 rfl (fun hs5 => ?_) (fun hs5 => ?_)
  ·
    refine WL.off rfl rfl ?_
    refine WL.off rfl rfl ?_
    refine WL.p rfl rfl rfl (P.pickT rfl rfl) ?_
    refine WL.p rfl rfl rfl (P.assign rfl) ?_
    refine WL.nil_ ?_
    refine End.seq ?_
    refine WC.ret ?_
    refine End.ret1 rfl rfl ?_
    exact fun w' hs' => RetV.of (by simp [hs5]) hs'
  ·
    refine WL.p rfl rfl rfl (P.move rfl) ?_
    refine WL.callv (ent_of Tryz.func246 rfl rfl) rfl rfl rfl (fun w hs => digit_any c w) ?_
    refine WL.p rfl rfl rfl (P.pickF rfl rfl) ?_
    refine WL.p rfl rfl rfl (P.assign rfl) ?_
    refine WL.nil_ ?_
    refine End.seq ?_
    refine WC.ret ?_
    refine End.ret1 rfl rfl ?_
    exact fun w' hs' => RetV.of (by simp [hs5]) hs'

theorem upper_pred : PredC 165 (fun c => isUpper (c.toNat : Int)) := ⟨ent_of Tryz.func165 rfl rfl, fun c w => upper_any _ w⟩
theorem plain_pred : PredC 166 (fun c => isUpper (c.toNat : Int) || isDigit (c.toNat : Int)) := ⟨ent_of Tryz.func166 rfl rfl, fun c w => plain_any _ w⟩
/-- One qualifier: its first byte, and the others. -/
def qualB (p1 p2 : UInt8 → Bool) (l : List UInt8) : Bool := decide (1 ≤ l.length) && (decide (l.length ≤ 8) && (p1 (l[0]?.getD 0) && (l.drop 1).all p2))
theorem size_len (s : ByteArray) : s.size = s.data.toList.length := rfl
theorem take_drop_snoc {l : List UInt8} {k : Nat} (h1 : 1 ≤ k) (h2 : k < l.length) (p : UInt8 → Bool) : ((l.take (k + 1)).drop 1).all p = (((l.take k).drop 1).all p && p (l[k]?.getD 0)) := by
  have hx : l[k]? = some l[k] := List.getElem?_eq_getElem h2
  rw [take_snoc hx, List.drop_append_of_le_length (by simp; omega), List.all_append, hx]
  simp
theorem take_drop_false {l : List UInt8} {k : Nat} (h1 : 1 ≤ k) (h2 : k < l.length) {p : UInt8 → Bool} (h : p (l[k]?.getD 0) = false) : (l.drop 1).all p = false := by
  rw [Bool.eq_false_iff]
  intro he
  rw [List.all_eq_true] at he
  have hx : l[k]? = some l[k] := List.getElem?_eq_getElem h2
  have := he l[k] (List.mem_iff_getElem?.2 ⟨k - 1, by rw [List.getElem?_drop, show 1 + (k - 1) = k by omega, hx]⟩)
  rw [hx] at h
  simp [this] at h
theorem qualB_false1 {p1 p2 : UInt8 → Bool} {l : List UInt8} (h : (l.length : Int) < 1) : qualB p1 p2 l = false := by
  have e : decide (1 ≤ l.length) = false := decide_eq_false (by omega)
  rw [qualB, e]; rfl
theorem qualB_false2 {p1 p2 : UInt8 → Bool} {l : List UInt8} (h : 8 < (l.length : Int)) : qualB p1 p2 l = false := by
  have e : decide (l.length ≤ 8) = false := decide_eq_false (by omega)
  rw [qualB, e]; simp
theorem qualB_false3 {p1 p2 : UInt8 → Bool} {l : List UInt8} (h : p1 (l[0]?.getD 0) = false) : qualB p1 p2 l = false := by
  rw [qualB, h]; simp
theorem qualB_false4 {p1 p2 : UInt8 → Bool} {l : List UInt8} (h : (l.drop 1).all p2 = false) : qualB p1 p2 l = false := by
  rw [qualB, h]; simp
theorem qualB_true {p1 p2 : UInt8 → Bool} {l : List UInt8} (h1 : 1 ≤ l.length) (h2 : l.length ≤ 8) (h3 : p1 (l[0]?.getD 0) = true) (h4 : (l.drop 1).all p2 = true) : qualB p1 p2 l = true := by
  rw [qualB, h3, h4, decide_eq_true h1, decide_eq_true h2]; rfl

set_option maxRecDepth 100000 in
theorem qualifier_any (s : ByteArray) (g1 g2 : Nat) (p1 p2 : UInt8 → Bool) (w : World) (h1 : PredC g1 p1) (h2 : PredC g2 p2) (hsz : s.size < 4294967281) :
    Calls Tryz.prog 164 #[.string s, .func (.func g1) #[] #[], .func (.func g2) #[] #[]] w (RetV w (.bool (qualB p1 p2 s.data.toList))) := by
  have hl : s.size = s.data.toList.length := rfl
  refine enter Tryz.func164 rfl Tryz.ntmps164 rfl ?_
  refine WC.seq ?_
  refine WC.region ?_
  refine WL.p rfl rfl rfl (P.assign rfl) ?_
  refine WL.nil_ ?_
  refine End.seq ?_
  refine WC.seq ?_
  refine WC.seq ?_
  refine WC.region ?_
  refine WL.p rfl rfl rfl (P.move rfl) ?_
  refine WL.p rfl rfl rfl (P.lenS Tryz.underlying9 rfl) ?_
  refine WL.p rfl rfl rfl (P.cmp rfl rfl rfl) ?_
  refine WL.p rfl rfl rfl (P.move rfl) ?_
  refine WL.split 11 rfl (fun hs11 => ?_) (fun hs11 => ?_)
  ·
    try simp only [decide_eq_true_eq, decide_eq_false_iff_not, beq_iff_eq, beq_eq_false_iff_ne, bne_iff_ne, bne_eq_false_iff_eq, Bool.not_eq_true', Bool.not_eq_false', ne_eq, Int.not_lt, Int.not_le] at hs11
    refine WL.off rfl rfl ?_
    refine WL.off rfl rfl ?_
    refine WL.off rfl rfl ?_
    refine WL.p rfl rfl rfl (P.pickT rfl rfl) ?_
    refine WL.p rfl rfl rfl (P.move rfl) ?_
    refine WL.off rfl rfl ?_
    refine WL.off rfl rfl ?_
    refine WL.off rfl rfl ?_
    refine WL.off rfl rfl ?_
    refine WL.off rfl rfl ?_
    refine WL.p rfl rfl rfl (P.pickT rfl rfl) ?_
    refine WL.nil_ ?_
    refine End.seq ?_
    refine WC.condT rfl ?_
    refine WC.seq ?_
    refine WC.region ?_
    refine WL.p rfl rfl rfl (P.assign rfl) ?_
    refine WL.nil_ ?_
    refine End.seq ?_
    refine WC.ret ?_
    refine End.thenR ?_
    refine End.ret1 rfl rfl ?_
    exact fun w' hs' => RetV.of (by rw [qualB_false1 (by omega)]) hs'
  ·
    try simp only [decide_eq_true_eq, decide_eq_false_iff_not, beq_iff_eq, beq_eq_false_iff_ne, bne_iff_ne, bne_eq_false_iff_eq, Bool.not_eq_true', Bool.not_eq_false', ne_eq, Int.not_lt, Int.not_le] at hs11
    refine WL.p rfl rfl rfl (P.move rfl) ?_
    refine WL.p rfl rfl rfl (P.lenS Tryz.underlying9 rfl) ?_
    refine WL.p rfl rfl rfl (P.cmp rfl rfl rfl) ?_
    refine WL.p rfl rfl rfl (P.pickF rfl rfl) ?_
    refine WL.p rfl rfl rfl (P.move rfl) ?_
    refine WL.split 16 rfl (fun hs16 => ?_) (fun hs16 => ?_)
    ·
      try simp only [decide_eq_true_eq, decide_eq_false_iff_not, beq_iff_eq, beq_eq_false_iff_ne, bne_iff_ne, bne_eq_false_iff_eq, Bool.not_eq_true', Bool.not_eq_false', ne_eq, Int.not_lt, Int.not_le] at hs16
      refine WL.off rfl rfl ?_
      refine WL.off rfl rfl ?_
      refine WL.off rfl rfl ?_
      refine WL.off rfl rfl ?_
      refine WL.off rfl rfl ?_
      refine WL.p rfl rfl rfl (P.pickT rfl rfl) ?_
      refine WL.nil_ ?_
      refine End.seq ?_
      refine WC.condT rfl ?_
      refine WC.seq ?_
      refine WC.region ?_
      refine WL.p rfl rfl rfl (P.assign rfl) ?_
      refine WL.nil_ ?_
      refine End.seq ?_
      refine WC.ret ?_
      refine End.thenR ?_
      refine End.ret1 rfl rfl ?_
      exact fun w' hs' => RetV.of (by rw [qualB_false2 (by omega)]) hs'
    ·
      try simp only [decide_eq_true_eq, decide_eq_false_iff_not, beq_iff_eq, beq_eq_false_iff_ne, bne_iff_ne, bne_eq_false_iff_eq, Bool.not_eq_true', Bool.not_eq_false', ne_eq, Int.not_lt, Int.not_le] at hs16
      refine WL.p rfl rfl rfl (P.move rfl) ?_
      refine WL.p rfl rfl rfl (P.move rfl) ?_
      refine WL.p rfl rfl rfl (P.byte Tryz.underlying9 rfl rfl (by omega) (by omega)) ?_
      refine WL.callc h1.ent rfl rfl rfl rfl (fun w hs => h1.at' (s.data.toList[(0 : Int).toNat]?.getD 0) w) ?_
      refine WL.p rfl rfl rfl (P.not_ rfl) ?_
      refine WL.p rfl rfl rfl (P.pickF rfl rfl) ?_
      refine WL.nil_ ?_
      refine End.seq ?_
      refine WC.cond rfl (fun hc22 => ?_) (fun hc22 => ?_)
      ·
        try simp only [decide_eq_true_eq, decide_eq_false_iff_not, beq_iff_eq, beq_eq_false_iff_ne, bne_iff_ne, bne_eq_false_iff_eq, Bool.not_eq_true', Bool.not_eq_false', ne_eq, Int.not_lt, Int.not_le] at hc22
        refine WC.seq ?_
        refine WC.region ?_
        refine WL.p rfl rfl rfl (P.assign rfl) ?_
        refine WL.nil_ ?_
        refine End.seq ?_
        refine WC.ret ?_
        refine End.thenR ?_
        refine End.ret1 rfl rfl ?_
        exact fun w' hs' => RetV.of (by rw [qualB_false3 hc22]) hs'
      ·
        try simp only [decide_eq_true_eq, decide_eq_false_iff_not, beq_iff_eq, beq_eq_false_iff_ne, bne_iff_ne, bne_eq_false_iff_eq, Bool.not_eq_true', Bool.not_eq_false', ne_eq, Int.not_lt, Int.not_le] at hc22
        have hlen1 : 1 ≤ s.size := by omega
        have hlen8 : s.size ≤ 8 := by omega
        refine WC.skip ?_
        refine End.seq ?_
        refine WC.seq ?_
        refine WC.seq ?_
        refine WC.region ?_
        refine WL.p rfl rfl rfl (P.assign rfl) ?_
        refine WL.nil_ ?_
        refine End.seq ?_
        refine WC.block ?_
        refine WC.loopD (σ := Nat) (fun k => [(7, .int .i64 k)]) (fun k => []) (fun k => 1 ≤ k ∧ k ≤ s.size ∧ ((s.data.toList.take k).drop 1).all p2 = true) (fun k => s.size - k) 1 ⟨Nat.le_refl _, by omega, by simp [List.drop_eq_nil_of_le]⟩ (Env.sub_cons rfl (Env.sub_nil)) [] rfl rfl ?_
        rintro k ⟨hk1, hk, ht⟩
        refine WC.seq ?_
        refine WC.seq ?_
        refine WC.region ?_
        refine WL.p rfl rfl rfl (P.move rfl) ?_
        refine WL.p rfl rfl rfl (P.move rfl) ?_
        refine WL.p rfl rfl rfl (P.lenS Tryz.underlying9 rfl) ?_
        refine WL.p rfl rfl rfl (P.cmp rfl rfl rfl) ?_
        refine WL.nil_ ?_
        refine End.seq ?_
        refine WC.cond rfl (fun hc26 => ?_) (fun hc26 => ?_)
        ·
          try simp only [decide_eq_true_eq, decide_eq_false_iff_not, beq_iff_eq, beq_eq_false_iff_ne, bne_iff_ne, bne_eq_false_iff_eq, Bool.not_eq_true', Bool.not_eq_false', ne_eq, Int.not_lt, Int.not_le] at hc26
          refine WC.skip ?_
          refine End.seq ?_
          refine WC.seq ?_
          refine WC.block ?_
          refine WC.seq ?_
          refine WC.region ?_
          refine WL.p rfl rfl rfl (P.move rfl) ?_
          refine WL.p rfl rfl rfl (P.move rfl) ?_
          refine WL.p rfl rfl rfl (P.move rfl) ?_
          refine WL.p rfl rfl rfl (P.byte Tryz.underlying9 rfl rfl (by omega) (by omega)) ?_
          refine WL.callc h2.ent rfl rfl rfl rfl (fun w hs => h2.at' (s.data.toList[(k : Int).toNat]?.getD 0) w) ?_
          refine WL.p rfl rfl rfl (P.not_ rfl) ?_
          refine WL.nil_ ?_
          refine End.seq ?_
          refine WC.cond rfl (fun hc34 => ?_) (fun hc34 => ?_)
          ·
            try simp only [decide_eq_true_eq, decide_eq_false_iff_not, beq_iff_eq, beq_eq_false_iff_ne, bne_iff_ne, bne_eq_false_iff_eq, Bool.not_eq_true', Bool.not_eq_false', ne_eq, Int.not_lt, Int.not_le] at hc34
            refine WC.seq ?_
            refine WC.region ?_
            refine WL.p rfl rfl rfl (P.assign rfl) ?_
            refine WL.nil_ ?_
            refine End.seq ?_
            refine WC.ret ?_
            refine End.blkR ?_
            refine End.thenR ?_
            refine End.thenR ?_
            refine End.blkR ?_
            refine End.thenR ?_
            refine End.ret1 rfl rfl ?_
            exact fun w' hs' => RetV.of (by rw [qualB_false4 (take_drop_false hk1 (by omega) (by simpa using hc34))]) hs'
          ·
            try simp only [decide_eq_true_eq, decide_eq_false_iff_not, beq_iff_eq, beq_eq_false_iff_ne, bne_iff_ne, bne_eq_false_iff_eq, Bool.not_eq_true', Bool.not_eq_false', ne_eq, Int.not_lt, Int.not_le] at hc34
            refine WC.skip ?_
            refine End.blkN ?_
            refine End.seq ?_
            refine WC.region ?_
            refine WL.p rfl rfl rfl (P.move rfl) ?_
            refine WL.p rfl rfl rfl (P.ari64 rfl rfl rfl (by omega)) ?_
            refine WL.p rfl rfl rfl (P.assign rfl) ?_
            refine WL.nil_ ?_
            refine End.againD (k + 1) ?_ ?_ rfl (Env.sub_cons rfl (Env.sub_nil)) rfl [] rfl rfl
            · exact ⟨by omega, by omega, by rw [take_drop_snoc hk1 (by omega), ht, Bool.true_and]; simpa using hc34⟩
            · omega
        ·
          try simp only [decide_eq_true_eq, decide_eq_false_iff_not, beq_iff_eq, beq_eq_false_iff_ne, bne_iff_ne, bne_eq_false_iff_eq, Bool.not_eq_true', Bool.not_eq_false', ne_eq, Int.not_lt, Int.not_le] at hc26
          refine WC.exit ?_
          refine End.thenX ?_
          refine End.thenX ?_
          refine End.blkX ?_
          refine End.seq ?_
          refine WC.seq ?_
          refine WC.region ?_
          refine WL.p rfl rfl rfl (P.assign rfl) ?_
          refine WL.nil_ ?_
          refine End.seq ?_
          refine WC.ret ?_
          refine End.ret1 rfl rfl ?_
          have e : k = s.data.toList.length := by omega
          rw [List.take_of_length_le (by omega)] at ht
          exact fun w' hs' => RetV.of (by rw [qualB_true (by omega) (by omega) hc22 ht]) hs'

def nameQ (l : List UInt8) : Bool := qualB (fun c => isUpper (c.toNat : Int)) (fun c => isUpper (c.toNat : Int) || isDigit (c.toNat : Int)) l

set_option maxRecDepth 100000 in
theorem valid1_any (s : ByteArray) (w : World) (hsz : s.size < 4294967281) :
    Calls Tryz.prog 163 #[.string s] w (RetV w (.bool (nameQ s.data.toList))) := by
  refine enter Tryz.func163 rfl Tryz.ntmps163 rfl ?_
  refine WC.seq ?_
  refine WC.region ?_
  refine WL.p rfl rfl rfl (P.assign rfl) ?_
  refine WL.nil_ ?_
  refine End.seq ?_
  refine WC.seq ?_
  refine WC.region ?_
  refine WL.p rfl rfl rfl (P.move rfl) ?_
  refine WL.callv (ent_of Tryz.func164 rfl rfl) rfl rfl rfl (fun w hs => qualifier_any s 165 166 _ _ w upper_pred plain_pred hsz) ?_
  refine WL.p rfl rfl rfl (P.assign rfl) ?_
  refine WL.nil_ ?_
  refine End.seq ?_
  refine WC.ret ?_
  refine End.ret1 rfl rfl ?_
  exact fun w' hs' => RetV.of rfl hs'

theorem valid1_pred (w : World) : Pred1 w 163 #[] (fun q => nameQ q.data.toList) := ⟨ent_of Tryz.func163 rfl rfl, fun q w' _ h => valid1_any q w' h⟩
theorem Pred1.at' {w w' : World} {H : List It} {g : Nat} {cap : Array Value} {p : ByteArray → Bool} (h : Pred1 w g cap p) (q : ByteArray) (hs : St w H w') (hq : q.size < 4294967281) : Calls Tryz.prog g (#[.string q] ++ cap) w' (RetV w' (.bool (p q))) := h.at_ q w' hs.below hq
theorem parts_size {s q : ByteArray} (h : q ∈ parts s) : q.size ≤ s.size := by
  unfold parts at h
  generalize Lib.countB s dot = k at h
  induction k generalizing s with
  | zero => simp [Lib.splitB] at h; rw [h]; exact Nat.le_refl _
  | succ k ih =>
    unfold Lib.splitB at h
    split at h
    · simp at h; rw [h]; exact Nat.le_refl _
    · rw [List.mem_cons] at h
      rcases h with rfl | h
      · simp [ByteArray.size_extract]; omega
      · have := ih h
        simp [ByteArray.size_extract] at this; omega
/-- A text of a permitted length whose parts all please. -/
def allB (most : Int) (p : ByteArray → Bool) (s : ByteArray) : Bool := decide (1 ≤ s.size) && (decide ((s.size : Int) ≤ most) && (parts s).all p)
theorem allB_false1 {most : Int} {p : ByteArray → Bool} {s : ByteArray} (h : (s.size : Int) < 1) : allB most p s = false := by
  have e : decide (1 ≤ s.size) = false := decide_eq_false (by omega)
  rw [allB, e]; rfl
theorem allB_false2 {most : Int} {p : ByteArray → Bool} {s : ByteArray} (h : most < (s.size : Int)) : allB most p s = false := by
  have e : decide ((s.size : Int) ≤ most) = false := decide_eq_false (by omega)
  rw [allB, e]; simp
theorem allB_false3 {most : Int} {p : ByteArray → Bool} {s q : ByteArray} {k : Nat} (hx : (parts s)[k]? = some q) (h : p q = false) : allB most p s = false := by
  have e : (parts s).all p = false := by
    rw [Bool.eq_false_iff]
    intro he
    rw [List.all_eq_true] at he
    rw [he q (List.mem_of_getElem? hx)] at h; cases h
  rw [allB, e]; simp
theorem allB_true {most : Int} {p : ByteArray → Bool} {s : ByteArray} (h1 : 1 ≤ s.size) (h2 : (s.size : Int) ≤ most) (h3 : (parts s).all p = true) : allB most p s = true := by
  rw [allB, h3, decide_eq_true h1, decide_eq_true h2]; rfl
theorem all_snoc {α : Type} {l : List α} {k : Nat} {x : α} (hx : l[k]? = some x) (p : α → Bool) : (l.take (k + 1)).all p = ((l.take k).all p && p x) := by rw [take_snoc hx]; simp
theorem row_cell {l : List ByteArray} {k : Nat} {x : ByteArray} (h : l[k]? = some x) : ((l.map Value.string).toArray)[0 + (k : Int).toNat * 1]? = some (.string x) := by simp [h]

set_option maxRecDepth 100000 in
theorem all_any (s : ByteArray) (most : Int) (g : Nat) (cap : Array Value) (p : ByteArray → Bool) (w : World) (hg : Good w) (hp : Pred1 w g cap p) (hm : most < 4294967281) :
    Calls Tryz.prog 162 #[.string s, .int .i64 most, .func (.func g) #[] cap] w (RetV w (.bool (allB most p s))) := by
  refine enter Tryz.func162 rfl Tryz.ntmps162 rfl ?_
  refine WC.seq ?_
  refine WC.region ?_
  refine WL.p rfl rfl rfl (P.assign rfl) ?_
  refine WL.nil_ ?_
  refine End.seq ?_
  refine WC.seq ?_
  refine WC.seq ?_
  refine WC.region ?_
  refine WL.p rfl rfl rfl (P.move rfl) ?_
  refine WL.p rfl rfl rfl (P.lenS Tryz.underlying9 rfl) ?_
  refine WL.p rfl rfl rfl (P.cmp rfl rfl rfl) ?_
  refine WL.p rfl rfl rfl (P.move rfl) ?_
  refine WL.split 12 rfl (fun hs12 => ?_) (fun hs12 => ?_)
  ·
    try simp only [decide_eq_true_eq, decide_eq_false_iff_not, beq_iff_eq, beq_eq_false_iff_ne, bne_iff_ne, bne_eq_false_iff_eq, Bool.not_eq_true', Bool.not_eq_false', ne_eq, Int.not_lt, Int.not_le] at hs12
    refine WL.off rfl rfl ?_
    refine WL.off rfl rfl ?_
    refine WL.off rfl rfl ?_
    refine WL.off rfl rfl ?_
    refine WL.p rfl rfl rfl (P.pickT rfl rfl) ?_
    refine WL.nil_ ?_
    refine End.seq ?_
    refine WC.condT rfl ?_
    refine WC.seq ?_
    refine WC.region ?_
    refine WL.p rfl rfl rfl (P.assign rfl) ?_
    refine WL.nil_ ?_
    refine End.seq ?_
    refine WC.ret ?_
    refine End.thenR ?_
    refine End.ret1 rfl rfl ?_
    exact fun w' hs' => RetV.of (by rw [allB_false1 (by omega)]) hs'
  ·
    try simp only [decide_eq_true_eq, decide_eq_false_iff_not, beq_iff_eq, beq_eq_false_iff_ne, bne_iff_ne, bne_eq_false_iff_eq, Bool.not_eq_true', Bool.not_eq_false', ne_eq, Int.not_lt, Int.not_le] at hs12
    refine WL.p rfl rfl rfl (P.move rfl) ?_
    refine WL.p rfl rfl rfl (P.lenS Tryz.underlying9 rfl) ?_
    refine WL.p rfl rfl rfl (P.move rfl) ?_
    refine WL.p rfl rfl rfl (P.cmp rfl rfl rfl) ?_
    refine WL.p rfl rfl rfl (P.pickF rfl rfl) ?_
    refine WL.nil_ ?_
    refine End.seq ?_
    refine WC.cond rfl (fun hc17 => ?_) (fun hc17 => ?_)
    ·
      try simp only [decide_eq_true_eq, decide_eq_false_iff_not, beq_iff_eq, beq_eq_false_iff_ne, bne_iff_ne, bne_eq_false_iff_eq, Bool.not_eq_true', Bool.not_eq_false', ne_eq, Int.not_lt, Int.not_le] at hc17
      refine WC.seq ?_
      refine WC.region ?_
      refine WL.p rfl rfl rfl (P.assign rfl) ?_
      refine WL.nil_ ?_
      refine End.seq ?_
      refine WC.ret ?_
      refine End.thenR ?_
      refine End.ret1 rfl rfl ?_
      exact fun w' hs' => RetV.of (by rw [allB_false2 (by omega)]) hs'
    ·
      try simp only [decide_eq_true_eq, decide_eq_false_iff_not, beq_iff_eq, beq_eq_false_iff_ne, bne_iff_ne, bne_eq_false_iff_eq, Bool.not_eq_true', Bool.not_eq_false', ne_eq, Int.not_lt, Int.not_le] at hc17
      refine WC.skip ?_
      refine End.seq ?_
      refine WC.seq ?_
      refine WC.seq ?_
      refine WC.region ?_
      refine WL.p rfl rfl rfl (P.move rfl) ?_
      refine WL.callx (ent_of Tryz.func107 rfl rfl) rfl rfl rfl (fun w hs => split_any s w (hg.st hs) (by omega)) (fun b _ => ?_)
      refine WL.p rfl rfl rfl (P.lenR Tryz.underlying48 rfl) ?_
      refine WL.p rfl rfl rfl (P.move rfl) ?_
      refine WL.nil_ ?_
      refine End.seq ?_
      refine WC.block ?_
      refine WC.loopD (σ := Nat) (fun k => [(21, .int .i64 k)]) (fun k => _) (fun k => k ≤ (parts s).length ∧ ((parts s).take k).all p = true) (fun k => (parts s).length - k) 0 ⟨Nat.zero_le _, rfl⟩ (Env.sub_cons rfl (Env.sub_nil)) [0] rfl rfl ?_
      rintro k ⟨hk, ht⟩
      refine WC.seq ?_
      refine WC.region ?_
      refine WL.p rfl rfl rfl (P.cmp rfl rfl rfl) ?_
      refine WL.nil_ ?_
      refine End.seq ?_
      refine WC.seq ?_
      refine WC.cond rfl (fun hc22 => ?_) (fun hc22 => ?_)
      ·
        try simp only [decide_eq_true_eq, decide_eq_false_iff_not, beq_iff_eq, beq_eq_false_iff_ne, bne_iff_ne, bne_eq_false_iff_eq, Bool.not_eq_true', Bool.not_eq_false', ne_eq, Int.not_lt, Int.not_le] at hc22
        have hpl := parts_le s
        obtain ⟨q, hq⟩ := get_of_lt (xs := parts s) (k := k) (by omega)
        refine WC.skip ?_
        refine End.seq ?_
        refine WC.seq ?_
        refine WC.block ?_
        refine WC.seq ?_
        refine WC.region ?_
        refine WL.p rfl rfl rfl (P.elemAddr Tryz.underlying48 Tryz.sizeOf9 rfl rfl (by omega) (by omega)) ?_
        refine WL.p rfl rfl rfl (P.loadO 0 Tryz.isAgg9 rfl rfl (row_cell hq)) ?_
        refine WL.p rfl rfl rfl (P.assign rfl) ?_
        refine WL.nil_ ?_
        refine End.seq ?_
        refine WC.seq ?_
        refine WC.region ?_
        refine WL.p rfl rfl rfl (P.move rfl) ?_
        refine WL.p rfl rfl rfl (P.move rfl) ?_
        refine WL.callc hp.ent rfl rfl rfl rfl (fun w hs => hp.at' q hs (by have := parts_size (List.mem_of_getElem? hq); omega)) ?_
        refine WL.p rfl rfl rfl (P.not_ rfl) ?_
        refine WL.nil_ ?_
        refine End.seq ?_
        refine WC.cond rfl (fun hc28 => ?_) (fun hc28 => ?_)
        ·
          try simp only [decide_eq_true_eq, decide_eq_false_iff_not, beq_iff_eq, beq_eq_false_iff_ne, bne_iff_ne, bne_eq_false_iff_eq, Bool.not_eq_true', Bool.not_eq_false', ne_eq, Int.not_lt, Int.not_le] at hc28
          refine WC.seq ?_
          refine WC.region ?_
          refine WL.p rfl rfl rfl (P.assign rfl) ?_
          refine WL.nil_ ?_
          refine End.seq ?_
          refine WC.ret ?_
          refine End.blkR ?_
          refine End.thenR ?_
          refine End.thenR ?_
          refine End.blkR ?_
          refine End.thenR ?_
          refine End.ret1 rfl rfl ?_
          exact fun w' hs' => RetV.of (by rw [allB_false3 hq (by simpa using hc28)]) hs'
        ·
          try simp only [decide_eq_true_eq, decide_eq_false_iff_not, beq_iff_eq, beq_eq_false_iff_ne, bne_iff_ne, bne_eq_false_iff_eq, Bool.not_eq_true', Bool.not_eq_false', ne_eq, Int.not_lt, Int.not_le] at hc28
          refine WC.skip ?_
          refine End.blkN ?_
          refine End.seq ?_
          refine WC.region ?_
          refine WL.p rfl rfl rfl (P.ari64 rfl rfl rfl (by omega)) ?_
          refine WL.p rfl rfl rfl (P.move rfl) ?_
          refine WL.nil_ ?_
          refine End.againD (k + 1) ?_ ?_ rfl (Env.sub_cons rfl (Env.sub_nil)) rfl [0] rfl rfl
          · exact ⟨by omega, by rw [all_snoc hq, ht, Bool.true_and]; simpa using hc28⟩
          · omega
      ·
        try simp only [decide_eq_true_eq, decide_eq_false_iff_not, beq_iff_eq, beq_eq_false_iff_ne, bne_iff_ne, bne_eq_false_iff_eq, Bool.not_eq_true', Bool.not_eq_false', ne_eq, Int.not_lt, Int.not_le] at hc22
        refine WC.exit ?_
        refine End.thenX ?_
        refine End.thenX ?_
        refine End.blkX ?_
        refine End.seq ?_
        refine WC.seq ?_
        refine WC.region ?_
        refine WL.p rfl rfl rfl (P.assign rfl) ?_
        refine WL.nil_ ?_
        refine End.seq ?_
        refine WC.ret ?_
        refine End.ret1 rfl rfl ?_
        have e : k = (parts s).length := by omega
        rw [List.take_of_length_le (by omega)] at ht
        exact fun w' hs' => RetV.of (by rw [allB_true (by omega) (by omega) ht]) hs'

def nameB (s : ByteArray) : Bool := allB 31 (fun q => nameQ q.data.toList) s

set_option maxRecDepth 100000 in
theorem nameValid_any (s : ByteArray) (w : World) (hg : Good w) :
    Calls Tryz.prog 76 #[.string s] w (RetV w (.bool (nameB s))) := by
  refine enter Tryz.func76 rfl Tryz.ntmps76 rfl ?_
  refine WC.seq ?_
  refine WC.region ?_
  refine WL.p rfl rfl rfl (P.assign rfl) ?_
  refine WL.nil_ ?_
  refine End.seq ?_
  refine WC.seq ?_
  refine WC.region ?_
  refine WL.p rfl rfl rfl (P.move rfl) ?_
  refine WL.callv (ent_of Tryz.func162 rfl rfl) rfl rfl rfl (fun w hs => all_any s 31 163 #[] _ w (hg.st hs) (valid1_pred w) (by omega)) ?_
  refine WL.p rfl rfl rfl (P.assign rfl) ?_
  refine WL.nil_ ?_
  refine End.seq ?_
  refine WC.ret ?_
  refine End.ret1 rfl rfl ?_
  exact fun w' hs' => RetV.of rfl hs'

/-- The four digits of a generation, as a number; none: 0. -/
def genNum (l : List UInt8) : Int :=
  if l.length = 8 ∧ l[0]?.getD 0 = 71 ∧ l.drop 5 = [86, 48, 48] ∧ ((l.take 5).drop 1).all (fun c => isDigit (c.toNat : Int)) = true then ((l.take 5).drop 1).foldl (fun n c => 10 * n + ((c.toNat : Int) - 48)) 0 else 0
theorem take_drop_fold {l : List UInt8} {k : Nat} (h1 : 1 ≤ k) (h2 : k < l.length) (f : Int → UInt8 → Int) (z : Int) : ((l.take (k + 1)).drop 1).foldl f z = f (((l.take k).drop 1).foldl f z) (l[k]?.getD 0) := by
  have hx : l[k]? = some l[k] := List.getElem?_eq_getElem h2
  rw [take_snoc hx, List.drop_append_of_le_length (by simp; omega), List.foldl_append, hx]
  rfl
theorem u8_lt (c : UInt8) : (c.toNat : Int) < 256 := by have := c.toNat_lt; omega
theorem digit_le {c : UInt8} (h : isDigit (c.toNat : Int) = true) : 48 ≤ (c.toNat : Int) ∧ (c.toNat : Int) ≤ 57 := by
  unfold isDigit at h
  rw [Bool.and_eq_true, decide_eq_true_eq, decide_eq_true_eq] at h
  exact h
theorem wrap_u8 {p : Int} (h0 : 0 ≤ p) (h1 : p < 256) : IntKind.u8.wrap p = p := by
  have e : IntKind.u8.wrap p = p % 256 := rfl
  rw [e]; omega
theorem wrap_i64 {p : Int} (h : -9223372036854775808 ≤ p ∧ p ≤ 9223372036854775807) : IntKind.i64.wrap p = p := wrap_in h
theorem extract_bytes (s : ByteArray) (a b : Nat) : (s.extract a b).toList = (s.data.toList.take b).drop a := by
  rw [ByteArray.toList_eq, ByteArray.data_extract]
  simp [List.drop_take]

theorem pow_step {k : Nat} {n c : Int} (h1 : 1 ≤ k) (h4 : k ≤ 4) (h0 : 0 ≤ n) (h : n < 10 ^ (k - 1)) (hc : 48 ≤ c ∧ c ≤ 57) : 10 * n + (c - 48) < 10 ^ (k + 1 - 1) := by
  rcases (by omega : k = 1 ∨ k = 2 ∨ k = 3 ∨ k = 4) with rfl | rfl | rfl | rfl <;> simp at h ⊢ <;> omega
theorem pow_small {k : Nat} {n : Int} (h1 : 1 ≤ k) (h4 : k ≤ 4) (h : n < 10 ^ (k - 1)) : n < 10000 := by
  rcases (by omega : k = 1 ∨ k = 2 ∨ k = 3 ∨ k = 4) with rfl | rfl | rfl | rfl <;> simp at h <;> omega
abbrev gf (n : Int) (c : UInt8) : Int := 10 * n + ((c.toNat : Int) - 48)
theorem genNum_zero {l : List UInt8} (h : ¬ (l.length = 8 ∧ l[0]?.getD 0 = 71 ∧ l.drop 5 = [86, 48, 48] ∧ ((l.take 5).drop 1).all (fun c => isDigit (c.toNat : Int)) = true)) : genNum l = 0 := if_neg h
theorem u8_eq {c : UInt8} {d : Nat} (hd : d < 256) (h : (c.toNat : Int) = d) : c = UInt8.ofNat d := by
  apply UInt8.toNat_inj.1
  simp
  omega
theorem all_false_at {l : List UInt8} {k m : Nat} (h1 : 1 ≤ k) (h2 : k < l.length) (hm : k < m) {p : UInt8 → Bool} (h : p (l[k]?.getD 0) = false) : ((l.take m).drop 1).all p = false := by
  rw [Bool.eq_false_iff]
  intro he
  rw [List.all_eq_true] at he
  have hx : l[k]? = some l[k] := List.getElem?_eq_getElem h2
  have := he l[k] (List.mem_iff_getElem?.2 ⟨k - 1, by rw [List.getElem?_drop, show 1 + (k - 1) = k by omega, List.getElem?_take_of_lt hm, hx]⟩)
  rw [hx] at h
  simp [this] at h

set_option maxRecDepth 100000 in
theorem number_any (s : ByteArray) (w : World) (hsz : s.size < 4294967281) :
    Calls Tryz.prog 260 #[.string s] w (RetV w (.int .i64 (genNum s.data.toList))) := by
  have hl : s.size = s.data.toList.length := rfl
  refine enter Tryz.func260 rfl Tryz.ntmps260 rfl ?_
  refine WC.seq ?_
  refine WC.region ?_
  refine WL.p rfl rfl rfl (P.assign rfl) ?_
  refine WL.nil_ ?_
  refine End.seq ?_
  refine WC.seq ?_
  refine WC.seq ?_
  refine WC.region ?_
  refine WL.p rfl rfl rfl (P.move rfl) ?_
  refine WL.p rfl rfl rfl (P.lenS Tryz.underlying9 rfl) ?_
  refine WL.p rfl rfl rfl (P.cmp rfl rfl rfl) ?_
  refine WL.p rfl rfl rfl (P.move rfl) ?_
  refine WL.split 8 rfl (fun hs8 => ?_) (fun hs8 => ?_)
  ·
    try simp only [decide_eq_true_eq, decide_eq_false_iff_not, beq_iff_eq, beq_eq_false_iff_ne, bne_iff_ne, bne_eq_false_iff_eq, Bool.not_eq_true', Bool.not_eq_false', ne_eq, Int.not_lt, Int.not_le] at hs8
    refine WL.off rfl rfl ?_
    refine WL.off rfl rfl ?_
    refine WL.off rfl rfl ?_
    refine WL.p rfl rfl rfl (P.pickT rfl rfl) ?_
    refine WL.p rfl rfl rfl (P.move rfl) ?_
    refine WL.off rfl rfl ?_
    refine WL.off rfl rfl ?_
    refine WL.off rfl rfl ?_
    refine WL.p rfl rfl rfl (P.pickT rfl rfl) ?_
    refine WL.nil_ ?_
    refine End.seq ?_
    refine WC.condT rfl ?_
    refine WC.seq ?_
    refine WC.region ?_
    refine WL.p rfl rfl rfl (P.assign rfl) ?_
    refine WL.nil_ ?_
    refine End.seq ?_
    refine WC.ret ?_
    refine End.thenR ?_
    refine End.ret1 rfl rfl ?_
    exact fun w' hs' => RetV.of (by rw [genNum_zero (fun h => hs8 (by omega))]) hs'
  ·
    try simp only [decide_eq_true_eq, decide_eq_false_iff_not, beq_iff_eq, beq_eq_false_iff_ne, bne_iff_ne, bne_eq_false_iff_eq, Bool.not_eq_true', Bool.not_eq_false', ne_eq, Int.not_lt, Int.not_le] at hs8
    refine WL.p rfl rfl rfl (P.move rfl) ?_
    refine WL.p rfl rfl rfl (P.byte Tryz.underlying9 rfl rfl (by omega) (by omega)) ?_
    refine WL.p rfl rfl rfl (P.cmp rfl rfl rfl) ?_
    refine WL.p rfl rfl rfl (P.pickF rfl rfl) ?_
    refine WL.p rfl rfl rfl (P.move rfl) ?_
    refine WL.split 13 rfl (fun hs13 => ?_) (fun hs13 => ?_)
    ·
      try simp only [decide_eq_true_eq, decide_eq_false_iff_not, beq_iff_eq, beq_eq_false_iff_ne, bne_iff_ne, bne_eq_false_iff_eq, Bool.not_eq_true', Bool.not_eq_false', ne_eq, Int.not_lt, Int.not_le] at hs13
      refine WL.off rfl rfl ?_
      refine WL.off rfl rfl ?_
      refine WL.off rfl rfl ?_
      refine WL.p rfl rfl rfl (P.pickT rfl rfl) ?_
      refine WL.nil_ ?_
      refine End.seq ?_
      refine WC.condT rfl ?_
      refine WC.seq ?_
      refine WC.region ?_
      refine WL.p rfl rfl rfl (P.assign rfl) ?_
      refine WL.nil_ ?_
      refine End.seq ?_
      refine WC.ret ?_
      refine End.thenR ?_
      refine End.ret1 rfl rfl ?_
      exact fun w' hs' => RetV.of (by rw [genNum_zero (fun h => hs13 (by rw [show (0 : Int).toNat = 0 from rfl, h.2.1]; rfl))]) hs'
    ·
      try simp only [decide_eq_true_eq, decide_eq_false_iff_not, beq_iff_eq, beq_eq_false_iff_ne, bne_iff_ne, bne_eq_false_iff_eq, Bool.not_eq_true', Bool.not_eq_false', ne_eq, Int.not_lt, Int.not_le] at hs13
      refine WL.p rfl rfl rfl (P.move rfl) ?_
      refine WL.p rfl rfl rfl (P.subL Tryz.underlying9 rfl rfl (by omega) (by omega)) ?_
      refine WL.p rfl rfl rfl (P.cmps rfl rfl rfl) ?_
      refine WL.p rfl rfl rfl (P.pickF rfl rfl) ?_
      refine WL.nil_ ?_
      refine End.seq ?_
      refine WC.cond rfl (fun hc17 => ?_) (fun hc17 => ?_)
      ·
        try simp only [decide_eq_true_eq, decide_eq_false_iff_not, beq_iff_eq, beq_eq_false_iff_ne, bne_iff_ne, bne_eq_false_iff_eq, Bool.not_eq_true', Bool.not_eq_false', ne_eq, Int.not_lt, Int.not_le] at hc17
        refine WC.seq ?_
        refine WC.region ?_
        refine WL.p rfl rfl rfl (P.assign rfl) ?_
        refine WL.nil_ ?_
        refine End.seq ?_
        refine WC.ret ?_
        refine End.thenR ?_
        refine End.ret1 rfl rfl ?_
        exact fun w' hs' => RetV.of (by rw [genNum_zero (fun h => hc17 (by rw [extract_bytes, List.take_of_length_le (by omega), show (5 : Int).toNat = 5 from rfl, h.2.2.1, ByteArray.toList_eq]))]) hs'
      ·
        try simp only [decide_eq_true_eq, decide_eq_false_iff_not, beq_iff_eq, beq_eq_false_iff_ne, bne_iff_ne, bne_eq_false_iff_eq, Bool.not_eq_true', Bool.not_eq_false', ne_eq, Int.not_lt, Int.not_le] at hc17
        refine WC.skip ?_
        refine End.seq ?_
        refine WC.seq ?_
        refine WC.region ?_
        refine WL.p rfl rfl rfl (P.assign rfl) ?_
        refine WL.nil_ ?_
        refine End.seq ?_
        refine WC.seq ?_
        refine WC.seq ?_
        refine WC.region ?_
        refine WL.p rfl rfl rfl (P.assign rfl) ?_
        refine WL.nil_ ?_
        refine End.seq ?_
        refine WC.block ?_
        refine WC.loopD (σ := Nat × Int) (fun (k, n) => [(4, .int .i64 (k : Nat)), (3, .int .i64 n)]) (fun (k, n) => []) (fun (k, n) => 1 ≤ k ∧ k ≤ 5 ∧ ((s.data.toList.take k).drop 1).all (fun c => isDigit (c.toNat : Int)) = true ∧ ((s.data.toList.take k).drop 1).foldl gf 0 = n ∧ 0 ≤ n ∧ n < 10 ^ (k - 1)) (fun (k, n) => 5 - k) (1, 0) ⟨Nat.le_refl _, by decide, by rw [List.drop_eq_nil_of_le (by rw [List.length_take]; omega)]; rfl, by rw [List.drop_eq_nil_of_le (by rw [List.length_take]; omega)]; rfl, Int.le_refl _, by decide⟩ (Env.sub_cons rfl (Env.sub_cons rfl (Env.sub_nil))) [] rfl rfl ?_
        rintro ⟨k, n⟩ ⟨hk1, hk, ht, hn, hn0, hn1⟩
        refine WC.seq ?_
        refine WC.seq ?_
        refine WC.region ?_
        refine WL.p rfl rfl rfl (P.move rfl) ?_
        refine WL.p rfl rfl rfl (P.cmp rfl rfl rfl) ?_
        refine WL.nil_ ?_
        refine End.seq ?_
        refine WC.cond rfl (fun hc19 => ?_) (fun hc19 => ?_)
        ·
          try simp only [decide_eq_true_eq, decide_eq_false_iff_not, beq_iff_eq, beq_eq_false_iff_ne, bne_iff_ne, bne_eq_false_iff_eq, Bool.not_eq_true', Bool.not_eq_false', ne_eq, Int.not_lt, Int.not_le] at hc19
          refine WC.skip ?_
          refine End.seq ?_
          refine WC.seq ?_
          refine WC.block ?_
          refine WC.seq ?_
          refine WC.seq ?_
          refine WC.region ?_
          refine WL.p rfl rfl rfl (P.move rfl) ?_
          refine WL.p rfl rfl rfl (P.move rfl) ?_
          refine WL.p rfl rfl rfl (P.byte Tryz.underlying9 rfl rfl (by omega) (by omega)) ?_
          refine WL.callv (ent_of Tryz.func246 rfl rfl) rfl rfl rfl (fun w hs => digit_any _ w) ?_
          refine WL.p rfl rfl rfl (P.not_ rfl) ?_
          refine WL.nil_ ?_
          refine End.seq ?_
          refine WC.cond rfl (fun hc26 => ?_) (fun hc26 => ?_)
          ·
            try simp only [decide_eq_true_eq, decide_eq_false_iff_not, beq_iff_eq, beq_eq_false_iff_ne, bne_iff_ne, bne_eq_false_iff_eq, Bool.not_eq_true', Bool.not_eq_false', ne_eq, Int.not_lt, Int.not_le] at hc26
            refine WC.seq ?_
            refine WC.region ?_
            refine WL.p rfl rfl rfl (P.assign rfl) ?_
            refine WL.nil_ ?_
            refine End.seq ?_
            refine WC.ret ?_
            refine End.thenR ?_
            refine End.blkR ?_
            refine End.thenR ?_
            refine End.thenR ?_
            refine End.blkR ?_
            refine End.thenR ?_
            refine End.ret1 rfl rfl ?_
            exact fun w' hs' => RetV.of (by rw [genNum_zero (fun h => by have := all_false_at (l := s.data.toList) (k := k) hk1 (by omega) (m := 5) (by omega) (p := fun c => isDigit (c.toNat : Int)) (by simpa using hc26); rw [h.2.2.2] at this; cases this)]) hs'
          ·
            try simp only [decide_eq_true_eq, decide_eq_false_iff_not, beq_iff_eq, beq_eq_false_iff_ne, bne_iff_ne, bne_eq_false_iff_eq, Bool.not_eq_true', Bool.not_eq_false', ne_eq, Int.not_lt, Int.not_le] at hc26
            have hdg : isDigit ((s.data.toList[(k : Int).toNat]?.getD 0).toNat : Int) = true := by simpa using hc26
            have hd2 := digit_le hdg
            have hn9 : n < 10000 := pow_small hk1 (by omega) hn1
            refine WC.skip ?_
            refine End.seq ?_
            refine WC.region ?_
            refine WL.p rfl rfl rfl (P.move rfl) ?_
            refine WL.p rfl rfl rfl (P.ari64 rfl rfl rfl (by omega)) ?_
            refine WL.p rfl rfl rfl (P.move rfl) ?_
            refine WL.p rfl rfl rfl (P.move rfl) ?_
            refine WL.p rfl rfl rfl (P.byte Tryz.underlying9 rfl rfl (by omega) (by omega)) ?_
            refine WL.p rfl rfl rfl (P.ari rfl rfl rfl) ?_
            refine WL.is 32 rfl (congrArg (Value.int .u8) (wrap_u8 (by omega) (by omega))) ?_
            refine WL.p rfl rfl rfl (P.conv (by kernel_rfl) Tryz.underlying3 rfl (wrap_i64 (by omega))) ?_
            refine WL.p rfl rfl rfl (P.ari64 rfl rfl rfl (by omega)) ?_
            refine WL.p rfl rfl rfl (P.assign rfl) ?_
            refine WL.nil_ ?_
            refine End.blkN ?_
            refine End.seq ?_
            refine WC.region ?_
            refine WL.p rfl rfl rfl (P.move rfl) ?_
            refine WL.p rfl rfl rfl (P.ari64 rfl rfl rfl (by omega)) ?_
            refine WL.p rfl rfl rfl (P.assign rfl) ?_
            refine WL.nil_ ?_
            refine End.againD (k + 1, 10 * n + (((s.data.toList[(k : Int).toNat]?.getD 0).toNat : Int) - 48)) ?_ ?_ rfl (Env.sub_cons rfl (Env.sub_cons rfl (Env.sub_nil))) rfl [] rfl rfl
            · exact ⟨by omega, by omega, by rw [take_drop_snoc (l := s.data.toList) (k := k) hk1 (by omega), ht, Bool.true_and]; exact hdg, by rw [take_drop_fold (l := s.data.toList) (k := k) hk1 (by omega), hn]; rfl, by omega, pow_step hk1 (by omega) hn0 hn1 hd2⟩
            · show 5 - (k + 1) < 5 - k; omega
        ·
          try simp only [decide_eq_true_eq, decide_eq_false_iff_not, beq_iff_eq, beq_eq_false_iff_ne, bne_iff_ne, bne_eq_false_iff_eq, Bool.not_eq_true', Bool.not_eq_false', ne_eq, Int.not_lt, Int.not_le] at hc19
          refine WC.exit ?_
          refine End.thenX ?_
          refine End.thenX ?_
          refine End.blkX ?_
          refine End.seq ?_
          refine WC.seq ?_
          refine WC.region ?_
          refine WL.p rfl rfl rfl (P.move rfl) ?_
          refine WL.p rfl rfl rfl (P.assign rfl) ?_
          refine WL.nil_ ?_
          refine End.seq ?_
          refine WC.ret ?_
          refine End.ret1 rfl rfl ?_
          have e : k = 5 := by omega
          subst e
          rw [extract_bytes, List.take_of_length_le (by omega)] at hc17
          exact fun w' hs' => RetV.of (by rw [genNum, if_pos ⟨by omega, u8_eq (by decide) (by simpa using hs13), by simpa [ByteArray.toList_eq] using hc17, ht⟩]; exact congrArg _ hn.symm) hs'

def isGenQ (s : ByteArray) : Bool := decide (0 < genNum s.data.toList)

set_option maxRecDepth 100000 in
theorem isGroup1_any (s : ByteArray) (w : World) (hsz : s.size < 4294967281) :
    Calls Tryz.prog 259 #[.string s] w (RetV w (.bool (isGenQ s))) := by
  refine enter Tryz.func259 rfl Tryz.ntmps259 rfl ?_
  refine WC.seq ?_
  refine WC.region ?_
  refine WL.p rfl rfl rfl (P.assign rfl) ?_
  refine WL.nil_ ?_
  refine End.seq ?_
  refine WC.seq ?_
  refine WC.region ?_
  refine WL.p rfl rfl rfl (P.move rfl) ?_
  refine WL.callv (ent_of Tryz.func260 rfl rfl) rfl rfl rfl (fun w hs => number_any s w hsz) ?_
  refine WL.p rfl rfl rfl (P.cmp rfl rfl rfl) ?_
  refine WL.p rfl rfl rfl (P.assign rfl) ?_
  refine WL.nil_ ?_
  refine End.seq ?_
  refine WC.ret ?_
  refine End.ret1 rfl rfl ?_
  exact fun w' hs' => RetV.of rfl hs'

theorem isGroup1_pred (w : World) : Pred1 w 259 #[] isGenQ := ⟨ent_of Tryz.func259 rfl rfl, fun q w' _ h => isGroup1_any q w' h⟩
theorem any_false_snoc {α : Type} {l : List α} {k : Nat} {x : α} (hx : l[k]? = some x) (p : α → Bool) : (l.take (k + 1)).any p = ((l.take k).any p || p x) := by rw [take_snoc hx]; simp
theorem idx_hit {l : List ByteArray} {k : Nat} {x : ByteArray} {p : ByteArray → Bool} (hx : l[k]? = some x) (h : p x = true) : l.any p = true := by rw [List.any_eq_true]; exact ⟨x, List.mem_of_getElem? hx, h⟩

set_option maxRecDepth 100000 in
theorem indexFuncS_any (A : Option Addr) (c : Nat) (xs : List ByteArray) (g : Nat) (cap : Array Value) (p : ByteArray → Bool) (w : World) (hr : Sl encS 1 w A xs) (hp : Pred1 w g cap p) (hq : ∀ q ∈ xs, q.size < 4294967281) :
    Calls Tryz.prog 300 #[.slice A xs.length c, .func (.func g) #[] cap] w (Ret w (fun i : Int => decide (0 ≤ i) = xs.any p) (fun i => .int .i64 i) (fun _ => [])) := by
  have hl := hr.1
  refine enter Tryz.func300 rfl Tryz.ntmps300 rfl ?_
  refine WC.seq ?_
  refine WC.region ?_
  refine WL.p rfl rfl rfl (P.assign rfl) ?_
  refine WL.nil_ ?_
  refine End.seq ?_
  refine WC.seq ?_
  refine WC.seq ?_
  refine WC.region ?_
  refine WL.p rfl rfl rfl (P.move rfl) ?_
  refine WL.p rfl rfl rfl (P.lenR Tryz.underlying48 rfl) ?_
  refine WL.p rfl rfl rfl (P.move rfl) ?_
  refine WL.nil_ ?_
  refine End.seq ?_
  refine WC.block ?_
  refine WC.loopD (σ := Nat) (fun k => [(8, .int .i64 k)]) (fun k => []) (fun k => k ≤ xs.length ∧ (xs.take k).any p = false) (fun k => xs.length - k) 0 ⟨Nat.zero_le _, rfl⟩ (Env.sub_cons rfl (Env.sub_nil)) [] rfl rfl ?_
  rintro k ⟨hk, ht⟩
  refine WC.seq ?_
  refine WC.region ?_
  refine WL.p rfl rfl rfl (P.cmp rfl rfl rfl) ?_
  refine WL.nil_ ?_
  refine End.seq ?_
  refine WC.seq ?_
  refine WC.cond rfl (fun hc9 => ?_) (fun hc9 => ?_)
  ·
    try simp only [decide_eq_true_eq, decide_eq_false_iff_not, beq_iff_eq, beq_eq_false_iff_ne, bne_iff_ne, bne_eq_false_iff_eq, Bool.not_eq_true', Bool.not_eq_false', ne_eq, Int.not_lt, Int.not_le] at hc9
    obtain ⟨b, off, rfl, hcx⟩ := hr.at_ (by omega)
    obtain ⟨x, hx⟩ := get_of_lt (xs := xs) (k := k) (by omega)
    refine WC.skip ?_
    refine End.seq ?_
    refine WC.seq ?_
    refine WC.block ?_
    refine WC.seq ?_
    refine WC.region ?_
    refine WL.p rfl rfl rfl (P.move rfl) ?_
    refine WL.p rfl rfl rfl (P.assign rfl) ?_
    refine WL.nil_ ?_
    refine End.seq ?_
    refine WC.seq ?_
    refine WC.region ?_
    refine WL.p rfl rfl rfl (P.move rfl) ?_
    refine WL.p rfl rfl rfl (P.move rfl) ?_
    refine WL.p rfl rfl rfl (P.move rfl) ?_
    refine WL.p rfl rfl rfl (P.elemAddr Tryz.underlying48 Tryz.sizeOf9 rfl rfl (by omega) (by omega)) ?_
    refine WL.p rfl rfl rfl (P.loadB Tryz.isAgg9 rfl (hcx k x hx 0 _ rfl)) ?_
    refine WL.callc hp.ent rfl rfl rfl rfl (fun w hs => hp.at' x hs (hq x (List.mem_of_getElem? hx))) ?_
    refine WL.nil_ ?_
    refine End.seq ?_
    refine WC.cond rfl (fun hc16 => ?_) (fun hc16 => ?_)
    ·
      try simp only [decide_eq_true_eq, decide_eq_false_iff_not, beq_iff_eq, beq_eq_false_iff_ne, bne_iff_ne, bne_eq_false_iff_eq, Bool.not_eq_true', Bool.not_eq_false', ne_eq, Int.not_lt, Int.not_le] at hc16
      refine WC.seq ?_
      refine WC.region ?_
      refine WL.p rfl rfl rfl (P.move rfl) ?_
      refine WL.p rfl rfl rfl (P.assign rfl) ?_
      refine WL.nil_ ?_
      refine End.seq ?_
      refine WC.ret ?_
      refine End.blkR ?_
      refine End.thenR ?_
      refine End.thenR ?_
      refine End.blkR ?_
      refine End.thenR ?_
      refine End.ret1 rfl rfl ?_
      exact fun w' hs' => ⟨k, by rw [idx_hit hx hc16]; simp, rfl, hs'⟩
    ·
      try simp only [decide_eq_true_eq, decide_eq_false_iff_not, beq_iff_eq, beq_eq_false_iff_ne, bne_iff_ne, bne_eq_false_iff_eq, Bool.not_eq_true', Bool.not_eq_false', ne_eq, Int.not_lt, Int.not_le] at hc16
      refine WC.skip ?_
      refine End.blkN ?_
      refine End.seq ?_
      refine WC.region ?_
      refine WL.p rfl rfl rfl (P.ari64 rfl rfl rfl (by omega)) ?_
      refine WL.p rfl rfl rfl (P.move rfl) ?_
      refine WL.nil_ ?_
      refine End.againD (k + 1) ?_ ?_ rfl (Env.sub_cons rfl (Env.sub_nil)) rfl [] rfl rfl
      · exact ⟨by omega, by rw [any_false_snoc hx, ht, Bool.false_or]; simpa using hc16⟩
      · omega
  ·
    try simp only [decide_eq_true_eq, decide_eq_false_iff_not, beq_iff_eq, beq_eq_false_iff_ne, bne_iff_ne, bne_eq_false_iff_eq, Bool.not_eq_true', Bool.not_eq_false', ne_eq, Int.not_lt, Int.not_le] at hc9
    refine WC.exit ?_
    refine End.thenX ?_
    refine End.thenX ?_
    refine End.blkX ?_
    refine End.seq ?_
    refine WC.seq ?_
    refine WC.region ?_
    refine WL.p rfl rfl rfl (P.assign rfl) ?_
    refine WL.nil_ ?_
    refine End.seq ?_
    refine WC.ret ?_
    refine End.ret1 rfl rfl ?_
    have e : k = xs.length := by omega
    rw [List.take_of_length_le (by omega)] at ht
    exact fun w' hs' => ⟨-1, by rw [ht]; rfl, rfl, hs'⟩

set_option maxRecDepth 100000 in
theorem containsFuncS_any (A : Option Addr) (c : Nat) (xs : List ByteArray) (g : Nat) (cap : Array Value) (p : ByteArray → Bool) (w : World) (hr : Sl encS 1 w A xs) (hp : Pred1 w g cap p) (hq : ∀ q ∈ xs, q.size < 4294967281) :
    Calls Tryz.prog 258 #[.slice A xs.length c, .func (.func g) #[] cap] w (RetV w (.bool (xs.any p))) := by
  refine enter Tryz.func258 rfl Tryz.ntmps258 rfl ?_
  refine WC.seq ?_
  refine WC.region ?_
  refine WL.p rfl rfl rfl (P.assign rfl) ?_
  refine WL.nil_ ?_
  refine End.seq ?_
  refine WC.seq ?_
  refine WC.region ?_
  refine WL.p rfl rfl rfl (P.move rfl) ?_
  refine WL.p rfl rfl rfl (P.move rfl) ?_
  refine WL.callx (ent_of Tryz.func300 rfl rfl) rfl rfl rfl (fun w hs => indexFuncS_any A c xs g cap p w (hr.st hs) ⟨hp.ent, fun q w' hb => hp.at_ q w' (hs.below.trans (hb.mono hs.size))⟩ hq) (fun i hi => ?_)
  refine WL.p rfl rfl rfl (P.cmp rfl rfl rfl) ?_
  refine WL.p rfl rfl rfl (P.assign rfl) ?_
  refine WL.nil_ ?_
  refine End.seq ?_
  refine WC.ret ?_
  refine End.ret1 rfl rfl ?_
  exact fun w' hs' => RetV.of (by rw [← hi]) hs'

def groupB (s : ByteArray) : Bool := decide (s.size ≤ 22) && (nameB s && !((parts s).any isGenQ))
theorem sl_row {w0 w : World} {H : List It} {j b : Nat} {xs : List ByteArray} (hs : St w0 H w) (hj : H[j]? = some (.blk b 9 (xs.map Value.string).toArray)) (hl : xs.length ≤ 140737488351232) : Sl encS 1 w (some ⟨b, 0, none⟩) xs :=
  ⟨hl, fun _ => ⟨b, 0, rfl, fun k x hx i u hu => by
    have hb := (hs.ok j _ hj).2
    cases i with
    | zero =>
      simp [encS] at hu
      subst hu
      rw [cell_blk hb]
      simp [hx]
    | succ i => simp [encS] at hu⟩⟩

set_option maxRecDepth 100000 in
theorem isGroup_any (s : ByteArray) (w : World) (hg : Good w) :
    Calls Tryz.prog 187 #[.string s] w (RetV w (.bool (groupB s))) := by
  refine enter Tryz.func187 rfl Tryz.ntmps187 rfl ?_
  refine WC.seq ?_
  refine WC.region ?_
  refine WL.p rfl rfl rfl (P.assign rfl) ?_
  refine WL.nil_ ?_
  refine End.seq ?_
  refine WC.seq ?_
  refine WC.region ?_
  refine WL.p rfl rfl rfl (P.move rfl) ?_
  refine WL.p rfl rfl rfl (P.lenS Tryz.underlying9 rfl) ?_
  refine WL.p rfl rfl rfl (P.cmp rfl rfl rfl) ?_
  refine WL.p rfl rfl rfl (P.move rfl) ?_
  refine WL.split 6 rfl (fun hs6 => ?_) (fun hs6 => ?_)
  ·
    try simp only [decide_eq_true_eq, decide_eq_false_iff_not, beq_iff_eq, beq_eq_false_iff_ne, bne_iff_ne, bne_eq_false_iff_eq, Bool.not_eq_true', Bool.not_eq_false', ne_eq, Int.not_lt, Int.not_le] at hs6
    refine WL.p rfl rfl rfl (P.move rfl) ?_
    refine WL.callv (ent_of Tryz.func76 rfl rfl) rfl rfl rfl (fun w hs => nameValid_any s w (hg.st hs)) ?_
    refine WL.p rfl rfl rfl (P.pickT rfl rfl) ?_
    refine WL.p rfl rfl rfl (P.move rfl) ?_
    refine WL.split 10 rfl (fun hs10 => ?_) (fun hs10 => ?_)
    ·
      try simp only [decide_eq_true_eq, decide_eq_false_iff_not, beq_iff_eq, beq_eq_false_iff_ne, bne_iff_ne, bne_eq_false_iff_eq, Bool.not_eq_true', Bool.not_eq_false', ne_eq, Int.not_lt, Int.not_le] at hs10
      refine WL.p rfl rfl rfl (P.move rfl) ?_
      refine WL.callx (ent_of Tryz.func107 rfl rfl) rfl rfl rfl (fun w hs => split_any s w (hg.st hs) (by omega)) (fun b _ => ?_)
      refine WL.callv (ent_of Tryz.func258 rfl rfl) rfl rfl rfl (fun w hs => containsFuncS_any _ _ _ 259 #[] _ w (sl_row hs (j := 0) rfl (by have := parts_le s; omega)) ⟨(isGroup1_pred w).ent, fun q w' _ h => isGroup1_any q w' h⟩ (fun q hq => by have := parts_size hq; omega)) ?_
      refine WL.p rfl rfl rfl (P.not_ rfl) ?_
      refine WL.p rfl rfl rfl (P.pickT rfl rfl) ?_
      refine WL.p rfl rfl rfl (P.assign rfl) ?_
      refine WL.nil_ ?_
      refine End.seq ?_
      refine WC.ret ?_
      refine End.ret1 rfl rfl ?_
      exact fun w' hs' => RetV.of (by rw [groupB, decide_eq_true (by omega : s.size ≤ 22), hs10]; rfl) hs'
    ·
      try simp only [decide_eq_true_eq, decide_eq_false_iff_not, beq_iff_eq, beq_eq_false_iff_ne, bne_iff_ne, bne_eq_false_iff_eq, Bool.not_eq_true', Bool.not_eq_false', ne_eq, Int.not_lt, Int.not_le] at hs10
      refine WL.off rfl rfl ?_
      refine WL.off rfl rfl ?_
      refine WL.off rfl rfl ?_
      refine WL.off rfl rfl ?_
      refine WL.p rfl rfl rfl (P.pickF rfl rfl) ?_
      refine WL.p rfl rfl rfl (P.assign rfl) ?_
      refine WL.nil_ ?_
      refine End.seq ?_
      refine WC.ret ?_
      refine End.ret1 rfl rfl ?_
      exact fun w' hs' => RetV.of (by rw [groupB, hs10]; simp) hs'
  ·
    try simp only [decide_eq_true_eq, decide_eq_false_iff_not, beq_iff_eq, beq_eq_false_iff_ne, bne_iff_ne, bne_eq_false_iff_eq, Bool.not_eq_true', Bool.not_eq_false', ne_eq, Int.not_lt, Int.not_le] at hs6
    refine WL.off rfl rfl ?_
    refine WL.off rfl rfl ?_
    refine WL.p rfl rfl rfl (P.pickF rfl rfl) ?_
    refine WL.p rfl rfl rfl (P.move rfl) ?_
    refine WL.off rfl rfl ?_
    refine WL.off rfl rfl ?_
    refine WL.off rfl rfl ?_
    refine WL.off rfl rfl ?_
    refine WL.p rfl rfl rfl (P.pickF rfl rfl) ?_
    refine WL.p rfl rfl rfl (P.assign rfl) ?_
    refine WL.nil_ ?_
    refine End.seq ?_
    refine WC.ret ?_
    refine End.ret1 rfl rfl ?_
    exact fun w' hs' => RetV.of (by rw [groupB, decide_eq_false (by omega : ¬ s.size ≤ 22)]; rfl) hs'

def wordB (s : ByteArray) : Bool := nameB s && !decide (0 ≤ Lib.indexByte s.data.toList 46)

set_option maxRecDepth 100000 in
theorem word_any (s : ByteArray) (w : World) (hg : Good w) :
    Calls Tryz.prog 202 #[.string s] w (RetV w (.bool (wordB s))) := by
  refine enter Tryz.func202 rfl Tryz.ntmps202 rfl ?_
  refine WC.seq ?_
  refine WC.region ?_
  refine WL.p rfl rfl rfl (P.assign rfl) ?_
  refine WL.nil_ ?_
  refine End.seq ?_
  refine WC.seq ?_
  refine WC.region ?_
  refine WL.p rfl rfl rfl (P.move rfl) ?_
  refine WL.callv (ent_of Tryz.func76 rfl rfl) rfl rfl rfl (fun w hs => nameValid_any s w (hg.st hs)) ?_
  refine WL.p rfl rfl rfl (P.move rfl) ?_
  refine WL.split 5 rfl (fun hs5 => ?_) (fun hs5 => ?_)
  ·
    refine WL.p rfl rfl rfl (P.move rfl) ?_
    refine WL.callv (ent_of Tryz.func192 rfl rfl) rfl rfl rfl (fun w hs => contains_any s 46 w) ?_
    refine WL.p rfl rfl rfl (P.not_ rfl) ?_
    refine WL.p rfl rfl rfl (P.pickT rfl rfl) ?_
    refine WL.p rfl rfl rfl (P.assign rfl) ?_
    refine WL.nil_ ?_
    refine End.seq ?_
    refine WC.ret ?_
    refine End.ret1 rfl rfl ?_
    exact fun w' hs' => RetV.of (by rw [wordB, hs5]; rfl) hs'
  ·
    refine WL.off rfl rfl ?_
    refine WL.off rfl rfl ?_
    refine WL.off rfl rfl ?_
    refine WL.p rfl rfl rfl (P.pickF rfl rfl) ?_
    refine WL.p rfl rfl rfl (P.assign rfl) ?_
    refine WL.nil_ ?_
    refine End.seq ?_
    refine WC.ret ?_
    refine End.ret1 rfl rfl ?_
    exact fun w' hs' => RetV.of (by rw [wordB, hs5]; rfl) hs'

end Go.Proofs.YtlkkiimmangplaaGreatDoor
