/- Parts: P29, P30, P27, P31, P32, P33, P34, P38, P39, P40, P41, P42, P43, P44, P45, L1, P16, P17, P18, L2, L4, L5, L8, P46, X0, X3, X4, P48, L6, V12. -/
import Derived.Test.YtlkkiimmangplaaGreatDoorTA3
import Derived.Lib.ItoaLen
import Derived.Lib.IndexBytes
import Derived.Lib.TrimByte
import Derived.HandedShaped
import Derived.Handed
import Derived.ChangeReads
import Derived.ChangeSame
import Derived.OpenShut
import Derived.ProofKit
import Derived.ChangeArms
import Derived.DataReads
/- A profile's fields in their ranges. -/
namespace Go.Proofs.YtlkkiimmangplaaGreatDoor
open Go.RowKit
set_option linter.unusedVariables false
set_option linter.unusedSimpArgs false

def grKey (g : Gr) : ByteArray × Bool := (g.who, g.group)
/-- The grants are right: one word each, a level in its range, none twice. -/
def grsOK (gs : List Gr) : List (ByteArray × Bool) → Bool
  | seen => match gs with
    | [] => true
    | g :: r => wordB g.who && (inB 0 3 [g.level] && (!inL seen (grKey g) && grsOK r (seen ++ [grKey g])))
theorem grsOK_take {gs : List Gr} {k : Nat} {g : Gr} (h : gs[k]? = some g) (seen : List (ByteArray × Bool)) : grsOK (gs.take (k + 1)) seen = (grsOK (gs.take k) seen && (wordB g.who && (inB 0 3 [g.level] && !inL (seen ++ (gs.take k).map grKey) (grKey g)))) := by
  induction gs generalizing seen k with
  | nil => cases h
  | cons x r ih =>
    cases k with
    | zero => simp at h; subst h; simp [grsOK]
    | succ k =>
      rw [List.take_succ_cons, List.take_succ_cons, grsOK, grsOK, ih (by simpa using h)]
      simp [Bool.and_assoc]
theorem grsOK_false {gs : List Gr} {k : Nat} {seen : List (ByteArray × Bool)} (h : grsOK (gs.take k) seen = false) : grsOK gs seen = false := by
  induction gs generalizing seen k with
  | nil => simp at h; exact h
  | cons x r ih =>
    cases k with
    | zero => simp [grsOK] at h
    | succ k =>
      rw [List.take_succ_cons, grsOK] at h
      rw [grsOK]
      cases h1 : wordB x.who with
      | false => rfl
      | true =>
        cases h2 : inB 0 3 [x.level] with
        | false => rfl
        | true =>
          cases h3 : (!inL seen (grKey x)) with
          | false => rfl
          | true =>
            rw [h1, h2, h3] at h
            simp only [Bool.true_and] at h ⊢
            exact ih h
def profOK (e : E) : Bool := grsOK e.grants [] && (inB 0 3 [e.level] && ((decide (e.owner = bempty) || wordB e.owner) && decide ((e.grants.length : Int) ≤ 8)))
theorem profOK_no {e : E} {k : Nat} (h : grsOK (e.grants.take k) [] = false) : profOK e = false := by rw [profOK, grsOK_false h]; rfl

set_option maxRecDepth 100000 in
theorem profOK_any (e : E) (va vg : Value) (w : World) (hg : Good w) (ha : EntAt w e va vg) :
    Calls Tryz.prog 213 #[.agg (e.cells va vg)] w (RetV w (.bool (profOK e))) := by
  obtain ⟨⟨A1, c1, rfl, hc1, hr1⟩, ⟨A2, c2, rfl, hc2, hr2⟩⟩ := ha
  refine enter Tryz.func213 rfl Tryz.ntmps213 rfl ?_
  refine WC.seq ?_
  refine WC.region ?_
  refine WL.box rfl rfl rfl (fun b1 => ?_)
  refine WL.p rfl rfl rfl (P.assign rfl) ?_
  refine WL.nil_ ?_
  refine End.seq ?_
  refine WC.seq ?_
  refine WC.region ?_
  refine WL.makeMap rfl rfl (fun b7 => ?_)
  refine WL.p rfl rfl rfl (P.assign rfl) ?_
  refine WL.nil_ ?_
  refine End.seq ?_
  refine WC.seq ?_
  refine WC.seq ?_
  refine WC.region ?_
  refine WL.p rfl rfl rfl (P.fieldAddr fa_34_12 rfl) ?_
  refine WL.p rfl rfl rfl (P.loadO 1 Tryz.isAgg32 rfl rfl rfl) ?_
  refine WL.p rfl rfl rfl (P.lenR Tryz.underlying32 rfl) ?_
  refine WL.p rfl rfl rfl (P.move rfl) ?_
  refine WL.nil_ ?_
  refine End.seq ?_
  refine WC.block ?_
  refine WC.loopD (σ := Nat × Array MapEntry × Nat) (fun (k, es, c) => [(11, .int .i64 (k : Nat))]) (fun (k, es, c) => [.map b7 es c, .blk b1 34 (e.cells (.slice A1 e.alt.length c1) (.slice A2 e.grants.length c2))]) (fun (k, es, c) => k ≤ e.grants.length ∧ grsOK (e.grants.take k) [] = true ∧ KeySet wkey es ((e.grants.take k).map grKey)) (fun (k, es, c) => e.grants.length - k) (0, #[], 0) ⟨Nat.zero_le _, rfl, KeySet.nil _⟩ (Env.sub_cons rfl (Env.sub_nil)) [0, 1] rfl rfl ?_
  rintro ⟨k, es, c⟩ ⟨hk, hok, hset⟩
  refine WC.seq ?_
  refine WC.region ?_
  refine WL.p rfl rfl rfl (P.cmp rfl rfl rfl) ?_
  refine WL.nil_ ?_
  refine End.seq ?_
  refine WC.seq ?_
  refine WC.cond rfl (fun hc12 => ?_) (fun hc12 => ?_)
  ·
    have hkl : k < e.grants.length := by have := of_decide_eq_true hc12; omega
    have hl2 := hr2.1
    obtain ⟨b, off, rfl, hcx⟩ := hr2.at_ (by have := of_decide_eq_true hc12; omega)
    obtain ⟨g, hx⟩ := get_of_lt (xs := e.grants) (k := k) (by have := of_decide_eq_true hc12; omega)
    refine WC.skip ?_
    refine End.seq ?_
    refine WC.seq ?_
    refine WC.block ?_
    refine WC.seq ?_
    refine WC.region ?_
    refine WL.p rfl rfl rfl (P.elemAddr Tryz.underlying32 Tryz.sizeOf51 rfl rfl (by omega) (by omega)) ?_
    refine WL.p rfl rfl rfl (P.loadBA (vs := g.cells.toArray) Tryz.isAgg51 Tryz.sizeOf51 rfl rfl (fun j v h => hcx k g hx j v (by simpa using h))) ?_
    refine WL.alloc Tryz.zeroValue51 rfl rfl (fun b5 => ?_)
    refine WL.storeW 0 Tryz.sizeOf51 rfl rfl rfl rfl rfl rfl rfl ?_
    refine WL.nil_ ?_
    refine End.seq ?_
    refine WC.seq ?_
    refine WC.region ?_
    refine WL.p rfl rfl rfl (P.fieldAddr fa_51_0 rfl) ?_
    refine WL.p rfl rfl rfl (P.loadO 0 Tryz.isAgg9 rfl rfl rfl) ?_
    refine WL.p rfl rfl rfl (P.fieldAddr fa_51_1 rfl) ?_
    refine WL.p rfl rfl rfl (P.loadO 0 Tryz.isAgg4 rfl rfl rfl) ?_
    refine WL.p rfl rfl rfl (P.build rfl (fun w => bo_281 Tryz.zeroValue281 (cs := #[_, _]) rfl rfl w)) ?_
    refine WL.alloc Tryz.zeroValue281 rfl rfl (fun b6 => ?_)
    refine WL.storeW 0 Tryz.sizeOf281 rfl rfl rfl rfl rfl rfl rfl ?_
    refine WL.nil_ ?_
    refine End.seq ?_
    refine WC.seq ?_
    refine WC.seq ?_
    refine WC.region ?_
    refine WL.p rfl rfl rfl (P.fieldAddr fa_51_0 rfl) ?_
    refine WL.p rfl rfl rfl (P.loadO 1 Tryz.isAgg9 rfl rfl rfl) ?_
    refine WL.callv (ent_of Tryz.func202 rfl rfl) rfl rfl rfl (fun w hs => word_any _ w (hg.st hs)) ?_
    refine WL.p rfl rfl rfl (P.not_ rfl) ?_
    refine WL.p rfl rfl rfl (P.move rfl) ?_
    refine WL.split 24 rfl (fun hs24 => ?_) (fun hs24 => ?_)
    ·
      refine WL.off rfl rfl ?_
      refine WL.off rfl rfl ?_
      refine WL.off rfl rfl ?_
      refine WL.off rfl rfl ?_
      refine WL.off rfl rfl ?_
      refine WL.p rfl rfl rfl (P.pickT rfl rfl) ?_
      refine WL.p rfl rfl rfl (P.move rfl) ?_
      refine WL.off rfl rfl ?_
      refine WL.off rfl rfl ?_
      refine WL.off rfl rfl ?_
      refine WL.p rfl rfl rfl (P.pickT rfl rfl) ?_
      refine WL.nil_ ?_
      refine End.seq ?_
      refine WC.condT rfl ?_
      refine WC.seq ?_
      refine WC.region ?_
      refine WL.p rfl rfl rfl (P.assign rfl) ?_
      refine WL.nil_ ?_
      refine End.seq ?_
      refine WC.ret ?_
      refine End.thenR ?_
      refine End.blkR ?_
      refine End.thenR ?_
      refine End.thenR ?_
      refine End.blkR ?_
      refine End.thenR ?_
      refine End.ret1 rfl rfl ?_
      exact fun w' hs' => RetV.of (by rw [profOK_no (k := k + 1) (by rw [grsOK_take hx, hok]; simp at hs24; simp [hs24])]) hs'
    ·
      refine WL.p rfl rfl rfl (P.fieldAddr fa_51_2 rfl) ?_
      refine WL.p rfl rfl rfl (P.loadO 1 Tryz.isAgg3 rfl rfl rfl) ?_
      refine WL.row Tryz.underlying22 Tryz.sizeOf3 Tryz.zeroValue3 rfl rfl rfl rfl rfl rfl rfl rfl rfl (fun b27 => ?_)
      refine WL.callv (ent_of Tryz.func201 rfl rfl) rfl rfl rfl (fun w hs => within_any 0 3 _ _ [g.level] w (slI_row hs (j := 0) rfl rfl (by simp))) ?_
      refine WL.p rfl rfl rfl (P.not_ rfl) ?_
      refine WL.p rfl rfl rfl (P.pickF rfl rfl) ?_
      refine WL.p rfl rfl rfl (P.move rfl) ?_
      refine WL.split 31 rfl (fun hs31 => ?_) (fun hs31 => ?_)
      ·
        refine WL.off rfl rfl ?_
        refine WL.off rfl rfl ?_
        refine WL.off rfl rfl ?_
        refine WL.p rfl rfl rfl (P.pickT rfl rfl) ?_
        refine WL.nil_ ?_
        refine End.seq ?_
        refine WC.condT rfl ?_
        refine WC.seq ?_
        refine WC.region ?_
        refine WL.p rfl rfl rfl (P.assign rfl) ?_
        refine WL.nil_ ?_
        refine End.seq ?_
        refine WC.ret ?_
        refine End.thenR ?_
        refine End.blkR ?_
        refine End.thenR ?_
        refine End.thenR ?_
        refine End.blkR ?_
        refine End.thenR ?_
        refine End.ret1 rfl rfl ?_
        exact fun w' hs' => RetV.of (by rw [profOK_no (k := k + 1) (by rw [grsOK_take hx, hok]; simp at hs24 hs31; simp [hs24, hs31])]) hs'
      ·
        refine WL.p rfl rfl rfl (P.move rfl) ?_
        refine WL.p rfl rfl rfl (P.loadW 1 Tryz.isAgg281 Tryz.sizeOf281 rfl rfl rfl) ?_
        refine WL.p rfl rfl rfl (P.hasKey 3 (grKey g) key281 Tryz.underlying279 Tryz.zeroValue4 rfl rfl rfl hset) ?_
        refine WL.p rfl rfl rfl (P.pickF rfl rfl) ?_
        refine WL.nil_ ?_
        refine End.seq ?_
        refine WC.cond rfl (fun hc35 => ?_) (fun hc35 => ?_)
        ·
          refine WC.seq ?_
          refine WC.region ?_
          refine WL.p rfl rfl rfl (P.assign rfl) ?_
          refine WL.nil_ ?_
          refine End.seq ?_
          refine WC.ret ?_
          refine End.thenR ?_
          refine End.blkR ?_
          refine End.thenR ?_
          refine End.thenR ?_
          refine End.blkR ?_
          refine End.thenR ?_
          refine End.ret1 rfl rfl ?_
          exact fun w' hs' => RetV.of (by rw [profOK_no (k := k + 1) (by rw [grsOK_take hx, hok, List.nil_append, hc35]; simp at hs24 hs31; simp [hs24, hs31])]) hs'
        ·
          refine WC.skip ?_
          refine End.seq ?_
          refine WC.region ?_
          refine WL.p rfl rfl rfl (P.move rfl) ?_
          refine WL.p rfl rfl rfl (P.loadW 1 Tryz.isAgg281 Tryz.sizeOf281 rfl rfl rfl) ?_
          refine WL.putKey 3 (grKey g) key281 Tryz.underlying279 rfl rfl rfl rfl rfl hset (fun es' c' hset' => ?_)
          refine WL.nil_ ?_
          refine End.blkN ?_
          refine End.seq ?_
          refine WC.region ?_
          refine WL.p rfl rfl rfl (P.ari64 rfl rfl rfl (by omega)) ?_
          refine WL.p rfl rfl rfl (P.move rfl) ?_
          refine WL.nil_ ?_
          refine End.againD (k + 1, es', c') ?_ ?_ rfl (Env.sub_cons rfl (Env.sub_nil)) rfl [3, 4] rfl rfl
          · exact ⟨by omega, by rw [grsOK_take hx, hok, List.nil_append, hc35]; simp at hs24 hs31; simp [hs24, hs31], by rw [take_snoc hx, List.map_append]; exact hset'⟩
          · show e.grants.length - (k + 1) < e.grants.length - k; omega
  ·
    have hokF : grsOK e.grants [] = true := by rw [List.take_of_length_le (by have := of_decide_eq_false hc12; omega)] at hok; exact hok
    refine WC.exit ?_
    refine End.thenX ?_
    refine End.thenX ?_
    refine End.blkX ?_
    refine End.seq ?_
    refine WC.seq ?_
    refine WC.region ?_
    refine WL.p rfl rfl rfl (P.fieldAddr fa_34_11 rfl) ?_
    refine WL.p rfl rfl rfl (P.loadO 1 Tryz.isAgg3 rfl rfl rfl) ?_
    refine WL.row Tryz.underlying22 Tryz.sizeOf3 Tryz.zeroValue3 rfl rfl rfl rfl rfl rfl rfl rfl rfl (fun b41 => ?_)
    refine WL.callv (ent_of Tryz.func201 rfl rfl) rfl rfl rfl (fun w hs => within_any 0 3 _ _ [e.level] w (slI_row hs (j := 0) rfl rfl (by simp))) ?_
    refine WL.p rfl rfl rfl (P.move rfl) ?_
    refine WL.split 43 rfl (fun hs43 => ?_) (fun hs43 => ?_)
    ·
      refine WL.p rfl rfl rfl (P.fieldAddr fa_34_8 rfl) ?_
      refine WL.p rfl rfl rfl (P.loadO 2 Tryz.isAgg9 rfl rfl rfl) ?_
      refine WL.p rfl rfl rfl (P.cmps rfl rfl rfl) ?_
      refine WL.p rfl rfl rfl (P.move rfl) ?_
      refine WL.split 47 rfl (fun hs47 => ?_) (fun hs47 => ?_)
      ·
        refine WL.off rfl rfl ?_
        refine WL.off rfl rfl ?_
        refine WL.off rfl rfl ?_
        refine WL.p rfl rfl rfl (P.pickT rfl rfl) ?_
        refine WL.p rfl rfl rfl (P.pickT rfl rfl) ?_
        refine WL.p rfl rfl rfl (P.move rfl) ?_
        refine WL.p rfl rfl rfl (P.fieldAddr fa_34_12 rfl) ?_
        refine WL.p rfl rfl rfl (P.loadO 2 Tryz.isAgg32 rfl rfl rfl) ?_
        refine WL.p rfl rfl rfl (P.lenR Tryz.underlying32 rfl) ?_
        refine WL.p rfl rfl rfl (P.cmp rfl rfl rfl) ?_
        refine WL.p rfl rfl rfl (P.pickT rfl rfl) ?_
        refine WL.p rfl rfl rfl (P.assign rfl) ?_
        refine WL.nil_ ?_
        refine End.seq ?_
        refine WC.ret ?_
        refine End.ret1 rfl rfl ?_
        exact fun w' hs' => RetV.of (by rw [profOK, hokF, hs43, owner_eq hs47]; rfl) hs'
      ·
        refine WL.p rfl rfl rfl (P.fieldAddr fa_34_8 rfl) ?_
        refine WL.p rfl rfl rfl (P.loadO 2 Tryz.isAgg9 rfl rfl rfl) ?_
        refine WL.callv (ent_of Tryz.func202 rfl rfl) rfl rfl rfl (fun w hs => word_any _ w (hg.st hs)) ?_
        refine WL.p rfl rfl rfl (P.pickF rfl rfl) ?_
        refine WL.p rfl rfl rfl (P.pickT rfl rfl) ?_
        refine WL.p rfl rfl rfl (P.move rfl) ?_
        refine WL.split 53 rfl (fun hs53 => ?_) (fun hs53 => ?_)
        ·
          refine WL.p rfl rfl rfl (P.fieldAddr fa_34_12 rfl) ?_
          refine WL.p rfl rfl rfl (P.loadO 2 Tryz.isAgg32 rfl rfl rfl) ?_
          refine WL.p rfl rfl rfl (P.lenR Tryz.underlying32 rfl) ?_
          refine WL.p rfl rfl rfl (P.cmp rfl rfl rfl) ?_
          refine WL.p rfl rfl rfl (P.pickT rfl rfl) ?_
          refine WL.p rfl rfl rfl (P.assign rfl) ?_
          refine WL.nil_ ?_
          refine End.seq ?_
          refine WC.ret ?_
          refine End.ret1 rfl rfl ?_
          exact fun w' hs' => RetV.of (by rw [profOK, hokF, hs43, owner_ne hs47, hs53]; rfl) hs'
        ·
          refine WL.off rfl rfl ?_
          refine WL.off rfl rfl ?_
          refine WL.off rfl rfl ?_
          refine WL.off rfl rfl ?_
          refine WL.p rfl rfl rfl (P.pickF rfl rfl) ?_
          refine WL.p rfl rfl rfl (P.assign rfl) ?_
          refine WL.nil_ ?_
          refine End.seq ?_
          refine WC.ret ?_
          refine End.ret1 rfl rfl ?_
          exact fun w' hs' => RetV.of (by rw [profOK, hokF, hs43, owner_ne hs47, hs53]; rfl) hs'
    ·
      refine WL.off rfl rfl ?_
      refine WL.off rfl rfl ?_
      refine WL.off rfl rfl ?_
      refine WL.off rfl rfl ?_
      refine WL.offU rfl rfl ?_
      refine WL.offU rfl rfl ?_
      refine WL.offU rfl rfl ?_
      refine WL.off rfl rfl ?_
      refine WL.p rfl rfl rfl (P.pickF rfl rfl) ?_
      refine WL.p rfl rfl rfl (P.move rfl) ?_
      refine WL.off rfl rfl ?_
      refine WL.off rfl rfl ?_
      refine WL.off rfl rfl ?_
      refine WL.off rfl rfl ?_
      refine WL.p rfl rfl rfl (P.pickF rfl rfl) ?_
      refine WL.p rfl rfl rfl (P.assign rfl) ?_
      refine WL.nil_ ?_
      refine End.seq ?_
      refine WC.ret ?_
      refine End.ret1 rfl rfl ?_
      exact fun w' hs' => RetV.of (by rw [profOK, hokF, hs43]; rfl) hs'

end Go.Proofs.YtlkkiimmangplaaGreatDoor

/- The entries of any kind. -/
namespace Go.Proofs.YtlkkiimmangplaaGreatDoor
open Go.RowKit
set_option linter.unusedVariables false
set_option linter.unusedSimpArgs false

/-- A kind of entries: its letter, its functions, and what they do. -/
structure KF where
  kind : Int
  L : Int
  N : Nat
  g : Nat
  V : Nat
  nm : ByteArray → Bool
  ok : E → Bool
  out : ByteArray → E → ByteArray
  rd : E → Rd → E × Rd
  it : Nat → E → It
  va : Nat → E → Value
  vg : Nat → E → Value
abbrev KF.form (F : KF) : Array Value := #[.int .u8 F.L, .func (.func F.N) #[] #[], .func (.func F.g) #[] #[], .func (.func F.V) #[] #[]]
structure KF.Law (F : KF) : Prop where
  entN : Ent F.N
  entg : Ent F.g
  entV : Ent F.V
  form : ∃ i, Instr.findNow (.int .i64) (.int .i64 F.kind) formsEs.toList 0 = some (some (i, .agg F.form))
  name : ∀ (s : ByteArray) (w : World), Good w → s.size < 4294967281 → Calls Tryz.prog F.N #[.string s] w (RetV w (.bool (F.nm s)))
  okL : ∀ (e : E) (va vg : Value) (w : World), Good w → EntAt w e va vg → Calls Tryz.prog F.V #[.agg (e.cells va vg)] w (RetV w (.bool (F.ok e)))
  size : ∀ (e : E) (out : ByteArray), F.ok e = true → (F.out out e).size < out.size + 100000
  write : ∀ (e : E) (va vg : Value) (w0 : World), F.ok e = true → EntAt w0 e va vg → ∀ (c q : Nat) (out : ByteArray) (H : List It) (w : World), out.size < 1000 → St w0 (cB c out none :: .blk q 34 (e.cells va vg) :: H) w →
    Calls Tryz.prog F.g #[.pointer (some ⟨c, 0, none⟩), .pointer (some ⟨q, 0, none⟩)] w (Mo w0 (.tuple #[]) (cB c (F.out out e) none :: .blk q 34 (e.cells va vg) :: H))
  read : ∀ (e : E) (x : Rd), e.alt = [] → e.grants = [] → x.1.size < 4294967296 → ∀ (r c q : Nat) (out : ByteArray) (w0 : World) (H : List It) (w : World), St w0 (rdB r x :: cB c out (some ⟨r, 0, none⟩) :: .blk q 34 (e.cells vnil vnil) :: H) w →
    Calls Tryz.prog F.g #[.pointer (some ⟨c, 0, none⟩), .pointer (some ⟨q, 0, none⟩)] w (fun en w' => ∃ s : Nat, en = .returned (.tuple #[]) ∧ St w0 (rdB r (F.rd e x).2 :: cB c out (some ⟨r, 0, none⟩) :: F.it s (F.rd e x).1 :: .blk q 34 ((F.rd e x).1.cells (F.va s (F.rd e x).1) (F.vg s (F.rd e x).1)) :: H) w')
  at_ : ∀ (s j : Nat) (e e0 : E) (x : Rd) (H : List It) (w0 w : World), e = (F.rd e0 x).1 → e0.alt = [] → e0.grants = [] → St w0 H w → H[j]? = some (F.it s e) → EntAt w e (F.va s e) (F.vg s e)
  keep : ∀ (e : E) (x : Rd), (F.rd e x).1.kind = e.kind ∧ (F.rd e x).1.name = e.name
  letter : 0 ≤ F.L ∧ F.L < 256
  one : ∀ (s : Nat) (e : E), (F.va s e).oneCell' = true ∧ (F.vg s e).oneCell' = true
/-- An entry that has its kind and name alone. -/
def E.bare0 (e : E) : E := { E.zero with kind := e.kind, name := e.name }

set_option maxRecDepth 100000 in
theorem body_any (F : KF) (hF : F.Law) (e : E) (va vg : Value) (w : World) (hok : F.ok e = true) (ha : EntAt w e va vg) :
    Calls Tryz.prog 140 #[.agg F.form, .agg (e.cells va vg)] w (RetV w (.string (F.out bempty e))) := by
  refine enter Tryz.func140 rfl Tryz.ntmps140 rfl ?_
  refine WC.seq ?_
  refine WC.region ?_
  refine WL.box rfl rfl rfl (fun b2 => ?_)
  refine WL.box rfl rfl rfl (fun b3 => ?_)
  refine WL.p rfl rfl rfl (P.assign rfl) ?_
  refine WL.nil_ ?_
  refine End.seq ?_
  refine WC.seq ?_
  refine WC.region ?_
  refine WL.p rfl rfl rfl (P.build rfl (fun w => bo_155 Tryz.zeroValue155 (cs := #[_, _]) rfl rfl w)) ?_
  refine WL.box rfl rfl rfl (fun b7 => ?_)
  refine WL.p rfl rfl rfl (P.assign rfl) ?_
  refine WL.nil_ ?_
  refine End.seq ?_
  refine WC.seq ?_
  refine WC.region ?_
  refine WL.p rfl rfl rfl (P.fieldAddr fa_128_2 rfl) ?_
  refine WL.p rfl rfl rfl (P.loadO 2 Tryz.isAgg126 rfl rfl rfl) ?_
  refine WL.p rfl rfl rfl (P.move rfl) ?_
  refine WL.callco (H' := _) hF.entg rfl rfl rfl rfl (fun w hs => by rw [Array.append_empty]; exact hF.write e va vg _ hok ha b7 b3 bempty _ w (by decide) hs) ?_
  refine WL.nil_ ?_
  refine End.seq ?_
  refine WC.seq ?_
  refine WC.region ?_
  refine WL.p rfl rfl rfl (P.move rfl) ?_
  refine WL.p rfl rfl rfl (P.nilCheck rfl) ?_
  refine WL.p rfl rfl rfl (P.fieldAddr fa_155_0 rfl) ?_
  refine WL.p rfl rfl rfl (P.loadO 0 Tryz.isAgg9 rfl rfl rfl) ?_
  refine WL.p rfl rfl rfl (P.assign rfl) ?_
  refine WL.nil_ ?_
  refine End.seq ?_
  refine WC.ret ?_
  refine End.ret1 rfl rfl ?_
  exact fun w' hs' => RetV.of rfl hs'

abbrev KF.re (F : KF) (e : E) : E × Rd := F.rd e.bare0 (F.out bempty e, 0)

set_option maxRecDepth 100000 in
theorem bare_any (F : KF) (hF : F.Law) (e : E) (A A' : Option Addr) (m c m' c' : Nat) (w : World) (hok : F.ok e = true) (ha : EntAt w e (.slice A m c) (.slice A' m' c')) :
    Calls Tryz.prog 115 #[.agg F.form, .agg (e.cells (.slice A m c) (.slice A' m' c'))] w (Ret w (fun _ : Nat => True) (fun s => .tuple #[.agg ((F.re e).1.cells (F.va s (F.re e).1) (F.vg s (F.re e).1)), .bool (decide ((F.re e).2.end_ = 0))]) (fun s => [F.it s (F.re e).1])) := by
  refine enter Tryz.func115 rfl Tryz.ntmps115 rfl ?_
  refine WC.seq ?_
  refine WC.region ?_
  refine WL.box rfl rfl rfl (fun b2 => ?_)
  refine WL.box rfl rfl rfl (fun b3 => ?_)
  refine WL.alloc Tryz.zeroValue34 rfl rfl (fun b4 => ?_)
  refine WL.p rfl rfl rfl (P.assign rfl) ?_
  refine WL.nil_ ?_
  refine End.seq ?_
  refine WC.seq ?_
  refine WC.region ?_
  refine WL.p rfl rfl rfl (P.fieldAddr fa_34_0 rfl) ?_
  refine WL.p rfl rfl rfl (P.loadO 1 Tryz.isAgg3 rfl rfl rfl) ?_
  refine WL.p rfl rfl rfl (P.fieldAddr fa_34_1 rfl) ?_
  refine WL.p rfl rfl rfl (P.loadO 1 Tryz.isAgg9 rfl rfl rfl) ?_
  refine WL.p rfl rfl rfl (P.build rfl (fun w => bo_34 Tryz.zeroValue34 (cs := #[_, _, _, _, _, _, _, _, _, _, _, _, _, _, _, _, _, _, _, _, _, _, _, _, _, _, _, _, _, _, _, _, _]) rfl rfl w)) ?_
  refine WL.alloc Tryz.zeroValue34 rfl rfl (fun b6 => ?_)
  refine WL.storeW 0 Tryz.sizeOf34 rfl rfl rfl rfl rfl rfl rfl ?_
  refine WL.nil_ ?_
  refine End.seq ?_
  refine WC.seq ?_
  refine WC.region ?_
  refine WL.p rfl rfl rfl (P.loadW 3 Tryz.isAgg128 Tryz.sizeOf128 rfl rfl rfl) ?_
  refine WL.p rfl rfl rfl (P.loadW 2 Tryz.isAgg34 Tryz.sizeOf34 rfl rfl rfl) ?_
  refine WL.callv (ent_of Tryz.func140 rfl rfl) rfl rfl rfl (fun w hs => body_any F hF e _ _ w hok (ha.st hs)) ?_
  refine WL.callx (ent_of Tryz.func143 rfl rfl) rfl rfl rfl (fun w hs => newReader_any (F.out bempty e) w) (fun r _ => ?_)
  refine WL.p rfl rfl rfl (P.build rfl (fun w => bo_155 Tryz.zeroValue155 (cs := #[_, _]) rfl rfl w)) ?_
  refine WL.box rfl rfl rfl (fun b18 => ?_)
  refine WL.p rfl rfl rfl (P.assign rfl) ?_
  refine WL.nil_ ?_
  refine End.seq ?_
  refine WC.seq ?_
  refine WC.region ?_
  refine WL.p rfl rfl rfl (P.fieldAddr fa_128_2 rfl) ?_
  refine WL.p rfl rfl rfl (P.loadO 5 Tryz.isAgg126 rfl rfl rfl) ?_
  refine WL.p rfl rfl rfl (P.move rfl) ?_
  refine WL.callG (α := Nat) (S := fun _ => True) (v := fun _ => .tuple #[]) (H' := fun s => (rdB r (F.re e).2 :: cB b18 bempty (some ⟨r, 0, none⟩) :: F.it s (F.re e).1 :: .blk b6 34 ((F.re e).1.cells (F.va s (F.re e).1) (F.vg s (F.re e).1)) :: _)) hF.entg rfl rfl rfl rfl rfl rfl (fun w hs => by rw [Array.append_empty]; exact (hF.read e.bare0 (F.out bempty e, 0) rfl rfl (by have := hF.size e bempty hok; have : bempty.size = 0 := rfl; show (F.out bempty e).size < _; omega) r b18 b6 bempty _ _ w hs.swap2).mono (fun en w' h => by obtain ⟨s, h1, h2⟩ := h; exact ⟨s, trivial, h1, h2⟩)) (fun s3 _ => ?_)
  refine WL.nil_ ?_
  refine End.seq ?_
  refine WC.seq ?_
  apply WC.draws (al := []) (vs := [_, _, _, _, _, _, _, fun _ => undef, _]) (Hs := fun v HH b s => (bwh (b 7) (cellsOf (v 0 s)) HH 4)) (by kernel_rfl) (by kernel_rfl) (by kernel_rfl)
  case steps =>
    refine Stps.cons (Stp.p (fun b s hd => ⟨_, ⟨rfl, P.loadW 3 Tryz.isAgg34 Tryz.sizeOf34 rfl rfl rfl⟩, rfl, rfl⟩)) ?_
    refine Stps.cons (Stp.p (fun b s hd => ⟨_, ⟨rfl, P.move rfl⟩, rfl, rfl⟩)) ?_
    refine Stps.cons (Stp.p (fun b s hd => ⟨_, ⟨rfl, P.nilCheck rfl⟩, rfl, rfl⟩)) ?_
    refine Stps.cons (Stp.p (fun b s hd => ⟨_, ⟨rfl, P.fieldAddr fa_155_1 rfl⟩, rfl, rfl⟩)) ?_
    refine Stps.cons (Stp.p (fun b s hd => ⟨_, ⟨rfl, P.loadO 1 Tryz.isAgg152 rfl rfl rfl⟩, rfl, rfl⟩)) ?_
    refine Stps.cons (Stp.callv (ent_of Tryz.func144 rfl rfl) (fun b s hd => ⟨_, _, rfl, rfl, fun w hs => end_st hs (j := 0) rfl, rfl, rfl⟩)) ?_
    refine Stps.cons (Stp.p (fun b s hd => ⟨_, ⟨rfl, P.cmp rfl rfl rfl⟩, rfl, rfl⟩)) ?_
    refine Stps.cons (Stp.storeW 4 Tryz.sizeOf34 (fun b s hd => ⟨true, _, _, _, _, _, rfl, rfl, rfl, (E.one _ (hF.one _ _).1 (hF.one _ _).2), rfl, rfl, rfl, rfl, rfl, rfl⟩)) ?_
    refine Stps.cons (Stp.p (fun b s hd => ⟨_, ⟨rfl, P.assign rfl⟩, rfl, rfl⟩)) ?_
    exact Stps.nil
  case h0 => exact fun s => rfl
  case agree => exact AgrAll.nil
  intro s4
  refine End.shape (ρ' := [(0, _), (1, _), (2, _), (3, _), (4, _), (5, _), (6, _), (7, _), (8, _), (9, _), (10, _), (11, _), (12, _), (13, _), (14, _), (15, _), (16, _), (17, _), (18, _), (19, _), (20, _), (21, _), (22, _), (23, _), (24, _), (25, _), (26, _), (27, _), (28, _), (29, _)]) (H' := [_, _, _, _, .blk _ _ #[_, _, _, _, _, _, _, _, _, _, _, _, _, _, _, _, _, _, _, _, _, _, _, _, _, _, _, _, _, _, _, _, _], _, _]) (Env.sub_cons rfl (Env.sub_cons rfl (Env.sub_cons rfl (Env.sub_cons rfl (Env.sub_cons rfl (Env.sub_cons rfl (Env.sub_cons rfl (Env.sub_cons rfl (Env.sub_cons rfl (Env.sub_cons rfl (Env.sub_cons rfl (Env.sub_cons rfl (Env.sub_cons rfl (Env.sub_cons rfl (Env.sub_cons rfl (Env.sub_cons rfl (Env.sub_cons rfl (Env.sub_cons rfl (Env.sub_cons rfl (Env.sub_cons rfl (Env.sub_cons rfl (Env.sub_cons rfl (Env.sub_cons rfl (Env.sub_cons rfl (Env.sub_cons rfl (Env.sub_cons rfl (Env.sub_cons rfl (Env.sub_cons rfl (Env.sub_cons rfl (Env.sub_cons rfl (Env.sub_nil))))))))))))))))))))))))))))))) rfl ?_
  refine End.seq ?_
  refine WC.ret ?_
  refine End.retCT 4 rfl Tryz.isAgg34 Tryz.sizeOf34 rfl rfl rfl rfl ?_
  exact fun w' hs' => ⟨s3, trivial, rfl, hs'.sel [2] rfl⟩

/-- An entry of this kind is valid. -/
def KF.valid (F : KF) (e : E) : Bool := F.nm e.name && (F.ok e && (decide ((F.re e).2.end_ = 0) && decide ((F.re e).1 = e)))

set_option maxRecDepth 100000 in
theorem valid_any (F : KF) (hF : F.Law) (e : E) (va vg : Value) (w : World) (hg : Good w) (hk : e.kind = F.kind) (ha : EntAt w e va vg) (hsz : e.name.size < 4294967281) :
    Calls Tryz.prog 47 #[.agg (e.cells va vg)] w (RetV w (.bool (F.valid e))) := by
  have ha0 := ha
  obtain ⟨fi, hfi⟩ := hF.form
  obtain ⟨⟨A1, c1, rfl, hc1, hr1⟩, ⟨A2, c2, rfl, hc2, hr2⟩⟩ := ha
  refine enter Tryz.func47 rfl Tryz.ntmps47 rfl ?_
  refine WC.seq ?_
  refine WC.region ?_
  refine WL.box rfl rfl rfl (fun b1 => ?_)
  refine WL.p rfl rfl rfl (P.assign rfl) ?_
  refine WL.nil_ ?_
  refine End.seq ?_
  refine WC.seq ?_
  refine WC.nil1 ?_
  refine WC.nil1 ?_
  apply WC.draws (al := [0, 7]) (vs := [fun s => .map (some (s 0).1), _, _, fun _ => .tuple #[.agg F.form, .bool true], _, fun _ => .agg F.form, _, fun s => .pointer (some ⟨(s 7).1, 0, none⟩), fun _ => undef, _]) (Hs := fun v HH b s => (bnew (b 7) (It.blk (s 7).1 128 (bif b 8 then cellsOf (v 5 s) else #[.int .u8 0, .nilFunc, .nilFunc, .nilFunc])) (bnew (b 0) (It.map (s 0).1 formsEs 5) HH 0) 1)) (by kernel_rfl) (by kernel_rfl) (by kernel_rfl)
  case steps =>
    refine Stps.cons (Stp.callx 0 (ent_of Tryz.func114 rfl rfl) rfl (fun b s hb hd => ⟨_, _, _, _, rfl, rfl, fun w hs => forms_any w, fun q => rfl, ⟨_, rfl⟩, fun q => rfl⟩)) ?_
    refine Stps.cons (Stp.p (fun b s hd => ⟨_, ⟨rfl, P.fieldAddr fa_34_0 rfl⟩, rfl, rfl⟩)) ?_
    refine Stps.cons (Stp.p (fun b s hd => ⟨_, ⟨rfl, P.loadO 2 Tryz.isAgg3 rfl rfl rfl⟩, rfl, rfl⟩)) ?_
    refine Stps.cons (Stp.on [0] (by kernel_rfl) (Stp.p (fun b s hd => ⟨_, ⟨rfl, P.lookup2 0 (key := .int .i64 e.kind) (v := .agg F.form) (i := fi) Tryz.underlying130 Tryz.underlying3 (by simp [MapKept.IsKey]) rfl rfl rfl (by rw [hk]; exact hfi)⟩, rfl, rfl⟩))) ?_
    refine Stps.cons (Stp.p (fun b s hd => ⟨_, ⟨rfl, P.move rfl⟩, rfl, rfl⟩)) ?_
    refine Stps.cons (Stp.p (fun b s hd => ⟨_, ⟨rfl, P.extract rfl rfl⟩, rfl, rfl⟩)) ?_
    refine Stps.cons (Stp.p (fun b s hd => ⟨_, ⟨rfl, P.extract rfl rfl⟩, rfl, rfl⟩)) ?_
    refine Stps.cons (Stp.off [8] (by kernel_rfl) (Stp.alloc 1 Tryz.zeroValue128 rfl (fun b s q => ⟨rfl, rfl, _, rfl, fun hb => rfl⟩))) ?_
    refine Stps.cons (Stp.storeW 1 Tryz.sizeOf128 (fun b s hd => ⟨b 7, _, _, _, _, _, rfl, rfl, rfl, rfl, rfl, rfl, hd 7 (by decide), rfl, rfl, rfl⟩)) ?_
    refine Stps.cons (Stp.p (fun b s hd => ⟨_, ⟨rfl, P.assign rfl⟩, rfl, rfl⟩)) ?_
    exact Stps.nil
  case h0 => exact fun s => rfl
  case agree => exact AgrAll.cons (AgrL.yes (by kernel_rfl) (AgrL.no (fun s x => rfl) (AgrL.no (fun s x => rfl) (AgrL.yes (by kernel_rfl) (AgrL.yes (by kernel_rfl) (AgrL.yes (by kernel_rfl) (AgrL.yes (by kernel_rfl) (AgrL.no (fun s x => rfl) (AgrL.yes (by kernel_rfl) (AgrL.yes (by kernel_rfl) (AgrL.nil))))))))))) (AgrAll.cons (AgrL.no (fun s x => rfl) (AgrL.no (fun s x => rfl) (AgrL.no (fun s x => rfl) (AgrL.no (fun s x => rfl) (AgrL.no (fun s x => rfl) (AgrL.no (fun s x => rfl) (AgrL.no (fun s x => rfl) (AgrL.yes (by kernel_rfl) (AgrL.yes (by kernel_rfl) (AgrL.yes (by kernel_rfl) (AgrL.nil))))))))))) (AgrAll.nil))
  intro s1
  refine End.shape (ρ' := [(0, _), (1, _), (2, _), (3, _), (4, _), (6, _), (7, _), (8, _), (9, _), (10, _), (11, _), (12, _)]) (H' := [_, .blk _ _ #[_, _, _, _], _]) (Env.sub_cons rfl (Env.sub_cons rfl (Env.sub_cons rfl (Env.sub_cons rfl (Env.sub_cons rfl (Env.sub_cons rfl (Env.sub_cons rfl (Env.sub_cons rfl (Env.sub_cons rfl (Env.sub_cons rfl (Env.sub_cons rfl (Env.sub_cons rfl (Env.sub_nil))))))))))))) rfl ?_
  refine End.seq ?_
  refine WC.seq ?_
  refine WC.seq ?_
  refine WC.region ?_
  refine WL.p rfl rfl rfl (P.move rfl) ?_
  refine WL.p rfl rfl rfl (P.not_ rfl) ?_
  refine WL.p rfl rfl rfl (P.move rfl) ?_
  refine WL.split 15 rfl (fun hs15 => ?_) (fun hs15 => ?_)
  ·
    try simp only [decide_eq_true_eq, decide_eq_false_iff_not, beq_iff_eq, beq_eq_false_iff_ne, bne_iff_ne, bne_eq_false_iff_eq, Bool.not_eq_true', Bool.not_eq_false', ne_eq, Int.not_lt, Int.not_le] at hs15
    cases hs15
  ·
    try simp only [decide_eq_true_eq, decide_eq_false_iff_not, beq_iff_eq, beq_eq_false_iff_ne, bne_iff_ne, bne_eq_false_iff_eq, Bool.not_eq_true', Bool.not_eq_false', ne_eq, Int.not_lt, Int.not_le] at hs15
    refine WL.p rfl rfl rfl (P.fieldAddr fa_128_1 rfl) ?_
    refine WL.p rfl rfl rfl (P.loadO 1 Tryz.isAgg67 rfl rfl rfl) ?_
    refine WL.p rfl rfl rfl (P.fieldAddr fa_34_1 rfl) ?_
    refine WL.p rfl rfl rfl (P.loadO 2 Tryz.isAgg9 rfl rfl rfl) ?_
    refine WL.callc hF.entN rfl rfl rfl rfl (fun w hs => by rw [Array.append_empty]; exact hF.name e.name w (hg.st hs) hsz) ?_
    refine WL.p rfl rfl rfl (P.not_ rfl) ?_
    refine WL.p rfl rfl rfl (P.pickF rfl rfl) ?_
    refine WL.p rfl rfl rfl (P.move rfl) ?_
    refine WL.split 23 rfl (fun hs23 => ?_) (fun hs23 => ?_)
    ·
      try simp only [decide_eq_true_eq, decide_eq_false_iff_not, beq_iff_eq, beq_eq_false_iff_ne, bne_iff_ne, bne_eq_false_iff_eq, Bool.not_eq_true', Bool.not_eq_false', ne_eq, Int.not_lt, Int.not_le] at hs23
      refine WL.off rfl rfl ?_
      refine WL.off rfl rfl ?_
      refine WL.off rfl rfl ?_
      refine WL.off rfl rfl ?_
      refine WL.off rfl rfl ?_
      refine WL.p rfl rfl rfl (P.pickT rfl rfl) ?_
      refine WL.nil_ ?_
      refine End.seq ?_
      refine WC.condT rfl ?_
      refine WC.seq ?_
      refine WC.region ?_
      refine WL.p rfl rfl rfl (P.assign rfl) ?_
      refine WL.nil_ ?_
      refine End.seq ?_
      refine WC.ret ?_
      refine End.thenR ?_
      refine End.ret1 rfl rfl ?_
      exact fun w' hs' => RetV.of (by rw [KF.valid, hs23]; rfl) hs'
    ·
      try simp only [decide_eq_true_eq, decide_eq_false_iff_not, beq_iff_eq, beq_eq_false_iff_ne, bne_iff_ne, bne_eq_false_iff_eq, Bool.not_eq_true', Bool.not_eq_false', ne_eq, Int.not_lt, Int.not_le] at hs23
      refine WL.p rfl rfl rfl (P.fieldAddr fa_128_3 rfl) ?_
      refine WL.p rfl rfl rfl (P.loadO 1 Tryz.isAgg58 rfl rfl rfl) ?_
      refine WL.p rfl rfl rfl (P.loadW 2 Tryz.isAgg34 Tryz.sizeOf34 rfl rfl rfl) ?_
      refine WL.callc hF.entV rfl rfl rfl rfl (fun w hs => by rw [Array.append_empty]; exact hF.okL e _ _ w (hg.st hs) (ha0.st hs)) ?_
      refine WL.p rfl rfl rfl (P.not_ rfl) ?_
      refine WL.p rfl rfl rfl (P.pickF rfl rfl) ?_
      refine WL.nil_ ?_
      refine End.seq ?_
      refine WC.cond rfl (fun hc29 => ?_) (fun hc29 => ?_)
      ·
        try simp only [decide_eq_true_eq, decide_eq_false_iff_not, beq_iff_eq, beq_eq_false_iff_ne, bne_iff_ne, bne_eq_false_iff_eq, Bool.not_eq_true', Bool.not_eq_false', ne_eq, Int.not_lt, Int.not_le] at hc29
        refine WC.seq ?_
        refine WC.region ?_
        refine WL.p rfl rfl rfl (P.assign rfl) ?_
        refine WL.nil_ ?_
        refine End.seq ?_
        refine WC.ret ?_
        refine End.thenR ?_
        refine End.ret1 rfl rfl ?_
        exact fun w' hs' => RetV.of (by rw [KF.valid, hc29, Bool.false_and, Bool.and_false]) hs'
      ·
        try simp only [decide_eq_true_eq, decide_eq_false_iff_not, beq_iff_eq, beq_eq_false_iff_ne, bne_iff_ne, bne_eq_false_iff_eq, Bool.not_eq_true', Bool.not_eq_false', ne_eq, Int.not_lt, Int.not_le] at hc29
        refine WC.skip ?_
        refine End.seq ?_
        refine WC.seq ?_
        refine WC.region ?_
        refine WL.p rfl rfl rfl (P.loadW 1 Tryz.isAgg128 Tryz.sizeOf128 rfl rfl rfl) ?_
        refine WL.p rfl rfl rfl (P.loadW 2 Tryz.isAgg34 Tryz.sizeOf34 rfl rfl rfl) ?_
        refine WL.callx (ent_of Tryz.func115 rfl rfl) rfl rfl rfl (fun w hs => bare_any F hF e A1 A2 _ _ _ _ w hc29 (ha0.st hs)) (fun s4 _ => ?_)
        refine WL.p rfl rfl rfl (P.move rfl) ?_
        refine WL.p rfl rfl rfl (P.extract rfl rfl) ?_
        refine WL.p rfl rfl rfl (P.extract rfl rfl) ?_
        refine WL.alloc Tryz.zeroValue34 rfl rfl (fun b5 => ?_)
        refine WL.storeW 0 Tryz.sizeOf34 rfl rfl rfl (E.one _ (hF.one _ _).1 (hF.one _ _).2) rfl rfl rfl ?_
        refine WL.p rfl rfl rfl (P.assign rfl) ?_
        refine WL.nil_ ?_
        refine End.seq ?_
        refine WC.seq ?_
        refine WC.region ?_
        refine WL.p rfl rfl rfl (P.move rfl) ?_
        refine WL.p rfl rfl rfl (P.move rfl) ?_
        refine WL.split 37 rfl (fun hs37 => ?_) (fun hs37 => ?_)
        ·
          try simp only [decide_eq_true_eq, decide_eq_false_iff_not, beq_iff_eq, beq_eq_false_iff_ne, bne_iff_ne, bne_eq_false_iff_eq, Bool.not_eq_true', Bool.not_eq_false', ne_eq, Int.not_lt, Int.not_le] at hs37
          refine WL.p rfl rfl rfl (P.loadW 0 Tryz.isAgg34 Tryz.sizeOf34 rfl rfl rfl) ?_
          refine WL.p rfl rfl rfl (P.loadW 4 Tryz.isAgg34 Tryz.sizeOf34 rfl rfl rfl) ?_
          refine WL.callv (ent_of Tryz.func34 rfl rfl) rfl rfl rfl (fun w hs => same_any (F.re e).1 e (F.va s4 (F.re e).1) (F.vg s4 (F.re e).1) _ _ w (hF.at_ s4 1 _ e.bare0 _ _ _ _ rfl rfl rfl hs rfl) (ha0.st hs)) ?_
          refine WL.p rfl rfl rfl (P.pickT rfl rfl) ?_
          refine WL.p rfl rfl rfl (P.assign rfl) ?_
          refine WL.nil_ ?_
          refine End.seq ?_
          refine WC.ret ?_
          refine End.ret1 rfl rfl ?_
          exact fun w' hs' => RetV.of (by rw [KF.valid, hs23, hc29, decide_eq_true hs37]; rfl) hs'
        ·
          try simp only [decide_eq_true_eq, decide_eq_false_iff_not, beq_iff_eq, beq_eq_false_iff_ne, bne_iff_ne, bne_eq_false_iff_eq, Bool.not_eq_true', Bool.not_eq_false', ne_eq, Int.not_lt, Int.not_le] at hs37
          refine WL.off rfl rfl ?_
          refine WL.off rfl rfl ?_
          refine WL.off rfl rfl ?_
          refine WL.p rfl rfl rfl (P.pickF rfl rfl) ?_
          refine WL.p rfl rfl rfl (P.assign rfl) ?_
          refine WL.nil_ ?_
          refine End.seq ?_
          refine WC.ret ?_
          refine End.ret1 rfl rfl ?_
          exact fun w' hs' => RetV.of (by rw [KF.valid, decide_eq_false hs37, Bool.false_and, Bool.and_false, Bool.and_false]) hs'

set_option maxRecDepth 100000 in
theorem valid_none (e : E) (va vg : Value) (w : World) (hk : Instr.findNow (.int .i64) (.int .i64 e.kind) formsEs.toList 0 = some none) :
    Calls Tryz.prog 47 #[.agg (e.cells va vg)] w (RetV w (.bool false)) := by
  refine enter Tryz.func47 rfl Tryz.ntmps47 rfl ?_
  refine WC.seq ?_
  refine WC.region ?_
  refine WL.box rfl rfl rfl (fun b1 => ?_)
  refine WL.p rfl rfl rfl (P.assign rfl) ?_
  refine WL.nil_ ?_
  refine End.seq ?_
  refine WC.seq ?_
  refine WC.nil1 ?_
  refine WC.nil1 ?_
  apply WC.draws (al := [0, 7]) (vs := [fun s => .map (some (s 0).1), _, _, fun _ => .tuple #[.agg #[.int .u8 0, .nilFunc, .nilFunc, .nilFunc], .bool false], _, fun _ => .agg #[.int .u8 0, .nilFunc, .nilFunc, .nilFunc], _, fun s => .pointer (some ⟨(s 7).1, 0, none⟩), fun _ => undef, _]) (Hs := fun v HH b s => (bnew (b 7) (It.blk (s 7).1 128 (bif b 8 then cellsOf (v 5 s) else #[.int .u8 0, .nilFunc, .nilFunc, .nilFunc])) (bnew (b 0) (It.map (s 0).1 formsEs 5) HH 0) 1)) (by kernel_rfl) (by kernel_rfl) (by kernel_rfl)
  case steps =>
    refine Stps.cons (Stp.callx 0 (ent_of Tryz.func114 rfl rfl) rfl (fun b s hb hd => ⟨_, _, _, _, rfl, rfl, fun w hs => forms_any w, fun q => rfl, ⟨_, rfl⟩, fun q => rfl⟩)) ?_
    refine Stps.cons (Stp.p (fun b s hd => ⟨_, ⟨rfl, P.fieldAddr fa_34_0 rfl⟩, rfl, rfl⟩)) ?_
    refine Stps.cons (Stp.p (fun b s hd => ⟨_, ⟨rfl, P.loadO 2 Tryz.isAgg3 rfl rfl rfl⟩, rfl, rfl⟩)) ?_
    refine Stps.cons (Stp.on [0] (by kernel_rfl) (Stp.p (fun b s hd => ⟨_, ⟨rfl, P.lookup2n 0 (key := .int .i64 e.kind) Tryz.underlying130 Tryz.underlying3 (by simp [MapKept.IsKey]) Tryz.zeroValue128 rfl rfl rfl hk⟩, rfl, rfl⟩))) ?_
    refine Stps.cons (Stp.p (fun b s hd => ⟨_, ⟨rfl, P.move rfl⟩, rfl, rfl⟩)) ?_
    refine Stps.cons (Stp.p (fun b s hd => ⟨_, ⟨rfl, P.extract rfl rfl⟩, rfl, rfl⟩)) ?_
    refine Stps.cons (Stp.p (fun b s hd => ⟨_, ⟨rfl, P.extract rfl rfl⟩, rfl, rfl⟩)) ?_
    refine Stps.cons (Stp.off [8] (by kernel_rfl) (Stp.alloc 1 Tryz.zeroValue128 rfl (fun b s q => ⟨rfl, rfl, _, rfl, fun hb => rfl⟩))) ?_
    refine Stps.cons (Stp.storeW 1 Tryz.sizeOf128 (fun b s hd => ⟨b 7, _, _, _, _, _, rfl, rfl, rfl, rfl, rfl, rfl, hd 7 (by decide), rfl, rfl, rfl⟩)) ?_
    refine Stps.cons (Stp.p (fun b s hd => ⟨_, ⟨rfl, P.assign rfl⟩, rfl, rfl⟩)) ?_
    exact Stps.nil
  case h0 => exact fun s => rfl
  case agree => exact AgrAll.cons (AgrL.yes (by kernel_rfl) (AgrL.no (fun s x => rfl) (AgrL.no (fun s x => rfl) (AgrL.yes (by kernel_rfl) (AgrL.yes (by kernel_rfl) (AgrL.yes (by kernel_rfl) (AgrL.yes (by kernel_rfl) (AgrL.no (fun s x => rfl) (AgrL.yes (by kernel_rfl) (AgrL.yes (by kernel_rfl) (AgrL.nil))))))))))) (AgrAll.cons (AgrL.no (fun s x => rfl) (AgrL.no (fun s x => rfl) (AgrL.no (fun s x => rfl) (AgrL.no (fun s x => rfl) (AgrL.no (fun s x => rfl) (AgrL.no (fun s x => rfl) (AgrL.no (fun s x => rfl) (AgrL.yes (by kernel_rfl) (AgrL.yes (by kernel_rfl) (AgrL.yes (by kernel_rfl) (AgrL.nil))))))))))) (AgrAll.nil))
  intro s1
  refine End.shape (ρ' := [(0, _), (1, _), (2, _), (3, _), (4, _), (6, _), (7, _), (8, _), (9, _), (10, _), (11, _), (12, _)]) (H' := [_, .blk _ _ #[_, _, _, _], _]) (Env.sub_cons rfl (Env.sub_cons rfl (Env.sub_cons rfl (Env.sub_cons rfl (Env.sub_cons rfl (Env.sub_cons rfl (Env.sub_cons rfl (Env.sub_cons rfl (Env.sub_cons rfl (Env.sub_cons rfl (Env.sub_cons rfl (Env.sub_cons rfl (Env.sub_nil))))))))))))) rfl ?_
  refine End.seq ?_
  refine WC.seq ?_
  refine WC.seq ?_
  refine WC.region ?_
  refine WL.p rfl rfl rfl (P.move rfl) ?_
  refine WL.p rfl rfl rfl (P.not_ rfl) ?_
  refine WL.p rfl rfl rfl (P.move rfl) ?_
  refine WL.split 15 rfl (fun hs15 => ?_) (fun hs15 => ?_)
  ·
    try simp only [decide_eq_true_eq, decide_eq_false_iff_not, beq_iff_eq, beq_eq_false_iff_ne, bne_iff_ne, bne_eq_false_iff_eq, Bool.not_eq_true', Bool.not_eq_false', ne_eq, Int.not_lt, Int.not_le] at hs15
    refine WL.off rfl rfl ?_
    refine WL.off rfl rfl ?_
    refine WL.off rfl rfl ?_
    refine WL.off rfl rfl ?_
    refine WL.off rfl rfl ?_
    refine WL.off rfl rfl ?_
    refine WL.p rfl rfl rfl (P.pickT rfl rfl) ?_
    refine WL.p rfl rfl rfl (P.move rfl) ?_
    refine WL.off rfl rfl ?_
    refine WL.off rfl rfl ?_
    refine WL.off rfl rfl ?_
    refine WL.off rfl rfl ?_
    refine WL.off rfl rfl ?_
    refine WL.p rfl rfl rfl (P.pickT rfl rfl) ?_
    refine WL.nil_ ?_
    refine End.seq ?_
    refine WC.condT rfl ?_
    refine WC.seq ?_
    refine WC.region ?_
    refine WL.p rfl rfl rfl (P.assign rfl) ?_
    refine WL.nil_ ?_
    refine End.seq ?_
    refine WC.ret ?_
    refine End.thenR ?_
    refine End.ret1 rfl rfl ?_
    exact fun w' hs' => RetV.of rfl hs'
  ·
    try simp only [decide_eq_true_eq, decide_eq_false_iff_not, beq_iff_eq, beq_eq_false_iff_ne, bne_iff_ne, bne_eq_false_iff_eq, Bool.not_eq_true', Bool.not_eq_false', ne_eq, Int.not_lt, Int.not_le] at hs15
    cases hs15

end Go.Proofs.YtlkkiimmangplaaGreatDoor

/- Patterns. -/
namespace Go.Proofs.YtlkkiimmangplaaGreatDoor
open Go.RowKit
set_option linter.unusedVariables false
set_option linter.unusedSimpArgs false

theorem contains_sub (s sub : ByteArray) (w : World) (hg : Good w) (hs : s.size < 4294967281) : Calls Tryz.prog 192 #[.string s, .string sub] w (RetV w (.bool (Lib.contains s.data.toList sub.data.toList))) :=
  (Tryz.strings_Contains_shaped s sub w hg.shaped hs).mono fun e w' ⟨h1, h2⟩ => ⟨h1, by rw [h2]; exact St.refl w⟩
def isStar (c : UInt8) : Bool := isUpper (c.toNat : Int) || ((c.toNat : Int) == 42)
def isPlainStar (c : UInt8) : Bool := (isUpper (c.toNat : Int) || isDigit (c.toNat : Int)) || ((c.toNat : Int) == 42)

set_option maxRecDepth 100000 in
theorem star_any (c : UInt8) (w : World) :
    Calls Tryz.prog 189 #[.int .u8 (c.toNat : Int)] w (RetV w (.bool (isStar c))) := by
  refine enter Tryz.func189 rfl Tryz.ntmps189 rfl ?_
  refine WC.seq ?_
  refine WC.region ?_
  refine WL.p rfl rfl rfl (P.assign rfl) ?_
  refine WL.nil_ ?_
  refine End.seq ?_
  refine WC.seq ?_
  refine WC.region ?_
  refine WL.p rfl rfl rfl (P.move rfl) ?_
  refine WL.callv (ent_of Tryz.func165 rfl rfl) rfl rfl rfl (fun w hs => upper_any _ w) ?_
  refine WL.p rfl rfl rfl (P.move rfl) ?_
  refine WL.split 5 rfl (fun hs5 => ?_) (fun hs5 => ?_)
  ·
    refine WL.off rfl rfl ?_
    refine WL.off rfl rfl ?_
    refine WL.p rfl rfl rfl (P.pickT rfl rfl) ?_
    refine WL.p rfl rfl rfl (P.assign rfl) ?_
    refine WL.nil_ ?_
    refine End.seq ?_
    refine WC.ret ?_
    refine End.ret1 rfl rfl ?_
    exact fun w' hs' => RetV.of (by simp [isStar, hs5]) hs'
  ·
    refine WL.p rfl rfl rfl (P.move rfl) ?_
    refine WL.p rfl rfl rfl (P.cmp rfl rfl rfl) ?_
    refine WL.p rfl rfl rfl (P.pickF rfl rfl) ?_
    refine WL.p rfl rfl rfl (P.assign rfl) ?_
    refine WL.nil_ ?_
    refine End.seq ?_
    refine WC.ret ?_
    refine End.ret1 rfl rfl ?_
    exact fun w' hs' => RetV.of (by simp [isStar, hs5]) hs'

set_option maxRecDepth 100000 in
theorem plainStar_any (c : UInt8) (w : World) :
    Calls Tryz.prog 191 #[.int .u8 (c.toNat : Int)] w (RetV w (.bool (isPlainStar c))) := by
  refine enter Tryz.func191 rfl Tryz.ntmps191 rfl ?_
  refine WC.seq ?_
  refine WC.region ?_
  refine WL.p rfl rfl rfl (P.assign rfl) ?_
  refine WL.nil_ ?_
  refine End.seq ?_
  refine WC.seq ?_
  refine WC.region ?_
  refine WL.p rfl rfl rfl (P.move rfl) ?_
  refine WL.callv (ent_of Tryz.func166 rfl rfl) rfl rfl rfl (fun w hs => plain_any _ w) ?_
  refine WL.p rfl rfl rfl (P.move rfl) ?_
  refine WL.split 5 rfl (fun hs5 => ?_) (fun hs5 => ?_)
  ·
    refine WL.off rfl rfl ?_
    refine WL.off rfl rfl ?_
    refine WL.p rfl rfl rfl (P.pickT rfl rfl) ?_
    refine WL.p rfl rfl rfl (P.assign rfl) ?_
    refine WL.nil_ ?_
    refine End.seq ?_
    refine WC.ret ?_
    refine End.ret1 rfl rfl ?_
    exact fun w' hs' => RetV.of (by simp [isPlainStar, hs5]) hs'
  ·
    refine WL.p rfl rfl rfl (P.move rfl) ?_
    refine WL.p rfl rfl rfl (P.cmp rfl rfl rfl) ?_
    refine WL.p rfl rfl rfl (P.pickF rfl rfl) ?_
    refine WL.p rfl rfl rfl (P.assign rfl) ?_
    refine WL.nil_ ?_
    refine End.seq ?_
    refine WC.ret ?_
    refine End.ret1 rfl rfl ?_
    exact fun w' hs' => RetV.of (by simp [isPlainStar, hs5]) hs'

theorem star_pred : PredC 189 isStar := ⟨ent_of Tryz.func189 rfl rfl, fun c w => star_any c w⟩
theorem plainStar_pred : PredC 191 isPlainStar := ⟨ent_of Tryz.func191 rfl rfl, fun c w => plainStar_any c w⟩
def stars : ByteArray := ⟨#[42, 42]⟩
/-- One part of a pattern. -/
def patQ (q : ByteArray) : Bool := decide (q = stars) || (qualB isStar isPlainStar q.data.toList && !(Lib.contains q.data.toList [42, 42]))
def patB (s : ByteArray) : Bool := allB 31 patQ s

set_option maxRecDepth 100000 in
theorem patQ_any (q : ByteArray) (b : Nat) (w : World) (hg : Good w) (hb : w.cell? ⟨b, 0, none⟩ = some (.func (.func 189) #[] #[])) (hsz : q.size < 4294967281) :
    Calls Tryz.prog 190 #[.string q, .pointer (some ⟨b, 0, none⟩)] w (RetV w (.bool (patQ q))) := by
  refine enter Tryz.func190 rfl Tryz.ntmps190 rfl ?_
  refine WC.seq ?_
  refine WC.region ?_
  refine WL.p rfl rfl rfl (P.assign rfl) ?_
  refine WL.nil_ ?_
  refine End.seq ?_
  refine WC.seq ?_
  refine WC.region ?_
  refine WL.p rfl rfl rfl (P.move rfl) ?_
  refine WL.p rfl rfl rfl (P.cmps rfl rfl rfl) ?_
  refine WL.p rfl rfl rfl (P.move rfl) ?_
  refine WL.split 6 rfl (fun hs6 => ?_) (fun hs6 => ?_)
  ·
    rw [toList_beq] at hs6
    refine WL.off rfl rfl ?_
    refine WL.off rfl rfl ?_
    refine WL.off rfl rfl ?_
    refine WL.off rfl rfl ?_
    refine WL.offU rfl rfl ?_
    refine WL.offU rfl rfl ?_
    refine WL.offU rfl rfl ?_
    refine WL.off rfl rfl ?_
    refine WL.p rfl rfl rfl (P.pickT rfl rfl) ?_
    refine WL.p rfl rfl rfl (P.assign rfl) ?_
    refine WL.nil_ ?_
    refine End.seq ?_
    refine WC.ret ?_
    refine End.ret1 rfl rfl ?_
    exact fun w' hs' => RetV.of (by rw [patQ, show decide (q = stars) = true from hs6]; rfl) hs'
  ·
    rw [toList_beq] at hs6
    refine WL.p rfl rfl rfl (P.move rfl) ?_
    refine WL.p rfl rfl rfl (P.loadB Tryz.isAgg187 rfl hb) ?_
    refine WL.callv (ent_of Tryz.func164 rfl rfl) rfl rfl rfl (fun w hs => qualifier_any q 189 191 _ _ w star_pred plainStar_pred hsz) ?_
    refine WL.p rfl rfl rfl (P.move rfl) ?_
    refine WL.split 10 rfl (fun hs10 => ?_) (fun hs10 => ?_)
    ·
      refine WL.p rfl rfl rfl (P.move rfl) ?_
      refine WL.callv (ent_of Tryz.func192 rfl rfl) rfl rfl rfl (fun w hs => contains_sub q stars w (hg.st hs) hsz) ?_
      refine WL.p rfl rfl rfl (P.not_ rfl) ?_
      refine WL.p rfl rfl rfl (P.pickT rfl rfl) ?_
      refine WL.p rfl rfl rfl (P.pickF rfl rfl) ?_
      refine WL.p rfl rfl rfl (P.assign rfl) ?_
      refine WL.nil_ ?_
      refine End.seq ?_
      refine WC.ret ?_
      refine End.ret1 rfl rfl ?_
      exact fun w' hs' => RetV.of (by rw [patQ, show decide (q = stars) = false from hs6, hs10]; rfl) hs'
    ·
      refine WL.off rfl rfl ?_
      refine WL.off rfl rfl ?_
      refine WL.off rfl rfl ?_
      refine WL.p rfl rfl rfl (P.pickF rfl rfl) ?_
      refine WL.p rfl rfl rfl (P.pickF rfl rfl) ?_
      refine WL.p rfl rfl rfl (P.assign rfl) ?_
      refine WL.nil_ ?_
      refine End.seq ?_
      refine WC.ret ?_
      refine End.ret1 rfl rfl ?_
      exact fun w' hs' => RetV.of (by rw [patQ, show decide (q = stars) = false from hs6, hs10]; rfl) hs'

set_option maxRecDepth 100000 in
theorem pattern_any (s : ByteArray) (w : World) (hg : Good w) :
    Calls Tryz.prog 106 #[.string s] w (RetV w (.bool (patB s))) := by
  refine enter Tryz.func106 rfl Tryz.ntmps106 rfl ?_
  refine WC.seq ?_
  refine WC.region ?_
  refine WL.p rfl rfl rfl (P.assign rfl) ?_
  refine WL.nil_ ?_
  refine End.seq ?_
  refine WC.seq ?_
  refine WC.region ?_
  refine WL.alloc Tryz.zeroValue187 rfl rfl (fun b3 => ?_)
  refine WL.store 0 Tryz.sizeOf187 rfl rfl rfl rfl rfl rfl ?_
  refine WL.nil_ ?_
  refine End.seq ?_
  refine WC.seq ?_
  refine WC.region ?_
  refine WL.p rfl rfl rfl (P.move rfl) ?_
  refine WL.p rfl rfl rfl (P.makeFunc rfl) ?_
  refine WL.callv (ent_of Tryz.func162 rfl rfl) rfl rfl rfl (fun w hs => all_any s 31 190 #[.pointer (some ⟨b3, 0, none⟩)] patQ w (hg.st hs) ⟨ent_of Tryz.func190 rfl rfl, fun q w' hb h => patQ_any q b3 w' ((hg.st hs).below hb) (by have h0 : w.cell? ⟨b3, 0, none⟩ = some (.func (.func 189) #[] #[]) := (cell_blk (hs.ok 0 _ rfl).2).trans rfl; exact (hb.cell (World.block_lt_of_cell? _ _ h0)).trans h0) h⟩ (by omega)) ?_
  refine WL.p rfl rfl rfl (P.assign rfl) ?_
  refine WL.nil_ ?_
  refine End.seq ?_
  refine WC.ret ?_
  refine End.ret1 rfl rfl ?_
  exact fun w' hs' => RetV.of rfl hs'

end Go.Proofs.YtlkkiimmangplaaGreatDoor

/- The kinds: profiles and groups. -/
namespace Go.Proofs.YtlkkiimmangplaaGreatDoor
open Go.RowKit
set_option linter.unusedVariables false
set_option linter.unusedSimpArgs false
def prof : KF where
  kind := 4
  L := 80
  N := 106
  g := 212
  V := 213
  nm := patB
  ok := profOK
  out := fun out e => profOut out e.level e.owner e.grants
  rd := fun e x => ({ e with level := clampN x.num.1, owner := (x.num.2.text 200).1, grants := (prG x).1 }, (prG x).2)
  it := fun s e => gIt s e.grants
  va := fun _ _ => vnil
  vg := fun s e => gVal s e.grants.length
theorem word_size {s : ByteArray} (h : wordB s = true) : s.size ≤ 31 := by
  unfold wordB at h
  rw [Bool.and_eq_true] at h
  exact name_size h.1
theorem owner_size {s : ByteArray} (h : (decide (s = bempty) || wordB s) = true) : s.size ≤ 31 := by
  rw [Bool.or_eq_true, decide_eq_true_eq] at h
  rcases h with rfl | h
  · decide
  · exact word_size h
theorem grsOK_mem : ∀ {gs : List Gr} {seen : List (ByteArray × Bool)}, grsOK gs seen = true → ∀ g ∈ gs, g.who.size ≤ 31 ∧ 0 ≤ g.level ∧ g.level ≤ 3
  | [], _, _ => by simp
  | x :: r, seen, h => fun g hg => by
    rw [grsOK, Bool.and_eq_true, Bool.and_eq_true, Bool.and_eq_true] at h
    rcases List.mem_cons.1 hg with rfl | hg
    · have := inB_one h.2.1
      exact ⟨word_size h.1, this⟩
    · exact grsOK_mem h.2.2.2 g hg
theorem profOK_lim {e : E} (h : profOK e = true) : (0 ≤ e.level ∧ e.level ≤ 3) ∧ e.owner.size ≤ 31 ∧ e.grants.length ≤ 8 ∧ ∀ g ∈ e.grants, g.who.size ≤ 31 ∧ 0 ≤ g.level ∧ g.level ≤ 3 := by
  unfold profOK at h
  rw [Bool.and_eq_true, Bool.and_eq_true, Bool.and_eq_true, decide_eq_true_eq] at h
  exact ⟨inB_one h.2.1, owner_size h.2.2.1, by have := h.2.2.2; omega, grsOK_mem h.1⟩
theorem prof_law : prof.Law where
  entN := ent_of Tryz.func106 rfl rfl
  entg := ent_of Tryz.func212 rfl rfl
  entV := ent_of Tryz.func213 rfl rfl
  form := ⟨4, rfl⟩
  name s w hg _ := pattern_any s w hg
  okL e va vg w hg ha := profOK_any e va vg w hg ha
  size e out h := by
    have hl := profOK_lim h
    have h1 := gsOut_size e.grants (out ++ strOfNums (encF 9 e.level) ++ encText e.owner ++ strOfNums (encF 9 e.grants.length)) (fun g hg => by have := (hl.2.2.2 g hg).1; omega)
    have h2 := encF_len 9 e.level
    have h3 := encText_size e.owner
    have h4 := encF_len 9 e.grants.length
    simp only [size_append, strOfNums_size] at h1
    show (profOut out e.level e.owner e.grants).size < _
    unfold profOut
    omega
  write e va vg w0 h ha := fun c q out H w ho hs => by
    have hl := profOK_lim h
    obtain ⟨_, A2, c2, rfl, hc2, hr2⟩ := ha
    exact profile_w c q out _ e.level e.owner A2 c2 e.grants w0 w H hs rfl rfl rfl hr2 (by omega) (fun g hg => by have := hl.2.2.2 g hg; omega) (fun g hg => by have := hl.2.2.2 g hg; omega) hl.2.2.1 (by omega) (by omega) (by omega)
  read e x hal hgr hsz := fun r c q out w0 H w hs => by
    refine (profile_r r c q x out _ w0 w H hs hsz rfl rfl).mono fun en w' h => ?_
    obtain ⟨b, h1, h2⟩ := h
    refine ⟨b, h1, ?_⟩
    have hlen : (prG x).1.length = prN x := gRead_len _ _
    show St w0 (rdB r (prG x).2 :: cB c out (some ⟨r, 0, none⟩) :: gIt b (prG x).1 :: .blk q 34 (({ e with level := clampN x.num.1, owner := (x.num.2.text 200).1, grants := (prG x).1 } : E).cells vnil (gVal b (prG x).1.length)) :: H) w'
    rw [hlen]
    exact h2
  at_ s j e e0 x H w0 w he hal hgr hs hj := by
    subst he
    have hlen : (prG x).1.length = prN x := gRead_len _ _
    have hcn := cntR_le (prX x)
    have hpn : prN x ≤ 9 := by unfold prN; omega
    refine ⟨⟨none, 0, ?_, ?_, ?_⟩, ?_⟩
    · show vnil = .slice none e0.alt.length 0
      rw [hal]; rfl
    · show e0.alt.length ≤ 0
      rw [hal]; exact Nat.le_refl _
    · show Sl encI 1 w none e0.alt
      rw [hal]; exact Sl.nil _ _ _
    · show ∃ A c, gVal s (prG x).1.length = .slice A (prG x).1.length c ∧ (prG x).1.length ≤ c ∧ Sl Gr.cells 3 w A (prG x).1
      by_cases h0 : (prG x).1.length = 0
      · refine ⟨none, 0, by rw [gVal, if_pos h0, h0]; rfl, by omega, ?_⟩
        rw [List.length_eq_zero_iff.1 h0]
        exact Sl.nil _ _ _
      · refine ⟨some ⟨s, 0, none⟩, (prG x).1.length, by rw [gVal, if_neg h0], Nat.le_refl _, ?_⟩
        have hj' : H[j]? = some (.blk s 51 (gcells (prG x).1).toArray) := by
          rw [hj]
          show some (gIt s (prG x).1) = _
          rw [gIt, if_neg h0]
        exact slG_blk hs hj' (by omega)
  keep e x := ⟨rfl, rfl⟩
  letter := by decide
  one s e := by
    refine ⟨rfl, ?_⟩
    show (gVal s e.grants.length).oneCell' = true
    unfold gVal
    split <;> rfl
def grp : KF where
  kind := 1
  L := 71
  N := 187
  g := 196
  V := 200
  nm := groupB
  ok := groupOK
  out := fun out e => grpOut out e.limit e.last e.empty e.owner
  rd := fun e x => ({ e with limit := clampN x.num.1, last := clampN x.num.2.num.1, empty := x.num.2.num.2.bool.1, owner := (x.num.2.num.2.bool.2.text 200).1 }, (x.num.2.num.2.bool.2.text 200).2)
  it := fun _ _ => .nil
  va := fun _ _ => vnil
  vg := fun _ _ => vnil
theorem groupOK_own {e : E} (h : groupOK e = true) : (1 ≤ e.limit ∧ e.limit ≤ 63) ∧ (0 ≤ e.last ∧ e.last ≤ 9999) ∧ e.owner.size ≤ 31 := by
  unfold groupOK at h
  rw [Bool.and_eq_true, Bool.and_eq_true] at h
  exact ⟨inB_one h.1, inB_one h.2.1, owner_size h.2.2⟩
theorem St.nil3 {w0 w : World} {a b : It} {H : List It} (h : St w0 (a :: b :: H) w) : St w0 (a :: b :: .nil :: H) w := h.nil.rot3
theorem grp_law : grp.Law where
  entN := ent_of Tryz.func187 rfl rfl
  entg := ent_of Tryz.func196 rfl rfl
  entV := ent_of Tryz.func200 rfl rfl
  form := ⟨1, rfl⟩
  name s w hg _ := isGroup_any s w hg
  okL e va vg w hg ha := groupOK_any e va vg w hg
  size e out h := by
    have hl := groupOK_own h
    have h1 := encF_len 9 e.limit
    have h2 := encF_len 9 e.last
    have h3 := encText_size e.owner
    show (grpOut out e.limit e.last e.empty e.owner).size < _
    simp only [grpOut, size_append, strOfNums_size, List.length_cons, List.length_nil]
    omega
  write e va vg w0 h ha := fun c q out H w ho hs => by
    have hl := groupOK_own h
    exact group_w c q out _ e.limit e.last e.empty e.owner w0 w H hs rfl rfl rfl rfl (by omega) (by omega) (by omega) (by omega)
  read e x hal hgr hsz := fun r c q out w0 H w hs =>
    (group_r r c q x out _ w0 w H hs hsz rfl).mono fun en w' h => ⟨0, h.1, h.2.nil3⟩
  at_ s j e e0 x H w0 w he hal hgr hs hj := by
    subst he
    exact entNil hal hgr
  keep e x := ⟨rfl, rfl⟩
  letter := by decide
  one s e := ⟨rfl, rfl⟩
end Go.Proofs.YtlkkiimmangplaaGreatDoor

/- Aliases and catalogs. -/
namespace Go.Proofs.YtlkkiimmangplaaGreatDoor
open Go.RowKit
set_option linter.unusedVariables false
set_option linter.unusedSimpArgs false

theorem lastByte_any (s : ByteArray) (w : World) (h : s.size < 4294967281) : Calls Tryz.prog 269 #[.string s, .int .u8 46] w (RetV w (.int .i64 (Lib.lastIndexByte s 46))) :=
  (Tryz.strings_LastIndexByte s 46 (by omega) w).mono fun e w' ⟨h1, h2⟩ => ⟨h1, by rw [h2]; exact St.refl w⟩
theorem lastByte_lim (s : ByteArray) : -1 ≤ Lib.lastIndexByte s 46 ∧ Lib.lastIndexByte s 46 < s.size := by
  rcases Lib.lastIndexByte_spec s 46 with h | h
  · omega
  · obtain ⟨i, h1, h2, _⟩ := h
    omega
abbrev lastP (s : ByteArray) : Int := Lib.lastIndexByte s 46
/-- The name of a generation: its group, and its number. -/
def splitV (s : ByteArray) : Bool := !decide (lastP s < 0) && (groupB (s.extract 0 (lastP s).toNat) && !(genNum (s.extract (lastP s + 1).toNat s.size).data.toList == 0))
def splitG (s : ByteArray) : ByteArray := if splitV s = true then s.extract 0 (lastP s).toNat else ⟨#[]⟩
def splitN (s : ByteArray) : Int := if splitV s = true then genNum (s.extract (lastP s + 1).toNat s.size).data.toList else 0
theorem split_no {s : ByteArray} (h : splitV s = false) : (Value.tuple #[.string ⟨#[]⟩, .int .i64 0, .bool false]) = .tuple #[.string (splitG s), .int .i64 (splitN s), .bool (splitV s)] := by rw [splitG, splitN, h]; rfl
theorem split_yes {s : ByteArray} (h : splitV s = true) : (Value.tuple #[.string (s.extract 0 (lastP s).toNat), .int .i64 (genNum (s.extract (lastP s + 1).toNat s.size).data.toList), .bool true]) = .tuple #[.string (splitG s), .int .i64 (splitN s), .bool (splitV s)] := by rw [splitG, splitN, h]; rfl
theorem extract_size (s : ByteArray) (a b : Nat) : (s.extract a b).size ≤ s.size := by simp [ByteArray.size_extract]; omega

set_option maxRecDepth 100000 in
theorem split204_any (s : ByteArray) (w : World) (hg : Good w) (hsz : s.size < 4294967281) :
    Calls Tryz.prog 204 #[.string s] w (RetV w (.tuple #[.string (splitG s), .int .i64 (splitN s), .bool (splitV s)])) := by
  have hl := lastByte_lim s
  have hx1 := extract_size s 0 (lastP s).toNat
  have hx2 := extract_size s (lastP s + 1).toNat s.size
  refine enter Tryz.func204 rfl Tryz.ntmps204 rfl ?_
  refine WC.seq ?_
  refine WC.region ?_
  refine WL.p rfl rfl rfl (P.assign rfl) ?_
  refine WL.p rfl rfl rfl (P.assign rfl) ?_
  refine WL.p rfl rfl rfl (P.assign rfl) ?_
  refine WL.nil_ ?_
  refine End.seq ?_
  refine WC.seq ?_
  refine WC.region ?_
  refine WL.p rfl rfl rfl (P.move rfl) ?_
  refine WL.callv (ent_of Tryz.func269 rfl rfl) rfl rfl rfl (fun w hs => lastByte_any s w hsz) ?_
  refine WL.p rfl rfl rfl (P.assign rfl) ?_
  refine WL.nil_ ?_
  refine End.seq ?_
  refine WC.seq ?_
  refine WC.seq ?_
  refine WC.region ?_
  refine WL.p rfl rfl rfl (P.move rfl) ?_
  refine WL.p rfl rfl rfl (P.cmp rfl rfl rfl) ?_
  refine WL.p rfl rfl rfl (P.move rfl) ?_
  refine WL.split 10 rfl (fun hs10 => ?_) (fun hs10 => ?_)
  ·
    refine WL.off rfl rfl ?_
    refine WL.off rfl rfl ?_
    refine WL.off rfl rfl ?_
    refine WL.off rfl rfl ?_
    refine WL.off rfl rfl ?_
    refine WL.p rfl rfl rfl (P.pickT rfl rfl) ?_
    refine WL.p rfl rfl rfl (P.move rfl) ?_
    refine WL.off rfl rfl ?_
    refine WL.off rfl rfl ?_
    refine WL.off rfl rfl ?_
    refine WL.off rfl rfl ?_
    refine WL.off rfl rfl ?_
    refine WL.off rfl rfl ?_
    refine WL.p rfl rfl rfl (P.pickT rfl rfl) ?_
    refine WL.nil_ ?_
    refine End.seq ?_
    refine WC.condT rfl ?_
    refine WC.seq ?_
    refine WC.region ?_
    refine WL.p rfl rfl rfl (P.assign rfl) ?_
    refine WL.p rfl rfl rfl (P.assign rfl) ?_
    refine WL.p rfl rfl rfl (P.assign rfl) ?_
    refine WL.nil_ ?_
    refine End.seq ?_
    refine WC.ret ?_
    refine End.thenR ?_
    refine End.ret3 rfl rfl rfl rfl ?_
    exact fun w' hs' => RetV.of (split_no (by rw [splitV, hs10]; rfl)) hs'
  ·
    have hl0 := of_decide_eq_false hs10
    refine WL.p rfl rfl rfl (P.move rfl) ?_
    refine WL.p rfl rfl rfl (P.move rfl) ?_
    refine WL.p rfl rfl rfl (P.subH Tryz.underlying9 rfl rfl (by omega) (by omega)) ?_
    refine WL.callv (ent_of Tryz.func187 rfl rfl) rfl rfl rfl (fun w hs => isGroup_any _ w (hg.st hs)) ?_
    refine WL.p rfl rfl rfl (P.not_ rfl) ?_
    refine WL.p rfl rfl rfl (P.pickF rfl rfl) ?_
    refine WL.p rfl rfl rfl (P.move rfl) ?_
    refine WL.split 17 rfl (fun hs17 => ?_) (fun hs17 => ?_)
    ·
      refine WL.off rfl rfl ?_
      refine WL.off rfl rfl ?_
      refine WL.off rfl rfl ?_
      refine WL.off rfl rfl ?_
      refine WL.off rfl rfl ?_
      refine WL.off rfl rfl ?_
      refine WL.p rfl rfl rfl (P.pickT rfl rfl) ?_
      refine WL.nil_ ?_
      refine End.seq ?_
      refine WC.condT rfl ?_
      refine WC.seq ?_
      refine WC.region ?_
      refine WL.p rfl rfl rfl (P.assign rfl) ?_
      refine WL.p rfl rfl rfl (P.assign rfl) ?_
      refine WL.p rfl rfl rfl (P.assign rfl) ?_
      refine WL.nil_ ?_
      refine End.seq ?_
      refine WC.ret ?_
      refine End.thenR ?_
      refine End.ret3 rfl rfl rfl rfl ?_
      exact fun w' hs' => RetV.of (split_no (by simp at hs17; rw [splitV, hs17]; simp)) hs'
    ·
      refine WL.p rfl rfl rfl (P.move rfl) ?_
      refine WL.p rfl rfl rfl (P.move rfl) ?_
      refine WL.p rfl rfl rfl (P.ari64 rfl rfl rfl (by omega)) ?_
      refine WL.p rfl rfl rfl (P.subL Tryz.underlying9 rfl rfl (by omega) (by omega)) ?_
      refine WL.callv (ent_of Tryz.func260 rfl rfl) rfl rfl rfl (fun w hs => number_any _ w (by have := extract_size s (Lib.lastIndexByte s 46 + 1).toNat s.size; omega)) ?_
      refine WL.p rfl rfl rfl (P.cmp rfl rfl rfl) ?_
      refine WL.p rfl rfl rfl (P.pickF rfl rfl) ?_
      refine WL.nil_ ?_
      refine End.seq ?_
      refine WC.cond rfl (fun hc24 => ?_) (fun hc24 => ?_)
      ·
        refine WC.seq ?_
        refine WC.region ?_
        refine WL.p rfl rfl rfl (P.assign rfl) ?_
        refine WL.p rfl rfl rfl (P.assign rfl) ?_
        refine WL.p rfl rfl rfl (P.assign rfl) ?_
        refine WL.nil_ ?_
        refine End.seq ?_
        refine WC.ret ?_
        refine End.thenR ?_
        refine End.ret3 rfl rfl rfl rfl ?_
        exact fun w' hs' => RetV.of (split_no (by rw [splitV, hc24]; simp)) hs'
      ·
        refine WC.skip ?_
        refine End.seq ?_
        refine WC.seq ?_
        refine WC.quiet (by kernel_rfl) ?_
        refine WQ.p rfl rfl rfl (P.move rfl) ?_
        refine WQ.p rfl rfl rfl (P.move rfl) ?_
        refine WQ.p rfl rfl rfl (P.subH Tryz.underlying9 rfl rfl (by omega) (by omega)) ?_
        refine WQ.p rfl rfl rfl (P.move rfl) ?_
        refine WQ.p rfl rfl rfl (P.move rfl) ?_
        refine WQ.p rfl rfl rfl (P.ari64 rfl rfl rfl (by omega)) ?_
        refine WQ.p rfl rfl rfl (P.subL Tryz.underlying9 rfl rfl (by omega) (by omega)) ?_
        refine WQ.callv (ent_of Tryz.func260 rfl rfl) rfl rfl rfl (fun w hs => number_any _ w (by have := extract_size s (Lib.lastIndexByte s 46 + 1).toNat s.size; omega)) ?_
        refine WQ.p rfl rfl rfl (P.assign rfl) ?_
        refine WQ.p rfl rfl rfl (P.assign rfl) ?_
        refine WQ.p rfl rfl rfl (P.assign rfl) ?_
        refine WQ.nil_ ?_
        refine End.seq ?_
        refine WC.ret ?_
        refine End.ret3 rfl rfl rfl rfl ?_
        exact fun w' hs' => RetV.of (split_yes (by simp at hs17; rw [splitV, hs10, hs17, hc24]; rfl)) hs'

def aliasN (s : ByteArray) : Bool := nameB s && !splitV s
def aliasOK (e : E) : Bool := nameB e.target && !(e.target.toList == e.name.toList)
def catN (s : ByteArray) : Bool := nameB s && decide ((Lib.countByte s.data.toList 46 : Int) < 2)
def catOK (e : E) : Bool := inB 1 15 [e.catalog]
theorem count_one (s : ByteArray) (w : World) : Calls Tryz.prog 208 #[.string s, .string dot] w (RetV w (.int .i64 (Lib.countByte s.data.toList 46))) :=
  (Tryz.strings_Count_one s 46 w).mono fun e w' ⟨h1, h2⟩ => ⟨h1, by rw [h2]; exact St.refl w⟩

set_option maxRecDepth 100000 in
theorem aliasN_any (s : ByteArray) (w : World) (hg : Good w) (hsz : s.size < 4294967281) :
    Calls Tryz.prog 203 #[.string s] w (RetV w (.bool (aliasN s))) := by
  refine enter Tryz.func203 rfl Tryz.ntmps203 rfl ?_
  refine WC.seq ?_
  refine WC.region ?_
  refine WL.p rfl rfl rfl (P.assign rfl) ?_
  refine WL.nil_ ?_
  refine End.seq ?_
  refine WC.seq ?_
  refine WC.region ?_
  refine WL.p rfl rfl rfl (P.move rfl) ?_
  refine WL.callv (ent_of Tryz.func204 rfl rfl) rfl rfl rfl (fun w hs => split204_any s w (hg.st hs) hsz) ?_
  refine WL.p rfl rfl rfl (P.move rfl) ?_
  refine WL.p rfl rfl rfl (P.extract rfl rfl) ?_
  refine WL.p rfl rfl rfl (P.extract rfl rfl) ?_
  refine WL.p rfl rfl rfl (P.extract rfl rfl) ?_
  refine WL.p rfl rfl rfl (P.assign rfl) ?_
  refine WL.p rfl rfl rfl (P.assign rfl) ?_
  refine WL.p rfl rfl rfl (P.assign rfl) ?_
  refine WL.nil_ ?_
  refine End.seq ?_
  refine WC.seq ?_
  refine WC.region ?_
  refine WL.p rfl rfl rfl (P.move rfl) ?_
  refine WL.callv (ent_of Tryz.func76 rfl rfl) rfl rfl rfl (fun w hs => nameValid_any s w (hg.st hs)) ?_
  refine WL.p rfl rfl rfl (P.move rfl) ?_
  refine WL.split 14 rfl (fun hs14 => ?_) (fun hs14 => ?_)
  ·
    refine WL.p rfl rfl rfl (P.move rfl) ?_
    refine WL.p rfl rfl rfl (P.not_ rfl) ?_
    refine WL.p rfl rfl rfl (P.pickT rfl rfl) ?_
    refine WL.p rfl rfl rfl (P.assign rfl) ?_
    refine WL.nil_ ?_
    refine End.seq ?_
    refine WC.ret ?_
    refine End.ret1 rfl rfl ?_
    exact fun w' hs' => RetV.of (by rw [aliasN, hs14]; rfl) hs'
  ·
    refine WL.off rfl rfl ?_
    refine WL.off rfl rfl ?_
    refine WL.p rfl rfl rfl (P.pickF rfl rfl) ?_
    refine WL.p rfl rfl rfl (P.assign rfl) ?_
    refine WL.nil_ ?_
    refine End.seq ?_
    refine WC.ret ?_
    refine End.ret1 rfl rfl ?_
    exact fun w' hs' => RetV.of (by rw [aliasN, hs14]; rfl) hs'

set_option maxRecDepth 100000 in
theorem aliasOK_any (e : E) (va vg : Value) (w : World) (hg : Good w) :
    Calls Tryz.prog 206 #[.agg (e.cells va vg)] w (RetV w (.bool (aliasOK e))) := by
  refine enter Tryz.func206 rfl Tryz.ntmps206 rfl ?_
  refine WC.seq ?_
  refine WC.region ?_
  refine WL.box rfl rfl rfl (fun b1 => ?_)
  refine WL.p rfl rfl rfl (P.assign rfl) ?_
  refine WL.nil_ ?_
  refine End.seq ?_
  refine WC.seq ?_
  refine WC.region ?_
  refine WL.p rfl rfl rfl (P.fieldAddr fa_34_9 rfl) ?_
  refine WL.p rfl rfl rfl (P.loadO 0 Tryz.isAgg9 rfl rfl rfl) ?_
  refine WL.callv (ent_of Tryz.func76 rfl rfl) rfl rfl rfl (fun w hs => nameValid_any e.target w (hg.st hs)) ?_
  refine WL.p rfl rfl rfl (P.move rfl) ?_
  refine WL.split 6 rfl (fun hs6 => ?_) (fun hs6 => ?_)
  ·
    refine WL.p rfl rfl rfl (P.fieldAddr fa_34_9 rfl) ?_
    refine WL.p rfl rfl rfl (P.loadO 0 Tryz.isAgg9 rfl rfl rfl) ?_
    refine WL.p rfl rfl rfl (P.fieldAddr fa_34_1 rfl) ?_
    refine WL.p rfl rfl rfl (P.loadO 0 Tryz.isAgg9 rfl rfl rfl) ?_
    refine WL.p rfl rfl rfl (P.cmps rfl rfl rfl) ?_
    refine WL.p rfl rfl rfl (P.pickT rfl rfl) ?_
    refine WL.p rfl rfl rfl (P.assign rfl) ?_
    refine WL.nil_ ?_
    refine End.seq ?_
    refine WC.ret ?_
    refine End.ret1 rfl rfl ?_
    exact fun w' hs' => RetV.of (by rw [aliasOK, hs6]; rfl) hs'
  ·
    refine WL.off rfl rfl ?_
    refine WL.off rfl rfl ?_
    refine WL.off rfl rfl ?_
    refine WL.off rfl rfl ?_
    refine WL.off rfl rfl ?_
    refine WL.p rfl rfl rfl (P.pickF rfl rfl) ?_
    refine WL.p rfl rfl rfl (P.assign rfl) ?_
    refine WL.nil_ ?_
    refine End.seq ?_
    refine WC.ret ?_
    refine End.ret1 rfl rfl ?_
    exact fun w' hs' => RetV.of (by rw [aliasOK, hs6]; rfl) hs'

set_option maxRecDepth 100000 in
theorem catN_any (s : ByteArray) (w : World) (hg : Good w) :
    Calls Tryz.prog 207 #[.string s] w (RetV w (.bool (catN s))) := by
  refine enter Tryz.func207 rfl Tryz.ntmps207 rfl ?_
  refine WC.seq ?_
  refine WC.region ?_
  refine WL.p rfl rfl rfl (P.assign rfl) ?_
  refine WL.nil_ ?_
  refine End.seq ?_
  refine WC.seq ?_
  refine WC.region ?_
  refine WL.p rfl rfl rfl (P.move rfl) ?_
  refine WL.callv (ent_of Tryz.func76 rfl rfl) rfl rfl rfl (fun w hs => nameValid_any s w (hg.st hs)) ?_
  refine WL.p rfl rfl rfl (P.move rfl) ?_
  refine WL.split 5 rfl (fun hs5 => ?_) (fun hs5 => ?_)
  ·
    refine WL.p rfl rfl rfl (P.move rfl) ?_
    refine WL.callv (ent_of Tryz.func208 rfl rfl) rfl rfl rfl (fun w hs => count_one s w) ?_
    refine WL.p rfl rfl rfl (P.cmp rfl rfl rfl) ?_
    refine WL.p rfl rfl rfl (P.pickT rfl rfl) ?_
    refine WL.p rfl rfl rfl (P.assign rfl) ?_
    refine WL.nil_ ?_
    refine End.seq ?_
    refine WC.ret ?_
    refine End.ret1 rfl rfl ?_
    exact fun w' hs' => RetV.of (by rw [catN, hs5]; rfl) hs'
  ·
    refine WL.off rfl rfl ?_
    refine WL.off rfl rfl ?_
    refine WL.off rfl rfl ?_
    refine WL.p rfl rfl rfl (P.pickF rfl rfl) ?_
    refine WL.p rfl rfl rfl (P.assign rfl) ?_
    refine WL.nil_ ?_
    refine End.seq ?_
    refine WC.ret ?_
    refine End.ret1 rfl rfl ?_
    exact fun w' hs' => RetV.of (by rw [catN, hs5]; rfl) hs'

set_option maxRecDepth 100000 in
theorem catOK_any (e : E) (va vg : Value) (w : World) :
    Calls Tryz.prog 211 #[.agg (e.cells va vg)] w (RetV w (.bool (catOK e))) := by
  refine enter Tryz.func211 rfl Tryz.ntmps211 rfl ?_
  refine WC.seq ?_
  refine WC.region ?_
  refine WL.box rfl rfl rfl (fun b1 => ?_)
  refine WL.p rfl rfl rfl (P.assign rfl) ?_
  refine WL.nil_ ?_
  refine End.seq ?_
  refine WC.seq ?_
  refine WC.region ?_
  refine WL.p rfl rfl rfl (P.fieldAddr fa_34_10 rfl) ?_
  refine WL.p rfl rfl rfl (P.loadO 0 Tryz.isAgg3 rfl rfl rfl) ?_
  refine WL.row Tryz.underlying22 Tryz.sizeOf3 Tryz.zeroValue3 rfl rfl rfl rfl rfl rfl rfl rfl rfl (fun b5 => ?_)
  refine WL.callv (ent_of Tryz.func201 rfl rfl) rfl rfl rfl (fun w hs => within_any 1 15 _ _ [e.catalog] w (slI_row hs (j := 0) rfl rfl (by simp))) ?_
  refine WL.p rfl rfl rfl (P.assign rfl) ?_
  refine WL.nil_ ?_
  refine End.seq ?_
  refine WC.ret ?_
  refine End.ret1 rfl rfl ?_
  exact fun w' hs' => RetV.of rfl hs'

set_option maxRecDepth 100000 in
theorem alias_w (c q : Nat) (out : ByteArray) (cs : Array Value) (t : ByteArray) (w0 w : World) (H : List It) (hst : St w0 (cB c out none :: .blk q 34 cs :: H) w) (ho : out.size < 1000) (h29 : cs[29]? = some (.string t)) (ht : t.size < 4294900000) :
    Calls Tryz.prog 205 #[.pointer (some ⟨c, 0, none⟩), .pointer (some ⟨q, 0, none⟩)] w (Mo w0 (.tuple #[]) (cB c (out ++ encText t) none :: .blk q 34 cs :: H)) := by
  refine enterH Tryz.func205 rfl Tryz.ntmps205 rfl hst ?_
  refine WC.region ?_
  refine WL.p rfl rfl rfl (P.move rfl) ?_
  refine WL.p rfl rfl rfl (P.move rfl) ?_
  refine WL.p rfl rfl rfl (P.nilCheck rfl) ?_
  refine WL.p rfl rfl rfl (P.fieldAddr fa_34_9 rfl) ?_
  refine WL.callo (H' := _) (ent_of Tryz.func199 rfl rfl) rfl rfl rfl (fun w hs => text_w c out ⟨q, 29, none⟩ t w0 w _ hs (fun cs w hs => (cell_blk (hs.ok 1 _ rfl).2).trans h29) (by omega) (by omega)) ?_
  refine WL.nil_ ?_
  refine End.norm ?_
  refine End.ret0 rfl ?_
  exact fun w' hs' => Mo.of rfl rfl hs'

set_option maxRecDepth 100000 in
theorem alias_r (r c q : Nat) (x : Rd) (out : ByteArray) (cs : Array Value) (w0 w : World) (H : List It) (hst : St w0 (rdB r x :: cB c out (some ⟨r, 0, none⟩) :: .blk q 34 cs :: H) w) (hsz : x.1.size < 4294967296) (hcs : cs.size = 33) :
    Calls Tryz.prog 205 #[.pointer (some ⟨c, 0, none⟩), .pointer (some ⟨q, 0, none⟩)] w (Mo w0 (.tuple #[]) (rdB r (x.text 200).2 :: cB c out (some ⟨r, 0, none⟩) :: .blk q 34 (cs.setIfInBounds 29 (.string (x.text 200).1)) :: H)) := by
  refine enterH Tryz.func205 rfl Tryz.ntmps205 rfl hst ?_
  refine WC.region ?_
  refine WL.p rfl rfl rfl (P.move rfl) ?_
  refine WL.p rfl rfl rfl (P.move rfl) ?_
  refine WL.p rfl rfl rfl (P.nilCheck rfl) ?_
  refine WL.p rfl rfl rfl (P.fieldAddr fa_34_9 rfl) ?_
  refine WL.callo (H' := _) (ent_of Tryz.func199 rfl rfl) rfl rfl rfl (fun w hs => text_r r c q 34 29 x out cs w0 w _ hs hsz (by rw [hcs]; rfl)) ?_
  refine WL.nil_ ?_
  refine End.norm ?_
  refine End.ret0 rfl ?_
  exact fun w' hs' => Mo.of rfl rfl hs'

set_option maxRecDepth 100000 in
theorem cat_w (c q : Nat) (out : ByteArray) (cs : Array Value) (n : Int) (w0 w : World) (H : List It) (hst : St w0 (cB c out none :: .blk q 34 cs :: H) w) (ho : out.size < 1000) (h30 : cs[30]? = some (.int .i64 n)) (hn : 0 ≤ n ∧ n < 9223372036854775808) :
    Calls Tryz.prog 209 #[.pointer (some ⟨c, 0, none⟩), .pointer (some ⟨q, 0, none⟩)] w (Mo w0 (.tuple #[]) (cB c (out ++ strOfNums (encF 9 n)) none :: .blk q 34 cs :: H)) := by
  refine enterH Tryz.func209 rfl Tryz.ntmps209 rfl hst ?_
  refine WC.region ?_
  refine WL.p rfl rfl rfl (P.move rfl) ?_
  refine WL.p rfl rfl rfl (P.move rfl) ?_
  refine WL.p rfl rfl rfl (P.nilCheck rfl) ?_
  refine WL.p rfl rfl rfl (P.fieldAddr fa_34_10 rfl) ?_
  refine WL.callo (H' := _) (ent_of Tryz.func210 rfl rfl) rfl rfl rfl (fun w hs => number_w c out ⟨q, 30, none⟩ n w0 w _ hs (fun cs w hs => (cell_blk (hs.ok 1 _ rfl).2).trans h30) (by omega) hn) ?_
  refine WL.nil_ ?_
  refine End.norm ?_
  refine End.ret0 rfl ?_
  exact fun w' hs' => Mo.of rfl rfl hs'

set_option maxRecDepth 100000 in
theorem cat_r (r c q : Nat) (x : Rd) (out : ByteArray) (cs : Array Value) (w0 w : World) (H : List It) (hst : St w0 (rdB r x :: cB c out (some ⟨r, 0, none⟩) :: .blk q 34 cs :: H) w) (hsz : x.1.size < 4294967296) (hcs : cs.size = 33) :
    Calls Tryz.prog 209 #[.pointer (some ⟨c, 0, none⟩), .pointer (some ⟨q, 0, none⟩)] w (Mo w0 (.tuple #[]) (rdB r x.num.2 :: cB c out (some ⟨r, 0, none⟩) :: .blk q 34 (cs.setIfInBounds 30 (.int .i64 (clampN x.num.1))) :: H)) := by
  refine enterH Tryz.func209 rfl Tryz.ntmps209 rfl hst ?_
  refine WC.region ?_
  refine WL.p rfl rfl rfl (P.move rfl) ?_
  refine WL.p rfl rfl rfl (P.move rfl) ?_
  refine WL.p rfl rfl rfl (P.nilCheck rfl) ?_
  refine WL.p rfl rfl rfl (P.fieldAddr fa_34_10 rfl) ?_
  refine WL.callo (H' := _) (ent_of Tryz.func210 rfl rfl) rfl rfl rfl (fun w hs => number_r r c q 34 30 x out cs w0 w _ hs hsz (by rw [hcs]; rfl)) ?_
  refine WL.nil_ ?_
  refine End.norm ?_
  refine End.ret0 rfl ?_
  exact fun w' hs' => Mo.of rfl rfl hs'

def ali : KF where
  kind := 2
  L := 65
  N := 203
  g := 205
  V := 206
  nm := aliasN
  ok := aliasOK
  out := fun out e => out ++ encText e.target
  rd := fun e x => ({ e with target := (x.text 200).1 }, (x.text 200).2)
  it := fun _ _ => .nil
  va := fun _ _ => vnil
  vg := fun _ _ => vnil
theorem aliasOK_lim {e : E} (h : aliasOK e = true) : e.target.size ≤ 31 := by
  unfold aliasOK at h
  rw [Bool.and_eq_true] at h
  exact name_size h.1
theorem ali_law : ali.Law where
  entN := ent_of Tryz.func203 rfl rfl
  entg := ent_of Tryz.func205 rfl rfl
  entV := ent_of Tryz.func206 rfl rfl
  form := ⟨2, rfl⟩
  name s w hg hsz := aliasN_any s w hg hsz
  okL e va vg w hg ha := aliasOK_any e va vg w hg
  size e out h := by
    have hl := aliasOK_lim h
    have h3 := encText_size e.target
    show (out ++ encText e.target).size < _
    rw [size_append]
    omega
  write e va vg w0 h ha := fun c q out H w ho hs => by
    have hl := aliasOK_lim h
    exact alias_w c q out _ e.target w0 w H hs ho rfl (by omega)
  read e x hal hgr hsz := fun r c q out w0 H w hs =>
    (alias_r r c q x out _ w0 w H hs hsz rfl).mono fun en w' h => ⟨0, h.1, h.2.nil3⟩
  at_ s j e e0 x H w0 w he hal hgr hs hj := by
    subst he
    exact entNil hal hgr
  keep e x := ⟨rfl, rfl⟩
  letter := by decide
  one s e := ⟨rfl, rfl⟩
def cat : KF where
  kind := 3
  L := 67
  N := 207
  g := 209
  V := 211
  nm := catN
  ok := catOK
  out := fun out e => out ++ strOfNums (encF 9 e.catalog)
  rd := fun e x => ({ e with catalog := clampN x.num.1 }, x.num.2)
  it := fun _ _ => .nil
  va := fun _ _ => vnil
  vg := fun _ _ => vnil
theorem cat_law : cat.Law where
  entN := ent_of Tryz.func207 rfl rfl
  entg := ent_of Tryz.func209 rfl rfl
  entV := ent_of Tryz.func211 rfl rfl
  form := ⟨3, rfl⟩
  name s w hg hsz := catN_any s w hg
  okL e va vg w hg ha := catOK_any e va vg w
  size e out h := by
    have h3 := encF_len 9 e.catalog
    show (out ++ strOfNums (encF 9 e.catalog)).size < _
    rw [size_append, strOfNums_size]
    omega
  write e va vg w0 h ha := fun c q out H w ho hs => by
    have hl := inB_one (show inB 1 15 [e.catalog] = true from h)
    exact cat_w c q out _ e.catalog w0 w H hs ho rfl (by omega)
  read e x hal hgr hsz := fun r c q out w0 H w hs =>
    (cat_r r c q x out _ w0 w H hs hsz rfl).mono fun en w' h => ⟨0, h.1, h.2.nil3⟩
  at_ s j e e0 x H w0 w he hal hgr hs hj := by
    subst he
    exact entNil hal hgr
  keep e x := ⟨rfl, rfl⟩
  letter := by decide
  one s e := ⟨rfl, rfl⟩

end Go.Proofs.YtlkkiimmangplaaGreatDoor

/- Keys, records. -/
namespace Go.Proofs.YtlkkiimmangplaaGreatDoor
open Go.RowKit
set_option linter.unusedVariables false
set_option linter.unusedSimpArgs false

def blanks (n : Nat) : ByteArray := ⟨(Lib.repeatL [32] n).toArray⟩
/-- The key of an entry. -/
def KF.key (F : KF) (s : ByteArray) : ByteArray := if 31 < s.size then bempty else strOfNums [F.L] ++ s ++ blanks (31 - s.size)

section
variable {w0 : World} {n : Nat} {o : Oper} {ρ : Env} {H : List It}
variable {d : Nat} {ty t t' : TypeId} {pos : String} {af : Array Edge} {g : Option (Nat × Bool)} {x y z : Operand} {v u : Value}
end
/-- The record of an entry. -/
def KF.record (F : KF) (e : E) : ByteArray := F.key e.name ++ F.out bempty e
end Go.Proofs.YtlkkiimmangplaaGreatDoor

/- Records read back. -/
namespace Go.Proofs.YtlkkiimmangplaaGreatDoor
open Go.RowKit
set_option linter.unusedVariables false
set_option linter.unusedSimpArgs false

/-- The five kinds. -/
structure Fam (K : Nat → KF) : Prop where
  law : ∀ i : Nat, i < 5 → (K i).Law
  kind : ∀ i : Nat, i < 5 → (K i).kind = (i : Int)
  ent : ∀ i : Nat, i < 5 → formsEs.toList[i]? = some ⟨.int .i64 (i : Int), .agg (K i).form, i⟩
theorem Fam.all {K : Nat → KF} (hK : Fam K) {i : Nat} (hi : i < 5) : (⟨.int .i64 (i : Int), .agg (K i).form, i⟩ : MapEntry) ∈ formsEs.toList := List.mem_of_getElem? (hK.ent i hi)
def trimR (s : ByteArray) : ByteArray := ⟨(Lib.trimRightB s.data.toList 32).toArray⟩
def letterOf (s : ByteArray) : Int := ((s.data.toList[(0 : Int).toNat]?.getD 0).toNat : Int)
/-- What a record reads as, at one kind. -/
def dE0 (i : Nat) (s : ByteArray) : E := { E.zero with kind := (i : Int), name := trimR (s.extract 1 32) }
def dE (K : Nat → KF) (s : ByteArray) (i : Nat) : E × Rd := (K i).rd (dE0 i s) (s.extract 32 s.size, 0)
def decI (K : Nat → KF) (s : ByteArray) (i : Nat) : Bool := ((K i).L == letterOf s) && (((dE K s i).2.end_ == 0) && (((if (K i).valid (dE K s i).1 = true then (0 : Int) else 1) == 0) && ((if (K i).valid (dE K s i).1 = true then (K i).record (dE K s i).1 else ⟨#[]⟩).toList == s.toList)))
def unseen (l : List Nat) : Nat := (if 0 ∈ l then 0 else 1) + (if 1 ∈ l then 0 else 1) + (if 2 ∈ l then 0 else 1) + (if 3 ∈ l then 0 else 1) + (if 4 ∈ l then 0 else 1)
/-- What Decode hands back. -/
def DecR (K : Nat → KF) (w : World) (s : ByteArray) (en : Ending) (w' : World) : Prop :=
  (∃ i b : Nat, i < 5 ∧ (32 ≤ s.size ∧ s.size ≤ 200) ∧ decI K s i = true ∧ en = .returned (.tuple #[.agg ((dE K s i).1.cells ((K i).va b (dE K s i).1) ((K i).vg b (dE K s i).1)), .int .i64 0]) ∧ St w [(K i).it b (dE K s i).1] w') ∨
  (((s.size < 32 ∨ 200 < s.size) ∨ ∀ i, i < 5 → decI K s i = false) ∧ RetV w (.tuple #[.agg (E.zero.cells vnil vnil), .int .i64 11]) en w')

end Go.Proofs.YtlkkiimmangplaaGreatDoor

/- Days. -/
namespace Go.Proofs.YtlkkiimmangplaaGreatDoor
open Go.RowKit
set_option linter.unusedVariables false
set_option linter.unusedSimpArgs false

/-- A function value that answers like p at numbers. -/
structure PredI (w : World) (g : Nat) (cap : Array Value) (p : Int → Bool) : Prop where
  ent : Ent g
  at_ : ∀ (q : Int) (w' : World), Below w.heap.size w w' → Calls Tryz.prog g (#[.int .i64 q] ++ cap) w' (RetV w' (.bool (p q)))
theorem PredI.at' {w w' : World} {H : List It} {g : Nat} {cap : Array Value} {p : Int → Bool} (h : PredI w g cap p) (q : Int) (hs : St w H w') : Calls Tryz.prog g (#[.int .i64 q] ++ cap) w' (RetV w' (.bool (p q))) := h.at_ q w' hs.below
theorem idx_hitI {l : List Int} {k : Nat} {x : Int} {p : Int → Bool} (hx : l[k]? = some x) (h : p x = true) : l.any p = true := by rw [List.any_eq_true]; exact ⟨x, List.mem_of_getElem? hx, h⟩

set_option maxRecDepth 100000 in
theorem indexFuncI_any (A : Option Addr) (c : Nat) (xs : List Int) (g : Nat) (cap : Array Value) (p : Int → Bool) (w : World) (hr : Sl encI 1 w A xs) (hp : PredI w g cap p) :
    Calls Tryz.prog 329 #[.slice A xs.length c, .func (.func g) #[] cap] w (Ret w (fun i : Int => decide (0 ≤ i) = xs.any p) (fun i => .int .i64 i) (fun _ => [])) := by
  have hl := hr.1
  refine enter Tryz.func329 rfl Tryz.ntmps329 rfl ?_
  refine WC.seq ?_
  refine WC.region ?_
  refine WL.p rfl rfl rfl (P.assign rfl) ?_
  refine WL.nil_ ?_
  refine End.seq ?_
  refine WC.seq ?_
  refine WC.seq ?_
  refine WC.region ?_
  refine WL.p rfl rfl rfl (P.move rfl) ?_
  refine WL.p rfl rfl rfl (P.lenR Tryz.underlying22 rfl) ?_
  refine WL.p rfl rfl rfl (P.move rfl) ?_
  refine WL.nil_ ?_
  refine End.seq ?_
  refine WC.block ?_
  refine WC.loopD (σ := Nat) (fun k => [(8, .int .i64 k)]) (fun k => []) (fun k => k ≤ xs.length ∧ (xs.take k).any p = false) (fun k => xs.length - k) 0 ⟨Nat.zero_le _, rfl⟩ (Env.sub_cons rfl (Env.sub_nil)) [] rfl rfl ?_
  rintro k ⟨hk, ht⟩
  refine WC.seq ?_
  refine WC.region ?_
  refine WL.p rfl rfl rfl (P.cmp rfl rfl rfl) ?_
  refine WL.nil_ ?_
  refine End.seq ?_
  refine WC.seq ?_
  refine WC.cond rfl (fun hc9 => ?_) (fun hc9 => ?_)
  ·
    try simp only [decide_eq_true_eq, decide_eq_false_iff_not, beq_iff_eq, beq_eq_false_iff_ne, bne_iff_ne, bne_eq_false_iff_eq, Bool.not_eq_true', Bool.not_eq_false', ne_eq, Int.not_lt, Int.not_le] at hc9
    obtain ⟨b, off, rfl, hcx⟩ := hr.at_ (by omega)
    obtain ⟨x, hx⟩ := get_of_lt (xs := xs) (k := k) (by omega)
    refine WC.skip ?_
    refine End.seq ?_
    refine WC.seq ?_
    refine WC.block ?_
    refine WC.seq ?_
    refine WC.region ?_
    refine WL.p rfl rfl rfl (P.move rfl) ?_
    refine WL.p rfl rfl rfl (P.assign rfl) ?_
    refine WL.nil_ ?_
    refine End.seq ?_
    refine WC.seq ?_
    refine WC.region ?_
    refine WL.p rfl rfl rfl (P.move rfl) ?_
    refine WL.p rfl rfl rfl (P.move rfl) ?_
    refine WL.p rfl rfl rfl (P.move rfl) ?_
    refine WL.p rfl rfl rfl (P.elemAddr Tryz.underlying22 Tryz.sizeOf3 rfl rfl (by omega) (by omega)) ?_
    refine WL.p rfl rfl rfl (P.loadB Tryz.isAgg3 rfl (hcx k x hx 0 _ rfl)) ?_
    refine WL.callc hp.ent rfl rfl rfl rfl (fun w hs => hp.at' x hs) ?_
    refine WL.nil_ ?_
    refine End.seq ?_
    refine WC.cond rfl (fun hc16 => ?_) (fun hc16 => ?_)
    ·
      try simp only [decide_eq_true_eq, decide_eq_false_iff_not, beq_iff_eq, beq_eq_false_iff_ne, bne_iff_ne, bne_eq_false_iff_eq, Bool.not_eq_true', Bool.not_eq_false', ne_eq, Int.not_lt, Int.not_le] at hc16
      refine WC.seq ?_
      refine WC.region ?_
      refine WL.p rfl rfl rfl (P.move rfl) ?_
      refine WL.p rfl rfl rfl (P.assign rfl) ?_
      refine WL.nil_ ?_
      refine End.seq ?_
      refine WC.ret ?_
      refine End.blkR ?_
      refine End.thenR ?_
      refine End.thenR ?_
      refine End.blkR ?_
      refine End.thenR ?_
      refine End.ret1 rfl rfl ?_
      exact fun w' hs' => ⟨k, by rw [idx_hitI hx hc16]; simp, rfl, hs'⟩
    ·
      try simp only [decide_eq_true_eq, decide_eq_false_iff_not, beq_iff_eq, beq_eq_false_iff_ne, bne_iff_ne, bne_eq_false_iff_eq, Bool.not_eq_true', Bool.not_eq_false', ne_eq, Int.not_lt, Int.not_le] at hc16
      refine WC.skip ?_
      refine End.blkN ?_
      refine End.seq ?_
      refine WC.region ?_
      refine WL.p rfl rfl rfl (P.ari64 rfl rfl rfl (by omega)) ?_
      refine WL.p rfl rfl rfl (P.move rfl) ?_
      refine WL.nil_ ?_
      refine End.againD (k + 1) ?_ ?_ rfl (Env.sub_cons rfl (Env.sub_nil)) rfl [] rfl rfl
      · exact ⟨by omega, by rw [any_false_snoc hx, ht, Bool.false_or]; simpa using hc16⟩
      · omega
  ·
    try simp only [decide_eq_true_eq, decide_eq_false_iff_not, beq_iff_eq, beq_eq_false_iff_ne, bne_iff_ne, bne_eq_false_iff_eq, Bool.not_eq_true', Bool.not_eq_false', ne_eq, Int.not_lt, Int.not_le] at hc9
    refine WC.exit ?_
    refine End.thenX ?_
    refine End.thenX ?_
    refine End.blkX ?_
    refine End.seq ?_
    refine WC.seq ?_
    refine WC.region ?_
    refine WL.p rfl rfl rfl (P.assign rfl) ?_
    refine WL.nil_ ?_
    refine End.seq ?_
    refine WC.ret ?_
    refine End.ret1 rfl rfl ?_
    have e : k = xs.length := by omega
    rw [List.take_of_length_le (by omega)] at ht
    exact fun w' hs' => ⟨-1, by rw [ht]; rfl, rfl, hs'⟩

set_option maxRecDepth 100000 in
theorem containsFuncI_any (A : Option Addr) (c : Nat) (xs : List Int) (g : Nat) (cap : Array Value) (p : Int → Bool) (w : World) (hr : Sl encI 1 w A xs) (hp : PredI w g cap p) :
    Calls Tryz.prog 303 #[.slice A xs.length c, .func (.func g) #[] cap] w (RetV w (.bool (xs.any p))) := by
  refine enter Tryz.func303 rfl Tryz.ntmps303 rfl ?_
  refine WC.seq ?_
  refine WC.region ?_
  refine WL.p rfl rfl rfl (P.assign rfl) ?_
  refine WL.nil_ ?_
  refine End.seq ?_
  refine WC.seq ?_
  refine WC.region ?_
  refine WL.p rfl rfl rfl (P.move rfl) ?_
  refine WL.p rfl rfl rfl (P.move rfl) ?_
  refine WL.callx (ent_of Tryz.func329 rfl rfl) rfl rfl rfl (fun w hs => indexFuncI_any A c xs g cap p w (hr.st hs) ⟨hp.ent, fun q w' hb => hp.at_ q w' (hs.below.trans (hb.mono hs.size))⟩) (fun i hi => ?_)
  refine WL.p rfl rfl rfl (P.cmp rfl rfl rfl) ?_
  refine WL.p rfl rfl rfl (P.assign rfl) ?_
  refine WL.nil_ ?_
  refine End.seq ?_
  refine WC.ret ?_
  refine End.ret1 rfl rfl ?_
  exact fun w' hs' => RetV.of (by rw [← hi]) hs'

theorem itoaB_size (n : Int) (h : -1000000000000000 ≤ n ∧ n ≤ 1000000000000000) : 1 ≤ (itoaB n).size ∧ (itoaB n).size ≤ 21 := by
  refine ⟨?_, Lib.itoa_length_le n (by omega) (by omega)⟩
  show 1 ≤ (Lib.itoa n).length
  unfold Lib.itoa
  split
  · simp
  · rw [Lib.decDigits]
    split <;> simp
def twoD (n : Int) : ByteArray := (itoaB (n + 100)).extract 1 (itoaB (n + 100)).size
theorem twoD_size (n : Int) (h : 0 ≤ n ∧ n ≤ 100000) : (twoD n).size ≤ 21 := by
  have := itoaB_size (n + 100) (by omega)
  have h2 := extract_size (itoaB (n + 100)) 1 (itoaB (n + 100)).size
  show ((itoaB (n + 100)).extract 1 (itoaB (n + 100)).size).size ≤ 21
  omega
def dash : ByteArray := ⟨#[45]⟩
def fmtP (day : Int) : ByteArray := if dayB day = true then itoaB (yearD day) ++ dash ++ twoD (mdD day).1 ++ dash ++ twoD (mdD day).2 else ⟨#[]⟩
theorem dash_size : dash.size = 1 := rfl
theorem day_lim {day : Int} (hd : dayB day = true) : (0 ≤ yearD day ∧ yearD day ≤ 2200) ∧ (0 ≤ (mdD day).1 ∧ (mdD day).1 ≤ 12) ∧ 0 ≤ (mdD day).2 ∧ (mdD day).2 ≤ 70000 := by
  have hl := dayB_lim hd
  obtain ⟨h1, h2, h3⟩ := yearP_is hd
  have h4 := firstP_big h1 (by omega)
  have h5 : 0 ≤ firstP (yearP day) := by unfold firstP; omega
  have h6 := mdP_pos (lensP (yearP day)) 0 (day - firstP (yearP day)) (fun n hn => by have := lens_mem hn; omega) (by omega) (by omega)
  have h7 : (lensP (yearP day)).length = 12 := rfl
  have e : mdD day = mdP (lensP (yearP day)) 0 (day - firstP (yearP day)) := rfl
  rw [← e, h7] at h6
  refine ⟨?_, by omega, by omega⟩
  unfold yearD
  split <;> omega
theorem fmtP_nil (day : Int) : ((fmtP day).toList == (⟨#[]⟩ : ByteArray).toList) = !dayB day := by
  rw [toList_beq]
  cases hd : dayB day with
  | false =>
    rw [fmtP, if_neg (by rw [hd]; simp)]
    rfl
  | true =>
    refine decide_eq_false fun e => ?_
    have hl := day_lim hd
    have h1 := (itoaB_size (yearD day) (by omega)).1
    have h2 := congrArg ByteArray.size e
    rw [fmtP, if_pos hd] at h2
    simp only [size_append] at h2
    have h3 : (⟨#[]⟩ : ByteArray).size = 0 := rfl
    omega

set_option maxRecDepth 100000 in
theorem two_any (n : Int) (w : World) (hg : Good w) (hn : 0 ≤ n ∧ n ≤ 100000) :
    Calls Tryz.prog 222 #[.int .i64 n] w (RetV w (.string (twoD n))) := by
  have hz := itoaB_size (n + 100) (by omega)
  refine enter Tryz.func222 rfl Tryz.ntmps222 rfl ?_
  refine WC.seq ?_
  refine WC.region ?_
  refine WL.p rfl rfl rfl (P.assign rfl) ?_
  refine WL.nil_ ?_
  refine End.seq ?_
  refine WC.seq ?_
  refine WC.region ?_
  refine WL.p rfl rfl rfl (P.move rfl) ?_
  refine WL.p rfl rfl rfl (P.ari64 rfl rfl rfl (by omega)) ?_
  refine WL.callv (ent_of Tryz.func130 rfl rfl) rfl rfl rfl (fun w hs => itoa_any (n + 100) w (hg.st hs) (by omega)) ?_
  refine WL.p rfl rfl rfl (P.subL Tryz.underlying9 rfl rfl (by omega) (by omega)) ?_
  refine WL.p rfl rfl rfl (P.assign rfl) ?_
  refine WL.nil_ ?_
  refine End.seq ?_
  refine WC.ret ?_
  refine End.ret1 rfl rfl ?_
  exact fun w' hs' => RetV.of rfl hs'

set_option maxRecDepth 100000 in
theorem format_any (day : Int) (w : World) (hg : Good w) :
    Calls Tryz.prog 132 #[.int .i64 day] w (RetV w (.string (fmtP day))) := by
  refine enter Tryz.func132 rfl Tryz.ntmps132 rfl ?_
  refine WC.seq ?_
  refine WC.region ?_
  refine WL.p rfl rfl rfl (P.assign rfl) ?_
  refine WL.nil_ ?_
  refine End.seq ?_
  refine WC.seq ?_
  refine WC.seq ?_
  refine WC.region ?_
  refine WL.p rfl rfl rfl (P.move rfl) ?_
  refine WL.callv (ent_of Tryz.func220 rfl rfl) rfl rfl rfl (fun w hs => isDay_any day w) ?_
  refine WL.p rfl rfl rfl (P.not_ rfl) ?_
  refine WL.nil_ ?_
  refine End.seq ?_
  refine WC.cond rfl (fun hc9 => ?_) (fun hc9 => ?_)
  ·
    refine WC.seq ?_
    refine WC.region ?_
    refine WL.p rfl rfl rfl (P.assign rfl) ?_
    refine WL.nil_ ?_
    refine End.seq ?_
    refine WC.ret ?_
    refine End.thenR ?_
    refine End.ret1 rfl rfl ?_
    exact fun w' hs' => RetV.of (by rw [fmtP, if_neg (by simpa using hc9)]) hs'
  ·
    have hd : dayB day = true := by simpa using hc9
    have hlim := day_lim hd
    have hz1 := itoaB_size (yearD day) (by omega)
    have hz2 := twoD_size (mdD day).1 (by omega)
    have hz3 := twoD_size (mdD day).2 (by omega)
    have hz4 := dash_size
    refine WC.skip ?_
    refine End.seq ?_
    refine WC.seq ?_
    refine WC.region ?_
    refine WL.p rfl rfl rfl (P.move rfl) ?_
    refine WL.callv (ent_of Tryz.func221 rfl rfl) rfl rfl rfl (fun w hs => date_any day w hd) ?_
    refine WL.p rfl rfl rfl (P.move rfl) ?_
    refine WL.p rfl rfl rfl (P.extract rfl rfl) ?_
    refine WL.p rfl rfl rfl (P.extract rfl rfl) ?_
    refine WL.p rfl rfl rfl (P.extract rfl rfl) ?_
    refine WL.p rfl rfl rfl (P.assign rfl) ?_
    refine WL.p rfl rfl rfl (P.assign rfl) ?_
    refine WL.p rfl rfl rfl (P.assign rfl) ?_
    refine WL.nil_ ?_
    refine End.seq ?_
    refine WC.seq ?_
    refine WC.region ?_
    refine WL.p rfl rfl rfl (P.assign rfl) ?_
    refine WL.nil_ ?_
    refine End.seq ?_
    refine WC.seq ?_
    refine WC.region ?_
    refine WL.p rfl rfl rfl (P.move rfl) ?_
    refine WL.callv (ent_of Tryz.func130 rfl rfl) rfl rfl rfl (fun w hs => itoa_any _ w (hg.st hs) (by omega)) ?_
    refine WL.p rfl rfl rfl (P.cat rfl rfl (by show _ + dash.size ≤ _; omega)) ?_
    refine WL.p rfl rfl rfl (P.move rfl) ?_
    refine WL.p rfl rfl rfl (P.move rfl) ?_
    refine WL.callc (ent_of Tryz.func222 rfl rfl) rfl rfl rfl rfl (fun w hs => by rw [Array.append_empty]; exact two_any (mdD day).1 w (hg.st hs) (by omega)) ?_
    refine WL.p rfl rfl rfl (P.cat rfl rfl (by rw [size_append]; show _ + dash.size + _ ≤ _; omega)) ?_
    refine WL.p rfl rfl rfl (P.cat rfl rfl (by rw [size_append, size_append]; show _ + dash.size + _ + dash.size ≤ _; omega)) ?_
    refine WL.p rfl rfl rfl (P.move rfl) ?_
    refine WL.p rfl rfl rfl (P.move rfl) ?_
    refine WL.callc (ent_of Tryz.func222 rfl rfl) rfl rfl rfl rfl (fun w hs => by rw [Array.append_empty]; exact two_any (mdD day).2 w (hg.st hs) (by omega)) ?_
    refine WL.p rfl rfl rfl (P.cat rfl rfl (by rw [size_append, size_append, size_append]; show _ + dash.size + _ + dash.size + _ ≤ _; omega)) ?_
    refine WL.p rfl rfl rfl (P.assign rfl) ?_
    refine WL.nil_ ?_
    refine End.seq ?_
    refine WC.ret ?_
    refine End.ret1 rfl rfl ?_
    exact fun w' hs' => RetV.of (by rw [fmtP, if_pos hd]; rfl) hs'

set_option maxRecDepth 100000 in
theorem day1_any (n : Int) (w : World) (hg : Good w) :
    Calls Tryz.prog 304 #[.int .i64 n] w (RetV w (.bool (!dayB n))) := by
  refine enter Tryz.func304 rfl Tryz.ntmps304 rfl ?_
  refine WC.seq ?_
  refine WC.region ?_
  refine WL.p rfl rfl rfl (P.assign rfl) ?_
  refine WL.nil_ ?_
  refine End.seq ?_
  refine WC.seq ?_
  refine WC.region ?_
  refine WL.p rfl rfl rfl (P.move rfl) ?_
  refine WL.callv (ent_of Tryz.func132 rfl rfl) rfl rfl rfl (fun w hs => format_any n w (hg.st hs)) ?_
  refine WL.p rfl rfl rfl (P.cmps rfl rfl rfl) ?_
  refine WL.p rfl rfl rfl (P.assign rfl) ?_
  refine WL.nil_ ?_
  refine End.seq ?_
  refine WC.ret ?_
  refine End.ret1 rfl rfl ?_
  exact fun w' hs' => RetV.of (congrArg Value.bool (fmtP_nil n)) hs'

set_option maxRecDepth 100000 in
theorem day_any (A : Option Addr) (c : Nat) (xs : List Int) (w : World) (hg : Good w) (hr : Sl encI 1 w A xs) :
    Calls Tryz.prog 264 #[.slice A xs.length c] w (RetV w (.bool (xs.all dayB))) := by
  refine enter Tryz.func264 rfl Tryz.ntmps264 rfl ?_
  refine WC.seq ?_
  refine WC.region ?_
  refine WL.p rfl rfl rfl (P.assign rfl) ?_
  refine WL.nil_ ?_
  refine End.seq ?_
  refine WC.seq ?_
  refine WC.region ?_
  refine WL.p rfl rfl rfl (P.move rfl) ?_
  refine WL.callv (ent_of Tryz.func303 rfl rfl) rfl rfl rfl (fun w hs => containsFuncI_any A c xs 304 #[] (fun n => !dayB n) w (hr.st hs) ⟨ent_of Tryz.func304 rfl rfl, fun q w' hb => by rw [Array.append_empty]; exact day1_any q w' ((hg.st hs).below hb)⟩) ?_
  refine WL.p rfl rfl rfl (P.not_ rfl) ?_
  refine WL.p rfl rfl rfl (P.assign rfl) ?_
  refine WL.nil_ ?_
  refine End.seq ?_
  refine WC.ret ?_
  refine End.ret1 rfl rfl ?_
  exact fun w' hs' => RetV.of (by rw [List.all_eq_not_any_not]) hs'

end Go.Proofs.YtlkkiimmangplaaGreatDoor

/- The fields of data sets in their ranges. -/
namespace Go.Proofs.YtlkkiimmangplaaGreatDoor
open Go.RowKit
set_option linter.unusedVariables false
set_option linter.unusedSimpArgs false

def altE (l : List Int) (i : Nat) : Bool := !(decide (l.getD i 0 < 1)) && (!(decide (1099511627776 < l.getD i 0)) && !(decide (0 < (i : Int)) && decide (l.getD i 0 ≤ l.getD (i - 1) 0)))
def altOK (l : List Int) : Bool := (List.range l.length).all (altE l)
def dataOK (e : E) : Bool := altOK e.alt && (inB 0 1099511627776 [e.ds.length, e.ds.block, e.ds.keyAt, e.ds.keyLength, e.ds.interval, e.ds.area, e.ds.freeInterval, e.ds.freeArea, e.ds.base, e.ds.altAt, e.ds.altLength] && (inB 1 1099511627776 [e.ds.id] && (inB 0 3 [e.ds.org] && (inB 0 2 [e.ds.format] && (inB 0 3 [e.ds.cls] && ((e.ds.volume.toList == (⟨#[]⟩ : ByteArray).toList || wordB e.ds.volume) && ((e.ds.owner.toList == (⟨#[]⟩ : ByteArray).toList || wordB e.ds.owner) && ([e.ds.created, e.ds.expires, e.used].all dayB && decide ((e.alt.length : Int) ≤ 4)))))))))
theorem range_snoc (p : Nat → Bool) (k : Nat) : (List.range (k + 1)).all p = ((List.range k).all p && p k) := by rw [List.range_succ]; simp
theorem dataOK_no {e : E} {k : Nat} (hk : k < e.alt.length) (h : altE e.alt k = false) : dataOK e = false := by
  have h1 : altOK e.alt = false := by
    unfold altOK
    rw [Bool.eq_false_iff]
    intro he
    rw [List.all_eq_true] at he
    rw [he k (List.mem_range.2 hk)] at h
    cases h
  rw [dataOK, h1]; rfl
theorem getD_ofI {l : List Int} {k : Nat} {x : Int} (h : l[k]? = some x) : l.getD k 0 = x := by rw [List.getD, h]; rfl

set_option maxHeartbeats 1000000 in
set_option maxRecDepth 100000 in
theorem dataOK_any (e : E) (va vg : Value) (w : World) (hg : Good w) (ha : EntAt w e va vg) :
    Calls Tryz.prog 195 #[.agg (e.cells va vg)] w (RetV w (.bool (dataOK e))) := by
  obtain ⟨⟨A1, c1, rfl, hc1, hr1⟩, ⟨A2, c2, rfl, hc2, hr2⟩⟩ := ha
  refine enter Tryz.func195 rfl Tryz.ntmps195 rfl ?_
  refine WC.seq ?_
  refine WC.region ?_
  refine WL.box rfl rfl rfl (fun b1 => ?_)
  refine WL.p rfl rfl rfl (P.assign rfl) ?_
  refine WL.nil_ ?_
  refine End.seq ?_
  refine WC.seq ?_
  refine WC.region ?_
  refine WL.p rfl rfl rfl (P.fieldAddr fa_34_2 rfl) ?_
  refine WL.p rfl rfl rfl (P.loadA 0 (vs := e.ds.cells) Tryz.isAgg31 Tryz.sizeOf31 rfl rfl rfl (E.ds_get e _ _)) ?_
  refine WL.alloc Tryz.zeroValue31 rfl rfl (fun b3 => ?_)
  refine WL.storeW 0 Tryz.sizeOf31 rfl rfl rfl rfl rfl rfl rfl ?_
  refine WL.nil_ ?_
  refine End.seq ?_
  refine WC.seq ?_
  refine WC.seq ?_
  refine WC.region ?_
  refine WL.p rfl rfl rfl (P.fieldAddr fa_34_3 rfl) ?_
  refine WL.p rfl rfl rfl (P.loadO 1 Tryz.isAgg22 rfl rfl rfl) ?_
  refine WL.p rfl rfl rfl (P.lenR Tryz.underlying22 rfl) ?_
  refine WL.p rfl rfl rfl (P.move rfl) ?_
  refine WL.nil_ ?_
  refine End.seq ?_
  refine WC.block ?_
  refine WC.loopD (σ := Nat) (fun k => [(11, .int .i64 (k : Nat))]) (fun k => _) (fun k => k ≤ e.alt.length ∧ (List.range k).all (altE e.alt) = true) (fun k => e.alt.length - k) 0 ⟨Nat.zero_le _, rfl⟩ (Env.sub_cons rfl (Env.sub_nil)) [0, 1] rfl rfl ?_
  rintro k ⟨hk, hok⟩
  refine WC.seq ?_
  refine WC.region ?_
  refine WL.p rfl rfl rfl (P.cmp rfl rfl rfl) ?_
  refine WL.nil_ ?_
  refine End.seq ?_
  refine WC.seq ?_
  refine WC.cond rfl (fun hc12 => ?_) (fun hc12 => ?_)
  ·
    have hkl : k < e.alt.length := by have := of_decide_eq_true hc12; omega
    have hl1 := hr1.1
    obtain ⟨b, off, rfl, hcx⟩ := hr1.at_ (by omega)
    obtain ⟨n, hx⟩ := get_of_lt (xs := e.alt) (k := k) hkl
    have hgn := getD_ofI hx
    refine WC.skip ?_
    refine End.seq ?_
    refine WC.seq ?_
    refine WC.block ?_
    refine WC.seq ?_
    refine WC.region ?_
    refine WL.p rfl rfl rfl (P.move rfl) ?_
    refine WL.p rfl rfl rfl (P.elemAddr Tryz.underlying22 Tryz.sizeOf3 rfl rfl (by omega) (by omega)) ?_
    refine WL.p rfl rfl rfl (P.loadB Tryz.isAgg3 rfl (hcx k n hx 0 _ rfl)) ?_
    refine WL.p rfl rfl rfl (P.assign rfl) ?_
    refine WL.p rfl rfl rfl (P.assign rfl) ?_
    refine WL.nil_ ?_
    refine End.seq ?_
    refine WC.seq ?_
    refine WC.region ?_
    refine WL.p rfl rfl rfl (P.move rfl) ?_
    refine WL.p rfl rfl rfl (P.cmp rfl rfl rfl) ?_
    refine WL.p rfl rfl rfl (P.move rfl) ?_
    refine WL.split 18 rfl (fun hs18 => ?_) (fun hs18 => ?_)
    ·
      refine WL.off rfl rfl ?_
      refine WL.off rfl rfl ?_
      refine WL.p rfl rfl rfl (P.pickT rfl rfl) ?_
      refine WL.p rfl rfl rfl (P.move rfl) ?_
      refine WL.off rfl rfl ?_
      refine WL.off rfl rfl ?_
      refine WL.off rfl rfl ?_
      refine WL.offU rfl rfl ?_
      refine WL.offU rfl rfl ?_
      refine WL.offU rfl rfl ?_
      refine WL.offU rfl rfl ?_
      refine WL.offU rfl rfl ?_
      refine WL.offU rfl rfl ?_
      refine WL.offU rfl rfl ?_
      refine WL.offU rfl rfl ?_
      refine WL.off rfl rfl ?_
      refine WL.p rfl rfl rfl (P.pickT rfl rfl) ?_
      refine WL.nil_ ?_
      refine End.seq ?_
      refine WC.condT rfl ?_
      refine WC.seq ?_
      refine WC.region ?_
      refine WL.p rfl rfl rfl (P.assign rfl) ?_
      refine WL.nil_ ?_
      refine End.seq ?_
      refine WC.ret ?_
      refine End.blkR ?_
      refine End.thenR ?_
      refine End.thenR ?_
      refine End.blkR ?_
      refine End.thenR ?_
      refine End.ret1 rfl rfl ?_
      exact fun w' hs' => RetV.of (by rw [dataOK_no hkl (by rw [altE, hgn, hs18]; rfl)]) hs'
    ·
      refine WL.p rfl rfl rfl (P.move rfl) ?_
      refine WL.p rfl rfl rfl (P.cmp rfl rfl rfl) ?_
      refine WL.p rfl rfl rfl (P.pickF rfl rfl) ?_
      refine WL.p rfl rfl rfl (P.move rfl) ?_
      refine WL.split 22 rfl (fun hs22 => ?_) (fun hs22 => ?_)
      ·
        refine WL.off rfl rfl ?_
        refine WL.off rfl rfl ?_
        refine WL.off rfl rfl ?_
        refine WL.offU rfl rfl ?_
        refine WL.offU rfl rfl ?_
        refine WL.offU rfl rfl ?_
        refine WL.offU rfl rfl ?_
        refine WL.offU rfl rfl ?_
        refine WL.offU rfl rfl ?_
        refine WL.offU rfl rfl ?_
        refine WL.offU rfl rfl ?_
        refine WL.off rfl rfl ?_
        refine WL.p rfl rfl rfl (P.pickT rfl rfl) ?_
        refine WL.nil_ ?_
        refine End.seq ?_
        refine WC.condT rfl ?_
        refine WC.seq ?_
        refine WC.region ?_
        refine WL.p rfl rfl rfl (P.assign rfl) ?_
        refine WL.nil_ ?_
        refine End.seq ?_
        refine WC.ret ?_
        refine End.blkR ?_
        refine End.thenR ?_
        refine End.thenR ?_
        refine End.blkR ?_
        refine End.thenR ?_
        refine End.ret1 rfl rfl ?_
        exact fun w' hs' => RetV.of (by rw [dataOK_no hkl (by rw [altE, hgn, hs18, hs22]; rfl)]) hs'
      ·
        refine WL.p rfl rfl rfl (P.move rfl) ?_
        refine WL.p rfl rfl rfl (P.cmp rfl rfl rfl) ?_
        refine WL.p rfl rfl rfl (P.move rfl) ?_
        refine WL.split 25 rfl (fun hs25 => ?_) (fun hs25 => ?_)
        ·
          have hk0 := of_decide_eq_true hs25
          obtain ⟨m, hm⟩ := get_of_lt (xs := e.alt) (k := k - 1) (by omega)
          have hgm := getD_ofI hm
          refine WL.p rfl rfl rfl (P.move rfl) ?_
          refine WL.p rfl rfl rfl (P.fieldAddr fa_34_3 rfl) ?_
          refine WL.p rfl rfl rfl (P.loadO 1 Tryz.isAgg22 rfl rfl rfl) ?_
          refine WL.p rfl rfl rfl (P.move rfl) ?_
          refine WL.p rfl rfl rfl (P.ari64 rfl rfl rfl (by omega)) ?_
          refine WL.p rfl rfl rfl (P.elemAddr Tryz.underlying22 Tryz.sizeOf3 rfl rfl (by omega) (by omega)) ?_
          refine WL.p rfl rfl rfl (P.loadB Tryz.isAgg3 rfl (by have h9 := hcx (k - 1) m hm 0 _ rfl; rw [Int.toNat_natCast] at h9; rw [show (((k : Nat) : Int) - 1).toNat = k - 1 by omega]; exact h9)) ?_
          refine WL.p rfl rfl rfl (P.cmp rfl rfl rfl) ?_
          refine WL.p rfl rfl rfl (P.pickT rfl rfl) ?_
          refine WL.p rfl rfl rfl (P.pickF rfl rfl) ?_
          refine WL.nil_ ?_
          refine End.seq ?_
          refine WC.cond rfl (fun hc35 => ?_) (fun hc35 => ?_)
          ·
            refine WC.seq ?_
            refine WC.region ?_
            refine WL.p rfl rfl rfl (P.assign rfl) ?_
            refine WL.nil_ ?_
            refine End.seq ?_
            refine WC.ret ?_
            refine End.blkR ?_
            refine End.thenR ?_
            refine End.thenR ?_
            refine End.blkR ?_
            refine End.thenR ?_
            refine End.ret1 rfl rfl ?_
            exact fun w' hs' => RetV.of (by rw [dataOK_no hkl (by rw [altE, hgn, hgm, hs18, hs22, hs25, hc35]; rfl)]) hs'
          ·
            refine WC.skip ?_
            refine End.blkN ?_
            refine End.seq ?_
            refine WC.region ?_
            refine WL.p rfl rfl rfl (P.ari64 rfl rfl rfl (by omega)) ?_
            refine WL.p rfl rfl rfl (P.move rfl) ?_
            refine WL.nil_ ?_
            refine End.againD (k + 1) ?_ ?_ rfl (Env.sub_cons rfl (Env.sub_nil)) rfl [0, 1] rfl rfl
            · exact ⟨by omega, by rw [range_snoc, hok, altE, hgn, hgm, hs18, hs22, hs25, hc35]; rfl⟩
            · show e.alt.length - (k + 1) < e.alt.length - k; omega
        ·
          refine WL.off rfl rfl ?_
          refine WL.off rfl rfl ?_
          refine WL.off rfl rfl ?_
          refine WL.off rfl rfl ?_
          refine WL.off rfl rfl ?_
          refine WL.off rfl rfl ?_
          refine WL.off rfl rfl ?_
          refine WL.off rfl rfl ?_
          refine WL.p rfl rfl rfl (P.pickF rfl rfl) ?_
          refine WL.p rfl rfl rfl (P.pickF rfl rfl) ?_
          refine WL.nil_ ?_
          refine End.seq ?_
          refine WC.condF rfl ?_
          refine WC.skip ?_
          refine End.blkN ?_
          refine End.seq ?_
          refine WC.region ?_
          refine WL.p rfl rfl rfl (P.ari64 rfl rfl rfl (by omega)) ?_
          refine WL.p rfl rfl rfl (P.move rfl) ?_
          refine WL.nil_ ?_
          refine End.againD (k + 1) ?_ ?_ rfl (Env.sub_cons rfl (Env.sub_nil)) rfl [0, 1] rfl rfl
          · exact ⟨by omega, by rw [range_snoc, hok, altE, hgn, hs18, hs22, hs25]; rfl⟩
          · show e.alt.length - (k + 1) < e.alt.length - k; omega
  ·
    have ek : k = e.alt.length := by have := of_decide_eq_false hc12; omega
    have hokF : altOK e.alt = true := by rw [altOK, ← ek]; exact hok
    refine WC.exit ?_
    refine End.thenX ?_
    refine End.thenX ?_
    refine End.blkX ?_
    refine End.seq ?_
    refine WC.seq ?_
    refine WC.region ?_
    refine WL.p rfl rfl rfl (P.fieldAddr fa_31_3 rfl) ?_
    refine WL.p rfl rfl rfl (P.loadO 0 Tryz.isAgg3 rfl rfl rfl) ?_
    refine WL.p rfl rfl rfl (P.fieldAddr fa_31_4 rfl) ?_
    refine WL.p rfl rfl rfl (P.loadO 0 Tryz.isAgg3 rfl rfl rfl) ?_
    refine WL.p rfl rfl rfl (P.fieldAddr fa_31_5 rfl) ?_
    refine WL.p rfl rfl rfl (P.loadO 0 Tryz.isAgg3 rfl rfl rfl) ?_
    refine WL.p rfl rfl rfl (P.fieldAddr fa_31_6 rfl) ?_
    refine WL.p rfl rfl rfl (P.loadO 0 Tryz.isAgg3 rfl rfl rfl) ?_
    refine WL.p rfl rfl rfl (P.fieldAddr fa_31_7 rfl) ?_
    refine WL.p rfl rfl rfl (P.loadO 0 Tryz.isAgg3 rfl rfl rfl) ?_
    refine WL.p rfl rfl rfl (P.fieldAddr fa_31_8 rfl) ?_
    refine WL.p rfl rfl rfl (P.loadO 0 Tryz.isAgg3 rfl rfl rfl) ?_
    refine WL.p rfl rfl rfl (P.fieldAddr fa_31_9 rfl) ?_
    refine WL.p rfl rfl rfl (P.loadO 0 Tryz.isAgg3 rfl rfl rfl) ?_
    refine WL.p rfl rfl rfl (P.fieldAddr fa_31_10 rfl) ?_
    refine WL.p rfl rfl rfl (P.loadO 0 Tryz.isAgg3 rfl rfl rfl) ?_
    refine WL.p rfl rfl rfl (P.fieldAddr fa_31_11 rfl) ?_
    refine WL.p rfl rfl rfl (P.loadO 0 Tryz.isAgg3 rfl rfl rfl) ?_
    refine WL.p rfl rfl rfl (P.fieldAddr fa_31_12 rfl) ?_
    refine WL.p rfl rfl rfl (P.loadO 0 Tryz.isAgg3 rfl rfl rfl) ?_
    refine WL.p rfl rfl rfl (P.fieldAddr fa_31_13 rfl) ?_
    refine WL.p rfl rfl rfl (P.loadO 0 Tryz.isAgg3 rfl rfl rfl) ?_
    refine WL.row Tryz.underlying22 Tryz.sizeOf3 Tryz.zeroValue3 rfl rfl rfl rfl rfl rfl rfl rfl rfl (fun b59 => ?_)
    refine WL.callv (ent_of Tryz.func201 rfl rfl) rfl rfl rfl (fun w hs => within_any 0 1099511627776 _ _ [e.ds.length, e.ds.block, e.ds.keyAt, e.ds.keyLength, e.ds.interval, e.ds.area, e.ds.freeInterval, e.ds.freeArea, e.ds.base, e.ds.altAt, e.ds.altLength] w (slI_row hs (j := 0) rfl rfl (by simp))) ?_
    refine WL.p rfl rfl rfl (P.move rfl) ?_
    refine WL.split 61 rfl (fun hs61 => ?_) (fun hs61 => ?_)
    ·
      refine WL.p rfl rfl rfl (P.fieldAddr fa_31_0 rfl) ?_
      refine WL.p rfl rfl rfl (P.loadO 1 Tryz.isAgg3 rfl rfl rfl) ?_
      refine WL.row Tryz.underlying22 Tryz.sizeOf3 Tryz.zeroValue3 rfl rfl rfl rfl rfl rfl rfl rfl rfl (fun b64 => ?_)
      refine WL.callv (ent_of Tryz.func201 rfl rfl) rfl rfl rfl (fun w hs => within_any 1 1099511627776 _ _ [e.ds.id] w (slI_row hs (j := 0) rfl rfl (by simp))) ?_
      refine WL.p rfl rfl rfl (P.pickT rfl rfl) ?_
      refine WL.p rfl rfl rfl (P.move rfl) ?_
      refine WL.split 67 rfl (fun hs67 => ?_) (fun hs67 => ?_)
      ·
        refine WL.p rfl rfl rfl (P.fieldAddr fa_31_1 rfl) ?_
        refine WL.p rfl rfl rfl (P.loadO 2 Tryz.isAgg3 rfl rfl rfl) ?_
        refine WL.row Tryz.underlying22 Tryz.sizeOf3 Tryz.zeroValue3 rfl rfl rfl rfl rfl rfl rfl rfl rfl (fun b70 => ?_)
        refine WL.callv (ent_of Tryz.func201 rfl rfl) rfl rfl rfl (fun w hs => within_any 0 3 _ _ [e.ds.org] w (slI_row hs (j := 0) rfl rfl (by simp))) ?_
        refine WL.p rfl rfl rfl (P.pickT rfl rfl) ?_
        refine WL.p rfl rfl rfl (P.move rfl) ?_
        refine WL.split 73 rfl (fun hs73 => ?_) (fun hs73 => ?_)
        ·
          refine WL.p rfl rfl rfl (P.fieldAddr fa_31_2 rfl) ?_
          refine WL.p rfl rfl rfl (P.loadO 3 Tryz.isAgg3 rfl rfl rfl) ?_
          refine WL.row Tryz.underlying22 Tryz.sizeOf3 Tryz.zeroValue3 rfl rfl rfl rfl rfl rfl rfl rfl rfl (fun b76 => ?_)
          refine WL.callv (ent_of Tryz.func201 rfl rfl) rfl rfl rfl (fun w hs => within_any 0 2 _ _ [e.ds.format] w (slI_row hs (j := 0) rfl rfl (by simp))) ?_
          refine WL.p rfl rfl rfl (P.pickT rfl rfl) ?_
          refine WL.p rfl rfl rfl (P.move rfl) ?_
          refine WL.split 79 rfl (fun hs79 => ?_) (fun hs79 => ?_)
          ·
            refine WL.p rfl rfl rfl (P.fieldAddr fa_31_15 rfl) ?_
            refine WL.p rfl rfl rfl (P.loadO 4 Tryz.isAgg3 rfl rfl rfl) ?_
            refine WL.row Tryz.underlying22 Tryz.sizeOf3 Tryz.zeroValue3 rfl rfl rfl rfl rfl rfl rfl rfl rfl (fun b82 => ?_)
            refine WL.callv (ent_of Tryz.func201 rfl rfl) rfl rfl rfl (fun w hs => within_any 0 3 _ _ [e.ds.cls] w (slI_row hs (j := 0) rfl rfl (by simp))) ?_
            refine WL.p rfl rfl rfl (P.pickT rfl rfl) ?_
            refine WL.p rfl rfl rfl (P.move rfl) ?_
            refine WL.split 85 rfl (fun hs85 => ?_) (fun hs85 => ?_)
            ·
              refine WL.p rfl rfl rfl (P.fieldAddr fa_31_16 rfl) ?_
              refine WL.p rfl rfl rfl (P.loadO 5 Tryz.isAgg9 rfl rfl rfl) ?_
              refine WL.p rfl rfl rfl (P.cmps rfl rfl rfl) ?_
              refine WL.p rfl rfl rfl (P.move rfl) ?_
              refine WL.split 89 rfl (fun hs89 => ?_) (fun hs89 => ?_)
              ·
                refine WL.off rfl rfl ?_
                refine WL.off rfl rfl ?_
                refine WL.off rfl rfl ?_
                refine WL.p rfl rfl rfl (P.pickT rfl rfl) ?_
                refine WL.p rfl rfl rfl (P.pickT rfl rfl) ?_
                refine WL.p rfl rfl rfl (P.move rfl) ?_
                refine WL.p rfl rfl rfl (P.fieldAddr fa_31_17 rfl) ?_
                refine WL.p rfl rfl rfl (P.loadO 5 Tryz.isAgg9 rfl rfl rfl) ?_
                refine WL.p rfl rfl rfl (P.cmps rfl rfl rfl) ?_
                refine WL.p rfl rfl rfl (P.move rfl) ?_
                refine WL.split 99 rfl (fun hs99 => ?_) (fun hs99 => ?_)
                ·
                  refine WL.off rfl rfl ?_
                  refine WL.off rfl rfl ?_
                  refine WL.off rfl rfl ?_
                  refine WL.p rfl rfl rfl (P.pickT rfl rfl) ?_
                  refine WL.p rfl rfl rfl (P.pickT rfl rfl) ?_
                  refine WL.p rfl rfl rfl (P.move rfl) ?_
                  refine WL.p rfl rfl rfl (P.fieldAddr fa_31_18 rfl) ?_
                  refine WL.p rfl rfl rfl (P.loadO 5 Tryz.isAgg3 rfl rfl rfl) ?_
                  refine WL.p rfl rfl rfl (P.fieldAddr fa_31_19 rfl) ?_
                  refine WL.p rfl rfl rfl (P.loadO 5 Tryz.isAgg3 rfl rfl rfl) ?_
                  refine WL.p rfl rfl rfl (P.fieldAddr fa_34_4 rfl) ?_
                  refine WL.p rfl rfl rfl (P.loadO 6 Tryz.isAgg3 rfl rfl rfl) ?_
                  refine WL.row Tryz.underlying22 Tryz.sizeOf3 Tryz.zeroValue3 rfl rfl rfl rfl rfl rfl rfl rfl rfl (fun b112 => ?_)
                  refine WL.callv (ent_of Tryz.func264 rfl rfl) rfl rfl rfl (fun w hs => day_any _ _ [e.ds.created, e.ds.expires, e.used] w (hg.st hs) (slI_row hs (j := 0) rfl rfl (by simp))) ?_
                  refine WL.p rfl rfl rfl (P.pickT rfl rfl) ?_
                  refine WL.p rfl rfl rfl (P.move rfl) ?_
                  refine WL.split 115 rfl (fun hs115 => ?_) (fun hs115 => ?_)
                  ·
                    refine WL.p rfl rfl rfl (P.fieldAddr fa_34_3 rfl) ?_
                    refine WL.p rfl rfl rfl (P.loadO 7 Tryz.isAgg22 rfl rfl rfl) ?_
                    refine WL.p rfl rfl rfl (P.lenR Tryz.underlying22 rfl) ?_
                    refine WL.p rfl rfl rfl (P.cmp rfl rfl rfl) ?_
                    refine WL.p rfl rfl rfl (P.pickT rfl rfl) ?_
                    refine WL.p rfl rfl rfl (P.assign rfl) ?_
                    refine WL.nil_ ?_
                    refine End.seq ?_
                    refine WC.ret ?_
                    refine End.ret1 rfl rfl ?_
                    exact fun w' hs' => RetV.of (by rw [dataOK, hokF]; simp only [*, Bool.true_and, Bool.false_and, Bool.true_or, Bool.false_or]) hs'
                  ·
                    refine WL.off rfl rfl ?_
                    refine WL.off rfl rfl ?_
                    refine WL.off rfl rfl ?_
                    refine WL.off rfl rfl ?_
                    refine WL.p rfl rfl rfl (P.pickF rfl rfl) ?_
                    refine WL.p rfl rfl rfl (P.assign rfl) ?_
                    refine WL.nil_ ?_
                    refine End.seq ?_
                    refine WC.ret ?_
                    refine End.ret1 rfl rfl ?_
                    exact fun w' hs' => RetV.of (by rw [dataOK, hokF]; simp only [*, Bool.true_and, Bool.false_and, Bool.true_or, Bool.false_or]) hs'
                ·
                  refine WL.p rfl rfl rfl (P.fieldAddr fa_31_17 rfl) ?_
                  refine WL.p rfl rfl rfl (P.loadO 5 Tryz.isAgg9 rfl rfl rfl) ?_
                  refine WL.callv (ent_of Tryz.func202 rfl rfl) rfl rfl rfl (fun w hs => word_any _ w (hg.st hs)) ?_
                  refine WL.p rfl rfl rfl (P.pickF rfl rfl) ?_
                  refine WL.p rfl rfl rfl (P.pickT rfl rfl) ?_
                  refine WL.p rfl rfl rfl (P.move rfl) ?_
                  refine WL.split 105 rfl (fun hs105 => ?_) (fun hs105 => ?_)
                  ·
                    refine WL.p rfl rfl rfl (P.fieldAddr fa_31_18 rfl) ?_
                    refine WL.p rfl rfl rfl (P.loadO 5 Tryz.isAgg3 rfl rfl rfl) ?_
                    refine WL.p rfl rfl rfl (P.fieldAddr fa_31_19 rfl) ?_
                    refine WL.p rfl rfl rfl (P.loadO 5 Tryz.isAgg3 rfl rfl rfl) ?_
                    refine WL.p rfl rfl rfl (P.fieldAddr fa_34_4 rfl) ?_
                    refine WL.p rfl rfl rfl (P.loadO 6 Tryz.isAgg3 rfl rfl rfl) ?_
                    refine WL.row Tryz.underlying22 Tryz.sizeOf3 Tryz.zeroValue3 rfl rfl rfl rfl rfl rfl rfl rfl rfl (fun b112 => ?_)
                    refine WL.callv (ent_of Tryz.func264 rfl rfl) rfl rfl rfl (fun w hs => day_any _ _ [e.ds.created, e.ds.expires, e.used] w (hg.st hs) (slI_row hs (j := 0) rfl rfl (by simp))) ?_
                    refine WL.p rfl rfl rfl (P.pickT rfl rfl) ?_
                    refine WL.p rfl rfl rfl (P.move rfl) ?_
                    refine WL.split 115 rfl (fun hs115 => ?_) (fun hs115 => ?_)
                    ·
                      refine WL.p rfl rfl rfl (P.fieldAddr fa_34_3 rfl) ?_
                      refine WL.p rfl rfl rfl (P.loadO 7 Tryz.isAgg22 rfl rfl rfl) ?_
                      refine WL.p rfl rfl rfl (P.lenR Tryz.underlying22 rfl) ?_
                      refine WL.p rfl rfl rfl (P.cmp rfl rfl rfl) ?_
                      refine WL.p rfl rfl rfl (P.pickT rfl rfl) ?_
                      refine WL.p rfl rfl rfl (P.assign rfl) ?_
                      refine WL.nil_ ?_
                      refine End.seq ?_
                      refine WC.ret ?_
                      refine End.ret1 rfl rfl ?_
                      exact fun w' hs' => RetV.of (by rw [dataOK, hokF]; simp only [*, Bool.true_and, Bool.false_and, Bool.true_or, Bool.false_or]) hs'
                    ·
                      refine WL.off rfl rfl ?_
                      refine WL.off rfl rfl ?_
                      refine WL.off rfl rfl ?_
                      refine WL.off rfl rfl ?_
                      refine WL.p rfl rfl rfl (P.pickF rfl rfl) ?_
                      refine WL.p rfl rfl rfl (P.assign rfl) ?_
                      refine WL.nil_ ?_
                      refine End.seq ?_
                      refine WC.ret ?_
                      refine End.ret1 rfl rfl ?_
                      exact fun w' hs' => RetV.of (by rw [dataOK, hokF]; simp only [*, Bool.true_and, Bool.false_and, Bool.true_or, Bool.false_or]) hs'
                  ·
                    refine WL.off rfl rfl ?_
                    refine WL.off rfl rfl ?_
                    refine WL.off rfl rfl ?_
                    refine WL.off rfl rfl ?_
                    refine WL.off rfl rfl ?_
                    refine WL.off rfl rfl ?_
                    refine WL.off rfl rfl ?_
                    refine WL.off rfl rfl ?_
                    refine WL.p rfl rfl rfl (P.pickF rfl rfl) ?_
                    refine WL.p rfl rfl rfl (P.move rfl) ?_
                    refine WL.off rfl rfl ?_
                    refine WL.off rfl rfl ?_
                    refine WL.off rfl rfl ?_
                    refine WL.off rfl rfl ?_
                    refine WL.p rfl rfl rfl (P.pickF rfl rfl) ?_
                    refine WL.p rfl rfl rfl (P.assign rfl) ?_
                    refine WL.nil_ ?_
                    refine End.seq ?_
                    refine WC.ret ?_
                    refine End.ret1 rfl rfl ?_
                    exact fun w' hs' => RetV.of (by rw [dataOK, hokF]; simp only [*, Bool.true_and, Bool.false_and, Bool.true_or, Bool.false_or]) hs'
              ·
                refine WL.p rfl rfl rfl (P.fieldAddr fa_31_16 rfl) ?_
                refine WL.p rfl rfl rfl (P.loadO 5 Tryz.isAgg9 rfl rfl rfl) ?_
                refine WL.callv (ent_of Tryz.func202 rfl rfl) rfl rfl rfl (fun w hs => word_any _ w (hg.st hs)) ?_
                refine WL.p rfl rfl rfl (P.pickF rfl rfl) ?_
                refine WL.p rfl rfl rfl (P.pickT rfl rfl) ?_
                refine WL.p rfl rfl rfl (P.move rfl) ?_
                refine WL.split 95 rfl (fun hs95 => ?_) (fun hs95 => ?_)
                ·
                  refine WL.p rfl rfl rfl (P.fieldAddr fa_31_17 rfl) ?_
                  refine WL.p rfl rfl rfl (P.loadO 5 Tryz.isAgg9 rfl rfl rfl) ?_
                  refine WL.p rfl rfl rfl (P.cmps rfl rfl rfl) ?_
                  refine WL.p rfl rfl rfl (P.move rfl) ?_
                  refine WL.split 99 rfl (fun hs99 => ?_) (fun hs99 => ?_)
                  ·
                    refine WL.off rfl rfl ?_
                    refine WL.off rfl rfl ?_
                    refine WL.off rfl rfl ?_
                    refine WL.p rfl rfl rfl (P.pickT rfl rfl) ?_
                    refine WL.p rfl rfl rfl (P.pickT rfl rfl) ?_
                    refine WL.p rfl rfl rfl (P.move rfl) ?_
                    refine WL.p rfl rfl rfl (P.fieldAddr fa_31_18 rfl) ?_
                    refine WL.p rfl rfl rfl (P.loadO 5 Tryz.isAgg3 rfl rfl rfl) ?_
                    refine WL.p rfl rfl rfl (P.fieldAddr fa_31_19 rfl) ?_
                    refine WL.p rfl rfl rfl (P.loadO 5 Tryz.isAgg3 rfl rfl rfl) ?_
                    refine WL.p rfl rfl rfl (P.fieldAddr fa_34_4 rfl) ?_
                    refine WL.p rfl rfl rfl (P.loadO 6 Tryz.isAgg3 rfl rfl rfl) ?_
                    refine WL.row Tryz.underlying22 Tryz.sizeOf3 Tryz.zeroValue3 rfl rfl rfl rfl rfl rfl rfl rfl rfl (fun b112 => ?_)
                    refine WL.callv (ent_of Tryz.func264 rfl rfl) rfl rfl rfl (fun w hs => day_any _ _ [e.ds.created, e.ds.expires, e.used] w (hg.st hs) (slI_row hs (j := 0) rfl rfl (by simp))) ?_
                    refine WL.p rfl rfl rfl (P.pickT rfl rfl) ?_
                    refine WL.p rfl rfl rfl (P.move rfl) ?_
                    refine WL.split 115 rfl (fun hs115 => ?_) (fun hs115 => ?_)
                    ·
                      refine WL.p rfl rfl rfl (P.fieldAddr fa_34_3 rfl) ?_
                      refine WL.p rfl rfl rfl (P.loadO 7 Tryz.isAgg22 rfl rfl rfl) ?_
                      refine WL.p rfl rfl rfl (P.lenR Tryz.underlying22 rfl) ?_
                      refine WL.p rfl rfl rfl (P.cmp rfl rfl rfl) ?_
                      refine WL.p rfl rfl rfl (P.pickT rfl rfl) ?_
                      refine WL.p rfl rfl rfl (P.assign rfl) ?_
                      refine WL.nil_ ?_
                      refine End.seq ?_
                      refine WC.ret ?_
                      refine End.ret1 rfl rfl ?_
                      exact fun w' hs' => RetV.of (by rw [dataOK, hokF]; simp only [*, Bool.true_and, Bool.false_and, Bool.true_or, Bool.false_or]) hs'
                    ·
                      refine WL.off rfl rfl ?_
                      refine WL.off rfl rfl ?_
                      refine WL.off rfl rfl ?_
                      refine WL.off rfl rfl ?_
                      refine WL.p rfl rfl rfl (P.pickF rfl rfl) ?_
                      refine WL.p rfl rfl rfl (P.assign rfl) ?_
                      refine WL.nil_ ?_
                      refine End.seq ?_
                      refine WC.ret ?_
                      refine End.ret1 rfl rfl ?_
                      exact fun w' hs' => RetV.of (by rw [dataOK, hokF]; simp only [*, Bool.true_and, Bool.false_and, Bool.true_or, Bool.false_or]) hs'
                  ·
                    refine WL.p rfl rfl rfl (P.fieldAddr fa_31_17 rfl) ?_
                    refine WL.p rfl rfl rfl (P.loadO 5 Tryz.isAgg9 rfl rfl rfl) ?_
                    refine WL.callv (ent_of Tryz.func202 rfl rfl) rfl rfl rfl (fun w hs => word_any _ w (hg.st hs)) ?_
                    refine WL.p rfl rfl rfl (P.pickF rfl rfl) ?_
                    refine WL.p rfl rfl rfl (P.pickT rfl rfl) ?_
                    refine WL.p rfl rfl rfl (P.move rfl) ?_
                    refine WL.split 105 rfl (fun hs105 => ?_) (fun hs105 => ?_)
                    ·
                      refine WL.p rfl rfl rfl (P.fieldAddr fa_31_18 rfl) ?_
                      refine WL.p rfl rfl rfl (P.loadO 5 Tryz.isAgg3 rfl rfl rfl) ?_
                      refine WL.p rfl rfl rfl (P.fieldAddr fa_31_19 rfl) ?_
                      refine WL.p rfl rfl rfl (P.loadO 5 Tryz.isAgg3 rfl rfl rfl) ?_
                      refine WL.p rfl rfl rfl (P.fieldAddr fa_34_4 rfl) ?_
                      refine WL.p rfl rfl rfl (P.loadO 6 Tryz.isAgg3 rfl rfl rfl) ?_
                      refine WL.row Tryz.underlying22 Tryz.sizeOf3 Tryz.zeroValue3 rfl rfl rfl rfl rfl rfl rfl rfl rfl (fun b112 => ?_)
                      refine WL.callv (ent_of Tryz.func264 rfl rfl) rfl rfl rfl (fun w hs => day_any _ _ [e.ds.created, e.ds.expires, e.used] w (hg.st hs) (slI_row hs (j := 0) rfl rfl (by simp))) ?_
                      refine WL.p rfl rfl rfl (P.pickT rfl rfl) ?_
                      refine WL.p rfl rfl rfl (P.move rfl) ?_
                      refine WL.split 115 rfl (fun hs115 => ?_) (fun hs115 => ?_)
                      ·
                        refine WL.p rfl rfl rfl (P.fieldAddr fa_34_3 rfl) ?_
                        refine WL.p rfl rfl rfl (P.loadO 7 Tryz.isAgg22 rfl rfl rfl) ?_
                        refine WL.p rfl rfl rfl (P.lenR Tryz.underlying22 rfl) ?_
                        refine WL.p rfl rfl rfl (P.cmp rfl rfl rfl) ?_
                        refine WL.p rfl rfl rfl (P.pickT rfl rfl) ?_
                        refine WL.p rfl rfl rfl (P.assign rfl) ?_
                        refine WL.nil_ ?_
                        refine End.seq ?_
                        refine WC.ret ?_
                        refine End.ret1 rfl rfl ?_
                        exact fun w' hs' => RetV.of (by rw [dataOK, hokF]; simp only [*, Bool.true_and, Bool.false_and, Bool.true_or, Bool.false_or]) hs'
                      ·
                        refine WL.off rfl rfl ?_
                        refine WL.off rfl rfl ?_
                        refine WL.off rfl rfl ?_
                        refine WL.off rfl rfl ?_
                        refine WL.p rfl rfl rfl (P.pickF rfl rfl) ?_
                        refine WL.p rfl rfl rfl (P.assign rfl) ?_
                        refine WL.nil_ ?_
                        refine End.seq ?_
                        refine WC.ret ?_
                        refine End.ret1 rfl rfl ?_
                        exact fun w' hs' => RetV.of (by rw [dataOK, hokF]; simp only [*, Bool.true_and, Bool.false_and, Bool.true_or, Bool.false_or]) hs'
                    ·
                      refine WL.off rfl rfl ?_
                      refine WL.off rfl rfl ?_
                      refine WL.off rfl rfl ?_
                      refine WL.off rfl rfl ?_
                      refine WL.off rfl rfl ?_
                      refine WL.off rfl rfl ?_
                      refine WL.off rfl rfl ?_
                      refine WL.off rfl rfl ?_
                      refine WL.p rfl rfl rfl (P.pickF rfl rfl) ?_
                      refine WL.p rfl rfl rfl (P.move rfl) ?_
                      refine WL.off rfl rfl ?_
                      refine WL.off rfl rfl ?_
                      refine WL.off rfl rfl ?_
                      refine WL.off rfl rfl ?_
                      refine WL.p rfl rfl rfl (P.pickF rfl rfl) ?_
                      refine WL.p rfl rfl rfl (P.assign rfl) ?_
                      refine WL.nil_ ?_
                      refine End.seq ?_
                      refine WC.ret ?_
                      refine End.ret1 rfl rfl ?_
                      exact fun w' hs' => RetV.of (by rw [dataOK, hokF]; simp only [*, Bool.true_and, Bool.false_and, Bool.true_or, Bool.false_or]) hs'
                ·
                  refine WL.off rfl rfl ?_
                  refine WL.off rfl rfl ?_
                  refine WL.off rfl rfl ?_
                  refine WL.off rfl rfl ?_
                  refine WL.offU rfl rfl ?_
                  refine WL.offU rfl rfl ?_
                  refine WL.offU rfl rfl ?_
                  refine WL.off rfl rfl ?_
                  refine WL.p rfl rfl rfl (P.pickF rfl rfl) ?_
                  refine WL.p rfl rfl rfl (P.move rfl) ?_
                  refine WL.off rfl rfl ?_
                  refine WL.off rfl rfl ?_
                  refine WL.off rfl rfl ?_
                  refine WL.off rfl rfl ?_
                  refine WL.off rfl rfl ?_
                  refine WL.off rfl rfl ?_
                  refine WL.off rfl rfl ?_
                  refine WL.off rfl rfl ?_
                  refine WL.p rfl rfl rfl (P.pickF rfl rfl) ?_
                  refine WL.p rfl rfl rfl (P.move rfl) ?_
                  refine WL.off rfl rfl ?_
                  refine WL.off rfl rfl ?_
                  refine WL.off rfl rfl ?_
                  refine WL.off rfl rfl ?_
                  refine WL.p rfl rfl rfl (P.pickF rfl rfl) ?_
                  refine WL.p rfl rfl rfl (P.assign rfl) ?_
                  refine WL.nil_ ?_
                  refine End.seq ?_
                  refine WC.ret ?_
                  refine End.ret1 rfl rfl ?_
                  exact fun w' hs' => RetV.of (by rw [dataOK, hokF]; simp only [*, Bool.true_and, Bool.false_and, Bool.true_or, Bool.false_or]) hs'
            ·
              refine WL.off rfl rfl ?_
              refine WL.off rfl rfl ?_
              refine WL.off rfl rfl ?_
              refine WL.off rfl rfl ?_
              refine WL.offU rfl rfl ?_
              refine WL.offU rfl rfl ?_
              refine WL.offU rfl rfl ?_
              refine WL.off rfl rfl ?_
              refine WL.p rfl rfl rfl (P.pickF rfl rfl) ?_
              refine WL.p rfl rfl rfl (P.move rfl) ?_
              refine WL.off rfl rfl ?_
              refine WL.off rfl rfl ?_
              refine WL.off rfl rfl ?_
              refine WL.off rfl rfl ?_
              refine WL.offU rfl rfl ?_
              refine WL.offU rfl rfl ?_
              refine WL.offU rfl rfl ?_
              refine WL.off rfl rfl ?_
              refine WL.p rfl rfl rfl (P.pickF rfl rfl) ?_
              refine WL.p rfl rfl rfl (P.move rfl) ?_
              refine WL.off rfl rfl ?_
              refine WL.off rfl rfl ?_
              refine WL.off rfl rfl ?_
              refine WL.off rfl rfl ?_
              refine WL.off rfl rfl ?_
              refine WL.off rfl rfl ?_
              refine WL.off rfl rfl ?_
              refine WL.off rfl rfl ?_
              refine WL.p rfl rfl rfl (P.pickF rfl rfl) ?_
              refine WL.p rfl rfl rfl (P.move rfl) ?_
              refine WL.off rfl rfl ?_
              refine WL.off rfl rfl ?_
              refine WL.off rfl rfl ?_
              refine WL.off rfl rfl ?_
              refine WL.p rfl rfl rfl (P.pickF rfl rfl) ?_
              refine WL.p rfl rfl rfl (P.assign rfl) ?_
              refine WL.nil_ ?_
              refine End.seq ?_
              refine WC.ret ?_
              refine End.ret1 rfl rfl ?_
              exact fun w' hs' => RetV.of (by rw [dataOK, hokF]; simp only [*, Bool.true_and, Bool.false_and, Bool.true_or, Bool.false_or]) hs'
          ·
            refine WL.off rfl rfl ?_
            refine WL.off rfl rfl ?_
            refine WL.off rfl rfl ?_
            refine WL.off rfl rfl ?_
            refine WL.p rfl rfl rfl (P.pickF rfl rfl) ?_
            refine WL.p rfl rfl rfl (P.move rfl) ?_
            refine WL.off rfl rfl ?_
            refine WL.off rfl rfl ?_
            refine WL.off rfl rfl ?_
            refine WL.off rfl rfl ?_
            refine WL.offU rfl rfl ?_
            refine WL.offU rfl rfl ?_
            refine WL.offU rfl rfl ?_
            refine WL.off rfl rfl ?_
            refine WL.p rfl rfl rfl (P.pickF rfl rfl) ?_
            refine WL.p rfl rfl rfl (P.move rfl) ?_
            refine WL.off rfl rfl ?_
            refine WL.off rfl rfl ?_
            refine WL.off rfl rfl ?_
            refine WL.off rfl rfl ?_
            refine WL.offU rfl rfl ?_
            refine WL.offU rfl rfl ?_
            refine WL.offU rfl rfl ?_
            refine WL.off rfl rfl ?_
            refine WL.p rfl rfl rfl (P.pickF rfl rfl) ?_
            refine WL.p rfl rfl rfl (P.move rfl) ?_
            refine WL.off rfl rfl ?_
            refine WL.off rfl rfl ?_
            refine WL.off rfl rfl ?_
            refine WL.off rfl rfl ?_
            refine WL.off rfl rfl ?_
            refine WL.off rfl rfl ?_
            refine WL.off rfl rfl ?_
            refine WL.off rfl rfl ?_
            refine WL.p rfl rfl rfl (P.pickF rfl rfl) ?_
            refine WL.p rfl rfl rfl (P.move rfl) ?_
            refine WL.off rfl rfl ?_
            refine WL.off rfl rfl ?_
            refine WL.off rfl rfl ?_
            refine WL.off rfl rfl ?_
            refine WL.p rfl rfl rfl (P.pickF rfl rfl) ?_
            refine WL.p rfl rfl rfl (P.assign rfl) ?_
            refine WL.nil_ ?_
            refine End.seq ?_
            refine WC.ret ?_
            refine End.ret1 rfl rfl ?_
            exact fun w' hs' => RetV.of (by rw [dataOK, hokF]; simp only [*, Bool.true_and, Bool.false_and, Bool.true_or, Bool.false_or]) hs'
        ·
          refine WL.off rfl rfl ?_
          refine WL.off rfl rfl ?_
          refine WL.off rfl rfl ?_
          refine WL.off rfl rfl ?_
          refine WL.p rfl rfl rfl (P.pickF rfl rfl) ?_
          refine WL.p rfl rfl rfl (P.move rfl) ?_
          refine WL.off rfl rfl ?_
          refine WL.off rfl rfl ?_
          refine WL.off rfl rfl ?_
          refine WL.off rfl rfl ?_
          refine WL.p rfl rfl rfl (P.pickF rfl rfl) ?_
          refine WL.p rfl rfl rfl (P.move rfl) ?_
          refine WL.off rfl rfl ?_
          refine WL.off rfl rfl ?_
          refine WL.off rfl rfl ?_
          refine WL.off rfl rfl ?_
          refine WL.offU rfl rfl ?_
          refine WL.offU rfl rfl ?_
          refine WL.offU rfl rfl ?_
          refine WL.off rfl rfl ?_
          refine WL.p rfl rfl rfl (P.pickF rfl rfl) ?_
          refine WL.p rfl rfl rfl (P.move rfl) ?_
          refine WL.off rfl rfl ?_
          refine WL.off rfl rfl ?_
          refine WL.off rfl rfl ?_
          refine WL.off rfl rfl ?_
          refine WL.offU rfl rfl ?_
          refine WL.offU rfl rfl ?_
          refine WL.offU rfl rfl ?_
          refine WL.off rfl rfl ?_
          refine WL.p rfl rfl rfl (P.pickF rfl rfl) ?_
          refine WL.p rfl rfl rfl (P.move rfl) ?_
          refine WL.off rfl rfl ?_
          refine WL.off rfl rfl ?_
          refine WL.off rfl rfl ?_
          refine WL.off rfl rfl ?_
          refine WL.off rfl rfl ?_
          refine WL.off rfl rfl ?_
          refine WL.off rfl rfl ?_
          refine WL.off rfl rfl ?_
          refine WL.p rfl rfl rfl (P.pickF rfl rfl) ?_
          refine WL.p rfl rfl rfl (P.move rfl) ?_
          refine WL.off rfl rfl ?_
          refine WL.off rfl rfl ?_
          refine WL.off rfl rfl ?_
          refine WL.off rfl rfl ?_
          refine WL.p rfl rfl rfl (P.pickF rfl rfl) ?_
          refine WL.p rfl rfl rfl (P.assign rfl) ?_
          refine WL.nil_ ?_
          refine End.seq ?_
          refine WC.ret ?_
          refine End.ret1 rfl rfl ?_
          exact fun w' hs' => RetV.of (by rw [dataOK, hokF]; simp only [*, Bool.true_and, Bool.false_and, Bool.true_or, Bool.false_or]) hs'
      ·
        refine WL.off rfl rfl ?_
        refine WL.off rfl rfl ?_
        refine WL.off rfl rfl ?_
        refine WL.off rfl rfl ?_
        refine WL.p rfl rfl rfl (P.pickF rfl rfl) ?_
        refine WL.p rfl rfl rfl (P.move rfl) ?_
        refine WL.off rfl rfl ?_
        refine WL.off rfl rfl ?_
        refine WL.off rfl rfl ?_
        refine WL.off rfl rfl ?_
        refine WL.p rfl rfl rfl (P.pickF rfl rfl) ?_
        refine WL.p rfl rfl rfl (P.move rfl) ?_
        refine WL.off rfl rfl ?_
        refine WL.off rfl rfl ?_
        refine WL.off rfl rfl ?_
        refine WL.off rfl rfl ?_
        refine WL.p rfl rfl rfl (P.pickF rfl rfl) ?_
        refine WL.p rfl rfl rfl (P.move rfl) ?_
        refine WL.off rfl rfl ?_
        refine WL.off rfl rfl ?_
        refine WL.off rfl rfl ?_
        refine WL.off rfl rfl ?_
        refine WL.offU rfl rfl ?_
        refine WL.offU rfl rfl ?_
        refine WL.offU rfl rfl ?_
        refine WL.off rfl rfl ?_
        refine WL.p rfl rfl rfl (P.pickF rfl rfl) ?_
        refine WL.p rfl rfl rfl (P.move rfl) ?_
        refine WL.off rfl rfl ?_
        refine WL.off rfl rfl ?_
        refine WL.off rfl rfl ?_
        refine WL.off rfl rfl ?_
        refine WL.offU rfl rfl ?_
        refine WL.offU rfl rfl ?_
        refine WL.offU rfl rfl ?_
        refine WL.off rfl rfl ?_
        refine WL.p rfl rfl rfl (P.pickF rfl rfl) ?_
        refine WL.p rfl rfl rfl (P.move rfl) ?_
        refine WL.off rfl rfl ?_
        refine WL.off rfl rfl ?_
        refine WL.off rfl rfl ?_
        refine WL.off rfl rfl ?_
        refine WL.off rfl rfl ?_
        refine WL.off rfl rfl ?_
        refine WL.off rfl rfl ?_
        refine WL.off rfl rfl ?_
        refine WL.p rfl rfl rfl (P.pickF rfl rfl) ?_
        refine WL.p rfl rfl rfl (P.move rfl) ?_
        refine WL.off rfl rfl ?_
        refine WL.off rfl rfl ?_
        refine WL.off rfl rfl ?_
        refine WL.off rfl rfl ?_
        refine WL.p rfl rfl rfl (P.pickF rfl rfl) ?_
        refine WL.p rfl rfl rfl (P.assign rfl) ?_
        refine WL.nil_ ?_
        refine End.seq ?_
        refine WC.ret ?_
        refine End.ret1 rfl rfl ?_
        exact fun w' hs' => RetV.of (by rw [dataOK, hokF]; simp only [*, Bool.true_and, Bool.false_and, Bool.true_or, Bool.false_or]) hs'
    ·
      refine WL.off rfl rfl ?_
      refine WL.off rfl rfl ?_
      refine WL.off rfl rfl ?_
      refine WL.off rfl rfl ?_
      refine WL.p rfl rfl rfl (P.pickF rfl rfl) ?_
      refine WL.p rfl rfl rfl (P.move rfl) ?_
      refine WL.off rfl rfl ?_
      refine WL.off rfl rfl ?_
      refine WL.off rfl rfl ?_
      refine WL.off rfl rfl ?_
      refine WL.p rfl rfl rfl (P.pickF rfl rfl) ?_
      refine WL.p rfl rfl rfl (P.move rfl) ?_
      refine WL.off rfl rfl ?_
      refine WL.off rfl rfl ?_
      refine WL.off rfl rfl ?_
      refine WL.off rfl rfl ?_
      refine WL.p rfl rfl rfl (P.pickF rfl rfl) ?_
      refine WL.p rfl rfl rfl (P.move rfl) ?_
      refine WL.off rfl rfl ?_
      refine WL.off rfl rfl ?_
      refine WL.off rfl rfl ?_
      refine WL.off rfl rfl ?_
      refine WL.p rfl rfl rfl (P.pickF rfl rfl) ?_
      refine WL.p rfl rfl rfl (P.move rfl) ?_
      refine WL.off rfl rfl ?_
      refine WL.off rfl rfl ?_
      refine WL.off rfl rfl ?_
      refine WL.off rfl rfl ?_
      refine WL.offU rfl rfl ?_
      refine WL.offU rfl rfl ?_
      refine WL.offU rfl rfl ?_
      refine WL.off rfl rfl ?_
      refine WL.p rfl rfl rfl (P.pickF rfl rfl) ?_
      refine WL.p rfl rfl rfl (P.move rfl) ?_
      refine WL.off rfl rfl ?_
      refine WL.off rfl rfl ?_
      refine WL.off rfl rfl ?_
      refine WL.off rfl rfl ?_
      refine WL.offU rfl rfl ?_
      refine WL.offU rfl rfl ?_
      refine WL.offU rfl rfl ?_
      refine WL.off rfl rfl ?_
      refine WL.p rfl rfl rfl (P.pickF rfl rfl) ?_
      refine WL.p rfl rfl rfl (P.move rfl) ?_
      refine WL.off rfl rfl ?_
      refine WL.off rfl rfl ?_
      refine WL.off rfl rfl ?_
      refine WL.off rfl rfl ?_
      refine WL.off rfl rfl ?_
      refine WL.off rfl rfl ?_
      refine WL.off rfl rfl ?_
      refine WL.off rfl rfl ?_
      refine WL.p rfl rfl rfl (P.pickF rfl rfl) ?_
      refine WL.p rfl rfl rfl (P.move rfl) ?_
      refine WL.off rfl rfl ?_
      refine WL.off rfl rfl ?_
      refine WL.off rfl rfl ?_
      refine WL.off rfl rfl ?_
      refine WL.p rfl rfl rfl (P.pickF rfl rfl) ?_
      refine WL.p rfl rfl rfl (P.assign rfl) ?_
      refine WL.nil_ ?_
      refine End.seq ?_
      refine WC.ret ?_
      refine End.ret1 rfl rfl ?_
      exact fun w' hs' => RetV.of (by rw [dataOK, hokF]; simp only [*, Bool.true_and, Bool.false_and, Bool.true_or, Bool.false_or]) hs'

end Go.Proofs.YtlkkiimmangplaaGreatDoor

/- The kind of data sets; the five kinds together. -/
namespace Go.Proofs.YtlkkiimmangplaaGreatDoor
open Go.RowKit
set_option linter.unusedVariables false
set_option linter.unusedSimpArgs false
def nX : Nat → Rd → Rd
  | 0, x => x
  | k + 1, x => (nX k x).num.2
/-- The description of a data set, as it is read. -/
def dsRd (x : Rd) : DS := { id := clampN (nX 0 x).num.1, org := clampN (nX 1 x).num.1, format := clampN (nX 2 x).num.1, length := clampN (nX 3 x).num.1, block := clampN (nX 4 x).num.1, keyAt := clampN (nX 5 x).num.1, keyLength := clampN (nX 6 x).num.1, interval := clampN (nX 7 x).num.1, area := clampN (nX 8 x).num.1, freeInterval := clampN (nX 9 x).num.1, freeArea := clampN (nX 10 x).num.1, base := clampN (nX 11 x).num.1, altAt := clampN (nX 12 x).num.1, altLength := clampN (nX 13 x).num.1, unique := (dY1 x).bool.1, cls := clampN (dY1 x).bool.2.num.1, volume := ((dY1 x).bool.2.num.2.text 200).1, owner := (((dY1 x).bool.2.num.2.text 200).2.text 200).1, created := clampN (dY4 x).num.1, expires := clampN (dY4 x).num.2.num.1, archived := (dY7 x).bool.1 }
def dat : KF where
  kind := 0
  L := 68
  N := 76
  g := 194
  V := 195
  nm := nameB
  ok := dataOK
  out := dsOut
  rd := fun e x => ({ e with ds := dsRd x, alt := (dA x).1, used := clampN (dA x).2.num.1 }, (dA x).2.num.2)
  it := fun s e => aIt s e.alt
  va := fun s e => gVal s e.alt.length
  vg := fun _ _ => vnil
set_option maxHeartbeats 1000000 in
set_option maxRecDepth 100000 in
theorem dC_cells (e : E) (x : Rd) (v : Value) : dC (e.cells vnil vnil) x v = ({ e with ds := dsRd x, alt := (dA x).1, used := clampN (dA x).2.num.1 } : E).cells v vnil := by
  simp only [dC, dC8, insN, List.foldl_cons, List.foldl_nil, E.set2, E.set3, E.set4, E.set5, E.set6, E.set7, E.set8, E.set9, E.set10, E.set11, E.set12, E.set13, E.set14, E.set15, E.set16, E.set17, E.set18, E.set19, E.set20, E.set21, E.set22, E.set23, E.set24]
  rfl
theorem owner_size2 {s : ByteArray} (h : (s.toList == (⟨#[]⟩ : ByteArray).toList || wordB s) = true) : s.size ≤ 31 := by
  rw [toList_beq] at h
  exact owner_size h
theorem inB_mem {lo hi : Int} {l : List Int} (h : inB lo hi l = true) : ∀ x ∈ l, lo ≤ x ∧ x ≤ hi := fun x hx => by
  unfold inB at h
  rw [Bool.and_eq_true, List.all_eq_true, List.all_eq_true] at h
  exact ⟨of_decide_eq_true (h.1 x hx), of_decide_eq_true (h.2 x hx)⟩
theorem altOK_mem {l : List Int} (h : altOK l = true) : ∀ x ∈ l, 1 ≤ x ∧ x ≤ 1099511627776 := fun x hx => by
  obtain ⟨i, hi⟩ := List.mem_iff_getElem?.1 hx
  have hlt := (List.getElem?_eq_some_iff.1 hi).1
  unfold altOK at h
  have h1 := List.all_eq_true.1 h i (List.mem_range.2 hlt)
  unfold altE at h1
  rw [getD_ofI hi] at h1
  simp only [Bool.and_eq_true, Bool.not_eq_true', decide_eq_false_iff_not] at h1
  omega
theorem dataOK_lim {e : E} (h : dataOK e = true) : (∀ x ∈ e.alt, 1 ≤ x ∧ x ≤ 1099511627776) ∧ (∀ x ∈ dsNums e, 0 ≤ x ∧ x ≤ 1099511627776) ∧ (0 ≤ e.ds.cls ∧ e.ds.cls ≤ 3) ∧ e.ds.volume.size ≤ 31 ∧ e.ds.owner.size ≤ 31 ∧ (∀ x ∈ [e.ds.created, e.ds.expires, e.used], 0 ≤ x ∧ x ≤ 65536) ∧ e.alt.length ≤ 4 := by
  unfold dataOK at h
  simp only [Bool.and_eq_true] at h
  obtain ⟨h0, h1, h2, h3, h4, h5, h6, h7, h8, h9⟩ := h
  have g2 := inB_one h2
  have g3 := inB_one h3
  have g4 := inB_one h4
  have g1 := inB_mem h1
  refine ⟨altOK_mem h0, fun x hx => ?_, inB_one h5, owner_size2 (by simpa using h6), owner_size2 (by simpa using h7), fun x hx => dayB_lim (List.all_eq_true.1 h8 x hx), by have := of_decide_eq_true h9; omega⟩
  unfold dsNums at hx
  rcases List.mem_cons.1 hx with rfl | hx
  · omega
  · rcases List.mem_cons.1 hx with rfl | hx
    · omega
    · rcases List.mem_cons.1 hx with rfl | hx
      · omega
      · exact g1 x hx
theorem slI_blk {w0 w : World} {H : List It} {j b : Nat} {l : List Int} (hs : St w0 H w) (hj : H[j]? = some (.blk b 3 (ints l).toArray)) (hl : l.length ≤ 1000) : Sl encI 1 w (some ⟨b, 0, none⟩) l := slI_row hs hj rfl (by omega)
theorem dat_law : dat.Law where
  entN := ent_of Tryz.func76 rfl rfl
  entg := ent_of Tryz.func194 rfl rfl
  entV := ent_of Tryz.func195 rfl rfl
  form := ⟨0, rfl⟩
  name s w hg _ := nameValid_any s w hg
  okL e va vg w hg ha := dataOK_any e va vg w hg ha
  size e out h := by
    obtain ⟨_, _, _, h4, h5, _, h7⟩ := dataOK_lim h
    have z1 := numsOut_size (dsNums e) out
    have z1' : (dsNums e).length = 14 := rfl
    have z2 := encF_len 9 e.ds.cls
    have z3 := encText_size e.ds.volume
    have z4 := encText_size e.ds.owner
    have z5 := numsOut_size [e.ds.created, e.ds.expires] (dsOut1 out e)
    have z6 := encF_len 9 e.alt.length
    have z7 := numsOut_size e.alt (dsOut2 out e)
    have z8 := encF_len 9 e.used
    have y1 : (dsOut1 out e).size ≤ out.size + 400 := by simp only [dsOut1, size_append, strOfNums_size, List.length_cons, List.length_nil]; omega
    have y2 : (dsOut2 out e).size ≤ out.size + 600 := by simp only [dsOut2, size_append, strOfNums_size, List.length_cons, List.length_nil] at z5 ⊢; omega
    show (dsOut out e).size < _
    simp only [dsOut, size_append, strOfNums_size]
    omega
  write e va vg w0 h ha := fun c q out H w ho hs => by
    obtain ⟨h1, h2, h3, h4, h5, h6, h7⟩ := dataOK_lim h
    obtain ⟨⟨A1, c1, rfl, hc1, hr1⟩, _⟩ := ha
    exact data_w c q out e A1 c1 vg w0 w H hs hr1 (fun x hx => by have := h2 x hx; omega) (by omega) (fun x hx => by have := h6 x (by simp only [List.mem_cons, List.not_mem_nil, or_false] at hx ⊢; omega); omega) (by have := h6 e.used (by simp); omega) (fun x hx => by have := h1 x hx; omega) h7 ho (by omega) (by omega)
  read e x hal hgr hsz := fun r c q out w0 H w hs => by
    refine (data_r r c q x out _ w0 w H hs hsz rfl rfl).mono fun en w' h => ?_
    obtain ⟨b, h1, h2⟩ := h
    refine ⟨b, h1, ?_⟩
    have hlen : (dA x).1.length = dM x := aRead_len _ _
    show St w0 (rdB r (dA x).2.num.2 :: cB c out (some ⟨r, 0, none⟩) :: aIt b (dA x).1 :: .blk q 34 (({ e with ds := dsRd x, alt := (dA x).1, used := clampN (dA x).2.num.1 } : E).cells (gVal b (dA x).1.length) vnil) :: H) w'
    rw [hlen, ← dC_cells]
    exact h2
  at_ s j e e0 x H w0 w he hal hgr hs hj := by
    subst he
    have hlen : (dA x).1.length = dM x := aRead_len _ _
    have hcn := cntR_le4 (dY8 x)
    have hpn : dM x ≤ 5 := by unfold dM; omega
    refine ⟨?_, ⟨none, 0, ?_, ?_, ?_⟩⟩
    · show ∃ A c, gVal s (dA x).1.length = .slice A (dA x).1.length c ∧ (dA x).1.length ≤ c ∧ Sl encI 1 w A (dA x).1
      by_cases h0 : (dA x).1.length = 0
      · refine ⟨none, 0, by rw [gVal, if_pos h0, h0]; rfl, by omega, ?_⟩
        rw [List.length_eq_zero_iff.1 h0]
        exact Sl.nil _ _ _
      · refine ⟨some ⟨s, 0, none⟩, (dA x).1.length, by rw [gVal, if_neg h0], Nat.le_refl _, ?_⟩
        have hj' : H[j]? = some (.blk s 3 (ints (dA x).1).toArray) := by
          rw [hj]
          show some (aIt s (dA x).1) = _
          rw [aIt, if_neg h0]
        exact slI_blk hs hj' (by omega)
    · show vnil = .slice none e0.grants.length 0
      rw [hgr]; rfl
    · show e0.grants.length ≤ 0
      rw [hgr]; exact Nat.le_refl _
    · show Sl Gr.cells 3 w none e0.grants
      rw [hgr]; exact Sl.nil _ _ _
  keep e x := ⟨rfl, rfl⟩
  letter := by decide
  one s e := by
    refine ⟨?_, rfl⟩
    show (gVal s e.alt.length).oneCell' = true
    unfold gVal
    split <;> rfl
/-- The five kinds. -/
def kinds : Nat → KF
  | 0 => dat
  | 1 => grp
  | 2 => ali
  | 3 => cat
  | _ => prof
theorem kinds_fam : Fam kinds where
  law i hi := by
    rcases (by omega : i = 0 ∨ i = 1 ∨ i = 2 ∨ i = 3 ∨ i = 4) with rfl | rfl | rfl | rfl | rfl
    · exact dat_law
    · exact grp_law
    · exact ali_law
    · exact cat_law
    · exact prof_law
  kind i hi := by
    rcases (by omega : i = 0 ∨ i = 1 ∨ i = 2 ∨ i = 3 ∨ i = 4) with rfl | rfl | rfl | rfl | rfl <;> rfl
  ent i hi := by
    rcases (by omega : i = 0 ∨ i = 1 ∨ i = 2 ∨ i = 3 ∨ i = 4) with rfl | rfl | rfl | rfl | rfl <;> rfl
end Go.Proofs.YtlkkiimmangplaaGreatDoor

/- Valid, Key, Encode at any entry. -/
namespace Go.Proofs.YtlkkiimmangplaaGreatDoor
open Go.RowKit
set_option linter.unusedVariables false
set_option linter.unusedSimpArgs false
def isKind (k : Int) : Bool := decide (0 ≤ k) && decide (k ≤ 4)
theorem isKind_no {k : Int} (h : isKind k = false) : Instr.findNow (.int .i64) (.int .i64 k) formsEs.toList 0 = some none := by
  have hk : ¬ (0 ≤ k ∧ k ≤ 4) := fun hc => by simp [isKind, hc] at h
  have h0 : (k == 0) = false := beq_eq_false_iff_ne.2 (by omega)
  have h1 : (k == 1) = false := beq_eq_false_iff_ne.2 (by omega)
  have h2 : (k == 2) = false := beq_eq_false_iff_ne.2 (by omega)
  have h3 : (k == 3) = false := beq_eq_false_iff_ne.2 (by omega)
  have h4 : (k == 4) = false := beq_eq_false_iff_ne.2 (by omega)
  simp [formsEs, Instr.findNow, Instr.sameNow, h0, h1, h2, h3, h4]
theorem isKind_yes {k : Int} (h : isKind k = true) : ∃ i : Nat, i < 5 ∧ k = (i : Int) := by
  have hk : 0 ≤ k ∧ k ≤ 4 := by simpa [isKind] using h
  exact ⟨k.toNat, by omega, by omega⟩
def kindAt (k : Int) : KF := kinds k.toNat
def validE (e : E) : Bool := isKind e.kind && (kindAt e.kind).valid e
def keyE (k : Int) (s : ByteArray) : ByteArray := if isKind k = true then (kindAt k).key s else ⟨#[]⟩
def recE (e : E) : ByteArray := if validE e = true then (kindAt e.kind).record e else ⟨#[]⟩
theorem validE_any (e : E) (va vg : Value) (w : World) (hg : Good w) (ha : EntAt w e va vg) (hsz : e.name.size < 4294967281) : Calls Tryz.prog 47 #[.agg (e.cells va vg)] w (RetV w (.bool (validE e))) := by
  cases h : isKind e.kind with
  | false =>
    rw [show validE e = false by rw [validE, h]; rfl]
    exact valid_none e va vg w (isKind_no h)
  | true =>
    obtain ⟨i, hi, hk⟩ := isKind_yes h
    have hK : kindAt e.kind = kinds i := by rw [kindAt, hk, Int.toNat_natCast]
    rw [show validE e = (kinds i).valid e by rw [validE, h, hK]; rfl]
    exact valid_any (kinds i) (kinds_fam.law i hi) e va vg w hg (hk.trans (kinds_fam.kind i hi).symm) ha hsz
end Go.Proofs.YtlkkiimmangplaaGreatDoor

/- Few entries. -/
namespace Go.Proofs.YtlkkiimmangplaaGreatDoor
open Go.RowKit
set_option linter.unusedVariables false
set_option linter.unusedSimpArgs false

def who20 (g : Gr) : Bool := !decide (20 < (g.who.size : Int))
def few33 (e : E) : Bool := e.grants.all who20 && (decide ((e.name.size : Int) ≤ 60) && (decide ((e.alt.length : Int) ≤ 8) && (decide ((e.grants.length : Int) ≤ 12) && decide ((e.owner.size : Int) + (e.target.size : Int) + (e.ds.volume.size : Int) + (e.ds.owner.size : Int) ≤ 200))))
end Go.Proofs.YtlkkiimmangplaaGreatDoor

/- The lines of an entry's text. -/
namespace Go.Proofs.YtlkkiimmangplaaGreatDoor
open Go.RowKit
set_option linter.unusedVariables false
set_option linter.unusedSimpArgs false

/-- A line of an entry's text. -/
def lineOf (word value : ByteArray) : ByteArray := ⟨#[32, 32]⟩ ++ word ++ ⟨#[32]⟩ ++ value
def addL (l : List ByteArray) (word value : ByteArray) : List ByteArray := if value = bempty then l else l ++ [lineOf word value]
/-- The lines so far: the variable that bears them, and their row. -/
abbrev lnB (b q n c : Nat) : It := .blk b 48 #[.slice (some ⟨q, 0, none⟩) n c]
abbrev lnR (q c : Nat) (l : List ByteArray) : It := .row 9 1 (.slice (some ⟨q, 0, none⟩) l.length c) l.length (strs l)
def LnR (w0 : World) (b : Nat) (l : List ByteArray) (H : List It) (en : Ending) (w' : World) : Prop := ∃ q c : Nat, en = .returned (.tuple #[]) ∧ St w0 (lnB b q l.length c :: lnR q c l :: H) w'
end Go.Proofs.YtlkkiimmangplaaGreatDoor

/- Numbers, dates, truths in an entry's text. -/
namespace Go.Proofs.YtlkkiimmangplaaGreatDoor
open Go.RowKit
set_option linter.unusedVariables false
set_option linter.unusedSimpArgs false

abbrev lnF (b5 b : Nat) : It := .blk b5 141 #[.func (.func 128) #[] #[.pointer (some ⟨b, 0, none⟩)]]
def LnS (w0 : World) (b5 b : Nat) (l : List ByteArray) (H : List It) (en : Ending) (w' : World) : Prop := ∃ q c : Nat, en = .returned (.tuple #[]) ∧ St w0 (lnB b q l.length c :: lnR q c l :: lnF b5 b :: H) w'
def addN (l : List ByteArray) (word : ByteArray) (n : Int) : List ByteArray := if n = 0 then l else addL l word (itoaB n)

def addD (l : List ByteArray) (word : ByteArray) (n : Int) : List ByteArray := if n = 0 then l else addL l word (fmtP n)
def yesB : ByteArray := ⟨#[121, 101, 115]⟩
def addY (l : List ByteArray) (word : ByteArray) (x : Bool) : List ByteArray := if x = true then addL l word yesB else l

end Go.Proofs.YtlkkiimmangplaaGreatDoor

/- The text of an entry. -/
namespace Go.Proofs.YtlkkiimmangplaaGreatDoor
open Go.RowKit
set_option linter.unusedVariables false
set_option linter.unusedSimpArgs false

def kindWords : List ByteArray := [⟨#[100, 97, 116, 97]⟩, ⟨#[103, 114, 111, 117, 112]⟩, ⟨#[97, 108, 105, 97, 115]⟩, ⟨#[99, 97, 116, 97, 108, 111, 103]⟩, ⟨#[112, 114, 111, 102, 105, 108, 101]⟩]
abbrev kindLine (k : Nat) (name : ByteArray) : ByteArray := kindWords.getD k bempty ++ ⟨#[32]⟩ ++ name
def levelWords : List ByteArray := [⟨#[110, 111, 110, 101]⟩, ⟨#[114, 101, 97, 100]⟩, ⟨#[117, 112, 100, 97, 116, 101]⟩, ⟨#[97, 108, 116, 101, 114]⟩]

end Go.Proofs.YtlkkiimmangplaaGreatDoor

/- The codec in plain words: what is read is what was written. -/
namespace Go.Proofs.YtlkkiimmangplaaGreatDoor
open Go.RowKit
set_option linter.unusedVariables false
set_option linter.unusedSimpArgs false

abbrev by8 (n : Int) : UInt8 := UInt8.ofNat n.toNat
theorem by8_nat {n : Int} (h0 : 0 ≤ n) (h1 : n < 256) : ((by8 n).toNat : Int) = n := by
  show ((UInt8.ofNat n.toNat).toNat : Int) = n
  rw [UInt8.toNat_ofNat']
  omega
theorem drop_cons_get {l : List UInt8} {i : Nat} {b : UInt8} {r : List UInt8} (h : l.drop i = b :: r) : l[i]? = some b ∧ l.drop (i + 1) = r := by
  constructor
  · have := congrArg (fun q => q[0]?) h
    simpa using this
  · rw [← List.drop_drop, h]; rfl
/-- A number is read as it was written. -/
theorem decF_encF : ∀ (f i : Nat) (n acc : Int) (l rest : List UInt8), f + i = 9 → 0 ≤ n → n < 2 ^ (64 - 7 * i) → (0 < i → 0 < n) → l.drop i = (encF f n).map by8 ++ rest →
    decF (f + 1) i acc l = (acc + n * 2 ^ (7 * i), (i : Int) + (encF f n).length)
  | f, i, n, acc, l, rest, hf, h0, h1, hp, hl => by
    by_cases hs : n < 128
    · rw [encF_small hs] at hl ⊢
      obtain ⟨hg, _⟩ := drop_cons_get (by simpa using hl)
      have hb : ((UInt8.ofNat n.toNat).toNat : Int) = n := by8_nat h0 (by omega)
      rw [decF_done hg (fun h9 => by obtain ⟨rfl, h9⟩ := h9; simp at h1; omega) (by omega) (fun h => by have := hp h.2; omega), hb]
      rw [Int.emod_eq_of_lt h0 hs]
      simp
    · cases f with
      | zero =>
        have : i = 9 := by omega
        subst this
        simp at h1
        omega
      | succ f =>
        rw [encF_big (by omega)] at hl ⊢
        obtain ⟨hg, hd⟩ := drop_cons_get (by simpa using hl)
        have hb : ((UInt8.ofNat (n % 128 + 128).toNat).toNat : Int) = n % 128 + 128 := by8_nat (n := n % 128 + 128) (by omega) (by omega)
        rw [decF_next hg (fun h9 => by omega) (by omega), hb]
        have h2 : n / 128 < 2 ^ (64 - 7 * (i + 1)) := lim_step (by omega) h0 h1
        have ih := decF_encF f (i + 1) (n / 128) (acc + (n % 128 + 128) % 128 * 2 ^ (7 * i)) l rest (by omega) (by omega) h2 (by omega) (by simpa using hd)
        rw [ih]
        have e1 : (n % 128 + 128) % 128 = n % 128 := by omega
        have e2 : (2 : Int) ^ (7 * (i + 1)) = 128 * 2 ^ (7 * i) := by rw [show 7 * (i + 1) = 7 + 7 * i by omega, Int.pow_add]; rfl
        rw [e1, e2]
        refine Prod.ext ?_ ?_
        · show acc + n % 128 * 2 ^ (7 * i) + n / 128 * (128 * 2 ^ (7 * i)) = acc + n * 2 ^ (7 * i)
          have e3 : n * 2 ^ (7 * i) = (n % 128 + 128 * (n / 128)) * 2 ^ (7 * i) := by rw [Int.emod_add_mul_ediv]
          rw [e3, Int.add_mul, Int.add_assoc]
          congr 1
          congr 1
          rw [Int.mul_comm 128 (n / 128), Int.mul_assoc]
        · simp; omega
theorem data_append (a b : ByteArray) : (a ++ b).data.toList = a.data.toList ++ b.data.toList := by rw [ByteArray.data_append, Array.toList_append]
theorem encF_pos (f : Nat) (n : Int) : 0 < (encF f n).length := by
  cases f with
  | zero => simp [encF]
  | succ f => unfold encF; split <;> simp
theorem extract_rest (a b : ByteArray) (k : Nat) (hk : a.size = k) : (a ++ b).extract k (a ++ b).size = b := by
  apply toList_inj.1
  rw [ByteArray.toList_eq, ByteArray.toList_eq, ByteArray.data_extract]
  have hs : (a ++ b).size = (a.data.toList ++ b.data.toList).length := by rw [← data_append]; rfl
  have hk' : a.data.toList.length = k := hk
  simp only [Array.toList_extract, List.extract_eq_take_drop, data_append, hs]
  rw [List.drop_append_of_le_length (by omega), List.drop_eq_nil_of_le (by omega), List.nil_append, List.take_of_length_le (by simp; omega)]
theorem extract_front (a b : ByteArray) (k : Nat) (hk : a.size = k) : (a ++ b).extract 0 k = a := by
  apply toList_inj.1
  rw [ByteArray.toList_eq, ByteArray.toList_eq, ByteArray.data_extract]
  have hk' : a.data.toList.length = k := hk
  simp only [Array.toList_extract, List.extract_eq_take_drop, data_append]
  simp [← hk']
theorem num_back (n : Int) (t : ByteArray) (h0 : 0 ≤ n) (h1 : n < 9223372036854775808) : Rd.num (strOfNums (encF 9 n) ++ t, 0) = (n, (t, 0)) := by
  have hd : decF 10 0 0 (strOfNums (encF 9 n) ++ t).data.toList = (n, ((encF 9 n).length : Int)) := by
    have := decF_encF 9 0 n 0 (strOfNums (encF 9 n) ++ t).data.toList t.data.toList rfl h0 (by simp; omega) (fun h => absurd h (by decide)) (by rw [data_append, strOfNums_data]; rfl)
    simpa using this
  unfold Rd.num
  simp only [hd]
  have hp := encF_pos 9 n
  unfold Rd.take
  simp only [ne_eq, not_true_eq_false, if_false]
  rw [if_neg (by omega)]
  simp only [Int.toNat_natCast]
  rw [extract_rest _ _ _ (by rw [strOfNums_size])]
theorem bool_back (b : Bool) (t : ByteArray) : Rd.bool (strOfNums [if b then 1 else 0] ++ t, 0) = (b, (t, 0)) := by
  have hg : (strOfNums [if b then 1 else 0] ++ t).data.toList = (if b then 1 else 0) :: t.data.toList := by
    rw [data_append, strOfNums_data]
    cases b <;> rfl
  have hne : ¬ strOfNums [if b then 1 else 0] ++ t = bempty := fun e => by
    have := congrArg (fun q : ByteArray => q.data.toList) e
    simp only [hg] at this
    cases this
  have h1 : boolLen (strOfNums [if b then 1 else 0] ++ t) = 1 := by
    unfold boolLen
    rw [hg, if_neg]
    rintro (h | h)
    · exact hne h
    · cases b <;> simp at h
  have h2 : boolVal (strOfNums [if b then 1 else 0] ++ t) = b := by
    unfold boolVal
    rw [hg]
    cases b <;> rfl
  unfold Rd.bool Rd.take
  simp only [h1, h2]
  simp only [ne_eq, not_true_eq_false, if_false, Int.reduceEq]
  rw [extract_rest _ _ _ (by rw [strOfNums_size]; rfl)]
theorem text_back (s t : ByteArray) (most : Int) (h : (s.size : Int) ≤ most) (hm : most < 4294967296) : Rd.text (encText s ++ t, 0) most = (s, (t, 0)) := by
  have hn := num_back s.size (s ++ t) (by omega) (by omega)
  have hc : Rd.count (encText s ++ t, 0) most = ((s.size : Int), (s ++ t, 0)) := by
    unfold Rd.count encText
    rw [ByteArray.append_assoc, hn]
    simp only [ne_eq, not_true_eq_false, if_false]
    rw [if_neg (by omega)]
  unfold Rd.text
  rw [hc]
  simp only [ne_eq, not_true_eq_false, if_false]
  rw [if_neg (by rw [ByteArray.size_append]; omega)]
  simp only [Int.toNat_natCast]
  rw [extract_front _ _ _ rfl, extract_rest _ _ _ rfl]
theorem clampN_small {n : Int} (h : n ≤ 1099511627776) : clampN n = n := if_neg (by omega)
end Go.Proofs.YtlkkiimmangplaaGreatDoor

/- The reference's names: the parts of a text. -/
namespace Go.Proofs.YtlkkiimmangplaaGreatDoor
open Go.RowKit
set_option linter.unusedVariables false
set_option linter.unusedSimpArgs false

/-- The parts of a text between full stops, by its letters. -/
def sp : List UInt8 → List (List UInt8)
  | [] => [[]]
  | c :: r => if c = 46 then [] :: sp r else match sp r with
    | h :: t => (c :: h) :: t
    | [] => [[c]]
abbrev mkB (l : List UInt8) : ByteArray := ⟨l.toArray⟩
def spB (l : List UInt8) : List ByteArray := (sp l).map mkB
theorem sp_el : ∀ (l : List UInt8) (q : List UInt8), q ∈ sp l → q.length ≤ l.length
  | [], q, h => by simp [sp] at h; simp [h]
  | c :: r, q, h => by
    unfold sp at h
    split at h
    · rcases List.mem_cons.1 h with rfl | h
      · simp
      · have := sp_el r q h
        simp; omega
    · split at h
      · rename_i a t e
        rcases List.mem_cons.1 h with rfl | h
        · have := sp_el r a (by rw [e]; simp)
          simp; omega
        · have := sp_el r q (by rw [e]; simp [h])
          simp; omega
      · simp at h; simp [h]
theorem spB_el {l : List UInt8} {q : ByteArray} (h : q ∈ spB l) : q.size ≤ l.length := by
  obtain ⟨x, hx, rfl⟩ := List.mem_map.1 h
  have := sp_el l x hx
  simpa [mkB, ByteArray.size] using this
end Go.Proofs.YtlkkiimmangplaaGreatDoor

/- The reference's names. -/
namespace Go.Proofs.YtlkkiimmangplaaGreatDoor
open Go.RowKit
set_option linter.unusedVariables false
set_option linter.unusedSimpArgs false

/-- The byte at a place, as a number. -/
abbrev byteAt (l : List UInt8) (k : Nat) : Int := ((l[(k : Int).toNat]?.getD 0).toNat : Int)
/-- A byte of a qualifier, or of one with stars: a star does not follow a star. -/
def okAt (stars : Bool) (l : List UInt8) (k : Nat) : Bool :=
  (isUpper (byteAt l k) || (isDigit (byteAt l k) || (stars && (byteAt l k == 42)))) && !((stars && (byteAt l k == 42)) && (decide ((0 : Int) < (k : Nat)) && (((l[((k : Int) - 1).toNat]?.getD 0).toNat : Int) == 42)))
/-- A part of a name or of a pattern. -/
def partB (stars : Bool) (s : ByteArray) : Bool :=
  (stars && (s.toList == (⟨#[42, 42]⟩ : ByteArray).toList)) || (decide (1 ≤ s.size) && (decide (s.size ≤ 8) && (!isDigit (byteAt s.data.toList 0) && (List.range s.size).all (okAt stars s.data.toList))))
/-- A name or a pattern. -/
def validB (stars : Bool) (s : ByteArray) : Bool := decide (1 ≤ s.size) && (decide (s.size ≤ 31) && (spB s.data.toList).all (partB stars))
def rgroupB (s : ByteArray) : Bool := validB false s && (decide (s.size ≤ 22) && !((spB s.data.toList).any isGenQ))
/-- Texts with full stops between them. -/
def joinB : List ByteArray → ByteArray
  | [] => ⟨#[]⟩
  | x :: r => r.foldl (fun s y => s ++ dot ++ y) x
def sizes (l : List ByteArray) : Nat := (l.map (fun x => x.size + 1)).sum
/-- The group and the number of a generation's name. -/
def rsplitB (s : ByteArray) : ByteArray × Int × Bool :=
  if genNum ((spB s.data.toList).getLast?.getD ⟨#[]⟩).data.toList = 0 ∨ rgroupB (joinB ((spB s.data.toList).take ((spB s.data.toList).length - 1))) = false then (⟨#[]⟩, 0, false) else (joinB ((spB s.data.toList).take ((spB s.data.toList).length - 1)), genNum ((spB s.data.toList).getLast?.getD ⟨#[]⟩).data.toList, true)
def qualR (s : ByteArray) : Bool := validB false s && decide ((spB s.data.toList).length = 1)

def ownerR (s : ByteArray) : Bool := (s.toList == (⟨#[]⟩ : ByteArray).toList) || qualR s

end Go.Proofs.YtlkkiimmangplaaGreatDoor

/- The reference's generations. -/
namespace Go.Proofs.YtlkkiimmangplaaGreatDoor
open Go.RowKit
set_option linter.unusedVariables false
set_option linter.unusedSimpArgs false

/-- A group is valid, as the reference says it. -/
def rgroupV (e : E) : Bool := decide (e = e.uses) && (rgroupB e.name && (decide (1 ≤ e.limit) && (decide (e.limit ≤ 63) && (decide (0 ≤ e.last) && (decide (e.last ≤ 9999) && ownerR e.owner)))))

def rgenV (e : E) (xs : List Int) : Bool := decide (e.kind = 1) && (rgroupV e && fits xs e.last)
/-- How many go when one comes. -/
def cntG (limit : Int) (empty : Bool) (n : Nat) : Int := if 0 < (n : Int) + 1 - limit ∧ empty = true then (n : Int) else (n : Int) + 1 - limit
def mx0 (k : Int) : Nat := (if k > 0 then k else 0).toNat
/-- RollIn, as the reference does it: what goes. -/
def rin (e : E) (xs : List Int) (n : Int) : Except Int (List Int) :=
  if rgenV e xs = false then .error 1 else if n < 1 ∨ 9999 < n then .error 2 else if n ≤ e.last then .error 9 else .ok (xs.take (mx0 (cntG e.limit e.empty xs.length)))
/-- What RollIn of the reference hands back. -/
def RinR (w : World) (e : E) (va vg : Value) (n : Int) (r : Except Int (List Int)) : Ending → World → Prop := match r with
  | .error c => RetV w (.tuple #[.agg (E.zero.cells vnil vnil), vnil, .int .i64 c])
  | .ok gone => Ret w (fun _ : Nat × Nat => True) (fun p => .tuple #[.agg ({ e with last := n }.cells va vg), .slice (some ⟨p.1, 0, none⟩) gone.length p.2, .int .i64 0]) (fun p => [.row 3 1 (.slice (some ⟨p.1, 0, none⟩) gone.length p.2) gone.length (ints gone)])
end Go.Proofs.YtlkkiimmangplaaGreatDoor

/- Names in plain words: the program's and the reference's say the same. -/
namespace Go.Proofs.YtlkkiimmangplaaGreatDoor
open Go.RowKit
set_option linter.unusedVariables false
set_option linter.unusedSimpArgs false

theorem idx_cases (c : UInt8) : ∀ l : List UInt8, (Lib.indexByte l c = -1 ∧ c ∉ l) ∨ ∃ a r, l = a ++ c :: r ∧ c ∉ a ∧ Lib.indexByte l c = a.length
  | [] => .inl ⟨rfl, by simp⟩
  | b :: l => by
    by_cases hb : b = c
    · subst hb
      exact .inr ⟨[], l, rfl, by simp, by simp [Lib.indexByte]⟩
    · have hbc : (b == c) = false := by simpa using hb
      rcases idx_cases c l with ⟨h1, h2⟩ | ⟨a, r, rfl, h2, h3⟩
      · refine .inl ⟨by simp [Lib.indexByte, hbc, h1], by simp [h2]; exact fun e => hb e.symm⟩
      · refine .inr ⟨b :: a, r, rfl, by simp [h2]; exact fun e => hb e.symm, ?_⟩
        have hne : ¬ (Lib.indexByte (a ++ c :: r) c == -1) = true := by rw [h3]; simp
        unfold Lib.indexByte
        rw [hbc, if_neg (by simp), if_neg hne, h3]
        simp
theorem sp_dotless : ∀ l : List UInt8, (46 : UInt8) ∉ l → sp l = [l]
  | [], _ => rfl
  | c :: r, h => by
    have hc : ¬ c = 46 := fun e => h (by simp [e])
    rw [sp, if_neg hc, sp_dotless r (fun h' => h (by simp [h']))]
theorem sp_at : ∀ (a r : List UInt8), (46 : UInt8) ∉ a → sp (a ++ 46 :: r) = a :: sp r
  | [], r, _ => by simp [sp]
  | c :: a, r, h => by
    have hc : ¬ c = 46 := fun e => h (by simp [e])
    rw [List.cons_append, sp, if_neg hc, sp_at a r (fun h' => h (by simp [h']))]
theorem indexB_dot (s : ByteArray) : Lib.indexB s dot = Lib.indexByte s.data.toList 46 := by
  have h := Go.Lib.one s dot rfl
  exact h
theorem mkB_data (s : ByteArray) : mkB s.data.toList = s := by
  apply toList_inj.1
  rw [ByteArray.toList_eq]
theorem extract_data (s : ByteArray) (a b : Nat) : (s.extract a b).data.toList = (s.data.toList.take b).drop a := by
  rw [← extract_bytes, ByteArray.toList_eq]
theorem eq_of_data {s t : ByteArray} (h : s.data.toList = t.data.toList) : s = t := by
  apply toList_inj.1
  rw [ByteArray.toList_eq, ByteArray.toList_eq, h]
theorem parts_sp : ∀ (k : Nat) (s : ByteArray), s.size ≤ k → parts s = spB s.data.toList
  | k, s, hk => by
    rcases idx_cases 46 s.data.toList with ⟨h1, h2⟩ | ⟨a, r, h1, h2, h3⟩
    · have hi : Lib.indexB s dot = -1 := by rw [indexB_dot, h1]
      unfold parts
      rw [Lib.countB_miss s dot hi, Lib.splitB_zero, spB, sp_dotless _ h2]
      simp [mkB_data]
    · have hi : Lib.indexB s dot = a.length := by rw [indexB_dot, h3]
      have hs : s.size = a.length + (1 + r.length) := by
        have : s.size = s.data.toList.length := rfl
        rw [this, h1]; simp; omega
      have e1 : s.extract 0 (a.length + 0) = mkB a := by
        apply eq_of_data
        rw [extract_data, h1]
        simp
      have e2 : (s.extract (a.length + dot.size) s.size).data.toList = r := by
        rw [extract_data, List.take_of_length_le (by rw [hs, h1]; simp; omega), h1]
        rw [show dot.size = 1 from rfl, ← List.drop_drop, List.drop_append_of_le_length (Nat.le_refl _)]
        simp
      have hlen : (s.extract (a.length + dot.size) s.size).size = r.length := by
        have : (s.extract (a.length + dot.size) s.size).size = (s.extract (a.length + dot.size) s.size).data.toList.length := rfl
        rw [this, e2]
      cases k with
      | zero => omega
      | succ k =>
        have ih := parts_sp k (s.extract (a.length + dot.size) s.size) (by omega)
        unfold parts at ih ⊢
        rw [Lib.countB_hit s dot a.length (by decide) hi, Nat.add_comm, Lib.splitB_hit _ _ _ _ _ hi, ih, e2, e1, h1]
        unfold spB
        rw [sp_at a r h2]
        rfl
theorem parts_eq (s : ByteArray) : parts s = spB s.data.toList := parts_sp s.size s (Nat.le_refl _)
end Go.Proofs.YtlkkiimmangplaaGreatDoor

/- What is read is what was written, at each kind, with anything behind it. -/
namespace Go.Proofs.YtlkkiimmangplaaGreatDoor
open Go.RowKit
set_option linter.unusedVariables false
set_option linter.unusedSimpArgs false
theorem emp_app (a : ByteArray) : bempty ++ a = a := by rw [show (bempty : ByteArray) = ByteArray.empty from rfl, ByteArray.empty_append]
theorem app_emp (a : ByteArray) : a ++ bempty = a := by rw [show (bempty : ByteArray) = ByteArray.empty from rfl, ByteArray.append_empty]
abbrev nB (x : Int) : ByteArray := strOfNums (encF 9 x)
abbrev tB (b : Bool) : ByteArray := strOfNums [if b then 1 else 0]
def nCat : List Int → ByteArray
  | [] => bempty
  | x :: r => nB x ++ nCat r
theorem numsOut_cat : ∀ (l : List Int) (out : ByteArray), numsOut out l = out ++ nCat l
  | [], out => (app_emp out).symm
  | x :: r, out => by
    show numsOut (out ++ nB x) r = out ++ (nB x ++ nCat r)
    rw [numsOut_cat r, ByteArray.append_assoc]
abbrev Num (x : Int) : Prop := 0 ≤ x ∧ x ≤ 1099511627776
theorem drop_at {α : Type} {l : List α} {k : Nat} {x : α} (h : l[k]? = some x) : l.drop k = x :: l.drop (k + 1) := by
  obtain ⟨hk, rfl⟩ := List.getElem?_eq_some_iff.1 h
  exact List.drop_eq_getElem_cons hk
theorem num_b {x : Int} (R : ByteArray) (hn : Num x) : Rd.num (nB x ++ R, 0) = (x, (R, 0)) := num_back x R hn.1 (by have := hn.2; omega)
theorem num_cat {l : List Int} {k : Nat} {x : Int} (R : ByteArray) (hx : l[k]? = some x) (hn : Num x) : Rd.num (nCat (l.drop k) ++ R, 0) = (x, (nCat (l.drop (k + 1)) ++ R, 0)) := by
  rw [drop_at hx]
  show Rd.num ((nB x ++ nCat (l.drop (k + 1))) ++ R, 0) = _
  rw [ByteArray.append_assoc, num_b _ hn]
theorem nX_back (l : List Int) (R : ByteArray) (hl : ∀ x ∈ l, Num x) : ∀ k, k ≤ l.length → nX k (nCat l ++ R, 0) = (nCat (l.drop k) ++ R, 0)
  | 0, _ => rfl
  | k + 1, h => by
    obtain ⟨x, hx⟩ := get_of_lt (show k < l.length by omega)
    rw [nX, nX_back l R hl k (by omega), num_cat R hx (hl x (List.mem_of_getElem? hx))]
theorem nX_num {l : List Int} {k : Nat} {x : Int} (R : ByteArray) (hl : ∀ x ∈ l, Num x) (hx : l[k]? = some x) : clampN (nX k (nCat l ++ R, 0)).num.1 = x := by
  have hk := (List.getElem?_eq_some_iff.1 hx).1
  have hn := hl x (List.mem_of_getElem? hx)
  rw [nX_back l R hl k (by omega), num_cat R hx hn, clampN_small hn.2]
theorem aRead_back (l : List Int) (R : ByteArray) (hl : ∀ x ∈ l, Num x) : ∀ k, k ≤ l.length → aRead (nCat l ++ R, 0) k = (l.take k, (nCat (l.drop k) ++ R, 0))
  | 0, _ => rfl
  | k + 1, h => by
    obtain ⟨x, hx⟩ := get_of_lt (show k < l.length by omega)
    have hb := hl x (List.mem_of_getElem? hx)
    rw [aRead, aRead_back l R hl k (by omega)]
    unfold aStep
    simp only
    rw [num_cat R hx hb, take_snoc hx, clampN_small hb.2]
def gB (g : Gr) : ByteArray := encText g.who ++ (tB g.group ++ nB g.level)
def gCat : List Gr → ByteArray
  | [] => bempty
  | g :: r => gB g ++ gCat r
theorem gsOut_cat : ∀ (l : List Gr) (out : ByteArray), gsOut out l = out ++ gCat l
  | [], out => (app_emp out).symm
  | g :: r, out => by
    show gsOut (gOut out g) r = out ++ (gB g ++ gCat r)
    rw [gsOut_cat r, gOut, gB]
    simp only [ByteArray.append_assoc]
theorem gStep_back {acc : List Gr} {l : List Gr} {k : Nat} {g : Gr} (R : ByteArray) (hx : l[k]? = some g) (hg : g.who.size ≤ 31 ∧ 0 ≤ g.level ∧ g.level ≤ 3) : gStep (acc, (gCat (l.drop k) ++ R, 0)) = (acc ++ [g], (gCat (l.drop (k + 1)) ++ R, 0)) := by
  have e : gCat (l.drop k) ++ R = encText g.who ++ (tB g.group ++ (nB g.level ++ (gCat (l.drop (k + 1)) ++ R))) := by
    rw [drop_at hx]
    show (gB g ++ gCat (l.drop (k + 1))) ++ R = _
    rw [gB]
    simp only [ByteArray.append_assoc]
  have h1 := text_back g.who (tB g.group ++ (nB g.level ++ (gCat (l.drop (k + 1)) ++ R))) 200 (by omega) (by decide)
  have h2 := bool_back g.group (nB g.level ++ (gCat (l.drop (k + 1)) ++ R))
  have h3 := num_b (gCat (l.drop (k + 1)) ++ R) (x := g.level) ⟨by omega, by omega⟩
  unfold gStep
  simp only
  rw [e, h1]
  simp only
  rw [h2]
  simp only
  rw [h3, clampN_small (by omega)]
theorem gRead_back (l : List Gr) (R : ByteArray) (hl : ∀ g ∈ l, g.who.size ≤ 31 ∧ 0 ≤ g.level ∧ g.level ≤ 3) : ∀ k, k ≤ l.length → gRead (gCat l ++ R, 0) k = (l.take k, (gCat (l.drop k) ++ R, 0))
  | 0, _ => rfl
  | k + 1, h => by
    obtain ⟨g, hx⟩ := get_of_lt (show k < l.length by omega)
    rw [gRead, gRead_back l R hl k (by omega), gStep_back R hx (hl g (List.mem_of_getElem? hx)), take_snoc hx]
theorem cntR_back {n most : Int} (R : ByteArray) (h0 : 0 ≤ n) (h1 : n ≤ most) (hm : most ≤ 1000) : cntR most (nB n ++ R, 0) = n := by
  unfold cntR
  rw [num_b R ⟨h0, by omega⟩]
  simp only
  rw [clampN_small (by omega), if_neg (by omega)]
/-! ### The kinds -/
theorem uses0 {e : E} (h : e.kind = 0) : e.uses = { e.bare0 with ds := e.ds, alt := e.alt, used := e.used } := by unfold E.uses E.bare0; rw [if_pos h]
theorem uses1 {e : E} (h : e.kind = 1) : e.uses = { e.bare0 with limit := e.limit, last := e.last, empty := e.empty, owner := e.owner } := by unfold E.uses E.bare0; rw [if_neg (by omega), if_pos h]
theorem uses2 {e : E} (h : e.kind = 2) : e.uses = { e.bare0 with target := e.target } := by unfold E.uses E.bare0; rw [if_neg (by omega), if_neg (by omega), if_pos h]
theorem uses3 {e : E} (h : e.kind = 3) : e.uses = { e.bare0 with catalog := e.catalog } := by unfold E.uses E.bare0; rw [if_neg (by omega), if_neg (by omega), if_neg (by omega), if_pos h]
theorem uses4 {e : E} (h : e.kind = 4) : e.uses = { e.bare0 with level := e.level, owner := e.owner, grants := e.grants } := by unfold E.uses E.bare0; rw [if_neg (by omega), if_neg (by omega), if_neg (by omega), if_neg (by omega), if_pos h]
theorem back1 {e : E} (hk : e.kind = 1) (h : groupOK e = true) (R : ByteArray) : grp.rd e.bare0 (grp.out bempty e ++ R, 0) = (e.uses, (R, 0)) := by
  obtain ⟨hb1, hb2, hb3⟩ := groupOK_own h
  have e0 : grp.out bempty e ++ R = nB e.limit ++ (nB e.last ++ (tB e.empty ++ (encText e.owner ++ R))) := by
    show grpOut bempty e.limit e.last e.empty e.owner ++ R = _
    unfold grpOut
    rw [emp_app]
    simp only [ByteArray.append_assoc]
  have h1 := num_b (nB e.last ++ (tB e.empty ++ (encText e.owner ++ R))) (x := e.limit) ⟨by omega, by omega⟩
  have h2 := num_b (tB e.empty ++ (encText e.owner ++ R)) (x := e.last) ⟨by omega, by omega⟩
  have h3 := bool_back e.empty (encText e.owner ++ R)
  have h4 := text_back e.owner R 200 (by omega) (by decide)
  rw [e0, uses1 hk]
  simp only [grp, h1, h2, h3, h4]
  rw [clampN_small (by omega), clampN_small (by omega)]
theorem back2 {e : E} (hk : e.kind = 2) (h : aliasOK e = true) (R : ByteArray) : ali.rd e.bare0 (ali.out bempty e ++ R, 0) = (e.uses, (R, 0)) := by
  have hl := aliasOK_lim h
  have e0 : ali.out bempty e ++ R = encText e.target ++ R := by
    show (bempty ++ encText e.target) ++ R = _
    rw [emp_app]
  have h4 := text_back e.target R 200 (by omega) (by decide)
  rw [e0, uses2 hk]
  simp only [ali, h4]
theorem back3 {e : E} (hk : e.kind = 3) (h : catOK e = true) (R : ByteArray) : cat.rd e.bare0 (cat.out bempty e ++ R, 0) = (e.uses, (R, 0)) := by
  have hl := inB_one h
  have e0 : cat.out bempty e ++ R = nB e.catalog ++ R := by
    show (bempty ++ nB e.catalog) ++ R = _
    rw [emp_app]
  have h1 := num_b R (x := e.catalog) ⟨by omega, by omega⟩
  rw [e0, uses3 hk]
  simp only [cat, h1]
  rw [clampN_small (by omega)]
theorem back4 {e : E} (hk : e.kind = 4) (h : profOK e = true) (R : ByteArray) : prof.rd e.bare0 (prof.out bempty e ++ R, 0) = (e.uses, (R, 0)) := by
  obtain ⟨hb1, hb2, hb3, hb4⟩ := profOK_lim h
  have e0 : prof.out bempty e ++ R = nB e.level ++ (encText e.owner ++ (nB e.grants.length ++ (gCat e.grants ++ R))) := by
    show profOut bempty e.level e.owner e.grants ++ R = _
    unfold profOut
    rw [gsOut_cat, emp_app]
    simp only [ByteArray.append_assoc]
  have h1 := num_b (encText e.owner ++ (nB e.grants.length ++ (gCat e.grants ++ R))) (x := e.level) ⟨by omega, by omega⟩
  have h2 := text_back e.owner (nB e.grants.length ++ (gCat e.grants ++ R)) 200 (by omega) (by decide)
  have h3 := num_b (gCat e.grants ++ R) (x := (e.grants.length : Int)) ⟨by omega, by omega⟩
  have h5 : cntR 8 (nB e.grants.length ++ (gCat e.grants ++ R), 0) = (e.grants.length : Int) := cntR_back _ (by omega) (by omega) (by decide)
  have h6 := gRead_back e.grants R hb4 e.grants.length (Nat.le_refl _)
  rw [List.take_length, List.drop_length] at h6
  have h7 : prX (nB e.level ++ (encText e.owner ++ (nB e.grants.length ++ (gCat e.grants ++ R))), 0) = (nB e.grants.length ++ (gCat e.grants ++ R), 0) := by
    unfold prX
    rw [h1]
    simp only
    rw [h2]
  have h8 : prG (nB e.level ++ (encText e.owner ++ (nB e.grants.length ++ (gCat e.grants ++ R))), 0) = (e.grants, (R, 0)) := by
    unfold prG prN
    rw [h7, h5, h3, Int.toNat_natCast]
    simp only
    rw [h6]
    show (e.grants, (bempty ++ R, (0 : Int))) = _
    rw [emp_app]
  rw [e0, uses4 hk]
  simp only [prof, h1, h2, h8]
  rw [clampN_small (by omega)]
theorem nX_num2 : ∀ (k : Nat) (x : Rd), nX k x.num.2 = nX (k + 1) x
  | 0, x => rfl
  | k + 1, x => by rw [nX, nX_num2 k x]; rfl
theorem insN_nX : ∀ (l : List Nat) (cs : Array Value) (x : Rd), (insN (cs, x) l).2 = nX l.length x
  | [], cs, x => rfl
  | o :: l, cs, x => by
    show (insN (cs.setIfInBounds o (.int .i64 (clampN x.num.1)), x.num.2) l).2 = _
    rw [insN_nX l, nX_num2]; rfl
theorem dY1_nX (x : Rd) : dY1 x = nX 14 x := insN_nX _ _ x
theorem back0 {e : E} (hk : e.kind = 0) (h : dataOK e = true) (R : ByteArray) : dat.rd e.bare0 (dat.out bempty e ++ R, 0) = (e.uses, (R, 0)) := by
  obtain ⟨hb1, hb2, hb3, hb4, hb5, hb6, hb7⟩ := dataOK_lim h
  have hc1 := hb6 e.ds.created (by simp)
  have hc2 := hb6 e.ds.expires (by simp)
  have hc3 := hb6 e.used (by simp)
  generalize hS9 : nB e.used ++ R = S9
  generalize hS8 : nCat e.alt ++ S9 = S8
  generalize hS7 : nB e.alt.length ++ S8 = S7
  generalize hS6 : tB e.ds.archived ++ S7 = S6
  generalize hS5 : nB e.ds.expires ++ S6 = S5
  generalize hS4 : nB e.ds.created ++ S5 = S4
  generalize hS3 : encText e.ds.owner ++ S4 = S3
  generalize hS2 : encText e.ds.volume ++ S3 = S2
  generalize hS1 : nB e.ds.cls ++ S2 = S1
  generalize hS0 : tB e.ds.unique ++ S1 = S0
  have e0 : dat.out bempty e ++ R = nCat (dsNums e) ++ S0 := by
    show dsOut bempty e ++ R = _
    subst hS0; subst hS1; subst hS2; subst hS3; subst hS4; subst hS5; subst hS6; subst hS7; subst hS8; subst hS9
    unfold dsOut dsOut2 dsOut1
    rw [numsOut_cat, numsOut_cat, numsOut_cat, emp_app]
    simp only [nCat, app_emp, ByteArray.append_assoc]
  have q0 : ∀ k, k ≤ 14 → nX k (nCat (dsNums e) ++ S0, 0) = (nCat ((dsNums e).drop k) ++ S0, 0) := fun k hk => nX_back (dsNums e) S0 hb2 k hk
  have q14 : dY1 (nCat (dsNums e) ++ S0, 0) = (S0, 0) := by
    rw [dY1_nX, q0 14 (by decide)]
    show ((bempty ++ S0, (0 : Int)) : Rd) = _
    rw [emp_app]
  have h0 : Rd.bool (S0, 0) = (e.ds.unique, (S1, 0)) := by rw [← hS0]; exact bool_back _ _
  have h1 : Rd.num (S1, 0) = (e.ds.cls, (S2, 0)) := by rw [← hS1]; exact num_b _ ⟨by omega, by omega⟩
  have h2 : Rd.text (S2, 0) 200 = (e.ds.volume, (S3, 0)) := by rw [← hS2]; exact text_back _ _ 200 (by omega) (by decide)
  have h3 : Rd.text (S3, 0) 200 = (e.ds.owner, (S4, 0)) := by rw [← hS3]; exact text_back _ _ 200 (by omega) (by decide)
  have h4 : Rd.num (S4, 0) = (e.ds.created, (S5, 0)) := by rw [← hS4]; exact num_b _ ⟨by omega, by omega⟩
  have h5 : Rd.num (S5, 0) = (e.ds.expires, (S6, 0)) := by rw [← hS5]; exact num_b _ ⟨by omega, by omega⟩
  have h6 : Rd.bool (S6, 0) = (e.ds.archived, (S7, 0)) := by rw [← hS6]; exact bool_back _ _
  have h7 : Rd.num (S7, 0) = ((e.alt.length : Int), (S8, 0)) := by rw [← hS7]; exact num_b _ ⟨by omega, by omega⟩
  have h7' : cntR 4 (S7, 0) = (e.alt.length : Int) := by rw [← hS7]; exact cntR_back _ (by omega) (by omega) (by decide)
  have h8 : aRead (S8, 0) e.alt.length = (e.alt, (S9, 0)) := by
    have := aRead_back e.alt S9 (fun x hx => by have := hb1 x hx; exact ⟨by omega, by omega⟩) e.alt.length (Nat.le_refl _)
    rw [List.take_length, List.drop_length, hS8] at this
    rw [this]
    show (e.alt, ((bempty ++ S9, (0 : Int)) : Rd)) = _
    rw [emp_app]
  have h9 : Rd.num (S9, 0) = (e.used, (R, 0)) := by rw [← hS9]; exact num_b _ ⟨by omega, by omega⟩
  have q4 : dY4 (nCat (dsNums e) ++ S0, 0) = (S4, 0) := by unfold dY4; rw [q14]; simp only [h0, h1, h2, h3]
  have q7 : dY7 (nCat (dsNums e) ++ S0, 0) = (S6, 0) := by unfold dY7; rw [q4]; simp only [h4, h5]
  have q8 : dY8 (nCat (dsNums e) ++ S0, 0) = (S7, 0) := by unfold dY8; rw [q7, h6]
  have qM : dM (nCat (dsNums e) ++ S0, 0) = e.alt.length := by unfold dM; rw [q8, h7', Int.toNat_natCast]
  have qA : dA (nCat (dsNums e) ++ S0, 0) = (e.alt, (S9, 0)) := by unfold dA; rw [qM, q8, h7]; exact h8
  have qD : dsRd (nCat (dsNums e) ++ S0, 0) = e.ds := by
    have n0 := nX_num (k := 0) S0 hb2 rfl
    have n1 := nX_num (k := 1) S0 hb2 rfl
    have n2 := nX_num (k := 2) S0 hb2 rfl
    have n3 := nX_num (k := 3) S0 hb2 rfl
    have n4 := nX_num (k := 4) S0 hb2 rfl
    have n5 := nX_num (k := 5) S0 hb2 rfl
    have n6 := nX_num (k := 6) S0 hb2 rfl
    have n7 := nX_num (k := 7) S0 hb2 rfl
    have n8 := nX_num (k := 8) S0 hb2 rfl
    have n9 := nX_num (k := 9) S0 hb2 rfl
    have n10 := nX_num (k := 10) S0 hb2 rfl
    have n11 := nX_num (k := 11) S0 hb2 rfl
    have n12 := nX_num (k := 12) S0 hb2 rfl
    have n13 := nX_num (k := 13) S0 hb2 rfl
    unfold dsRd
    rw [n0, n1, n2, n3, n4, n5, n6, n7, n8, n9, n10, n11, n12, n13, q14, q4, q7, h0]
    simp only [h1, h2, h3, h4, h5, h6]
    rw [clampN_small (by omega), clampN_small (by omega), clampN_small (by omega)]
  rw [e0, uses0 hk]
  simp only [dat, qD, qA, h9]
  rw [clampN_small (by omega)]
/-- At each kind. -/
theorem back_any {e : E} {i : Nat} (hi : i < 5) (hk : e.kind = (i : Int)) (h : (kinds i).ok e = true) (R : ByteArray) : (kinds i).rd e.bare0 ((kinds i).out bempty e ++ R, 0) = (e.uses, (R, 0)) := by
  rcases (by omega : i = 0 ∨ i = 1 ∨ i = 2 ∨ i = 3 ∨ i = 4) with rfl | rfl | rfl | rfl | rfl
  · exact back0 hk h R
  · exact back1 hk h R
  · exact back2 hk h R
  · exact back3 hk h R
  · exact back4 hk h R
theorem re_any {e : E} {i : Nat} (hi : i < 5) (hk : e.kind = (i : Int)) (h : (kinds i).ok e = true) : (kinds i).re e = (e.uses, (bempty, 0)) := by
  have := back_any hi hk h bempty
  rwa [app_emp] at this
theorem valid_uses {e : E} {i : Nat} (hi : i < 5) (hk : e.kind = (i : Int)) : (kinds i).valid e = ((kinds i).nm e.name && ((kinds i).ok e && decide (e.uses = e))) := by
  unfold KF.valid
  cases hn : (kinds i).nm e.name with
  | false => rfl
  | true =>
    cases ho : (kinds i).ok e with
    | false => rfl
    | true =>
      rw [re_any hi hk ho]
      rfl
end Go.Proofs.YtlkkiimmangplaaGreatDoor

/- Records in plain words: how long they are, and that they read as their entries. -/
namespace Go.Proofs.YtlkkiimmangplaaGreatDoor
open Go.RowKit
set_option linter.unusedVariables false
set_option linter.unusedSimpArgs false
theorem allB_size {p : ByteArray → Bool} {s : ByteArray} (h : allB 31 p s = true) : 1 ≤ s.size ∧ s.size ≤ 31 := by
  unfold allB at h
  simp only [Bool.and_eq_true, decide_eq_true_eq] at h
  omega
/-! ### How long -/
/-! ### Records -/
theorem letters {i : Nat} (hi : i < 5) : 0 ≤ (kinds i).L ∧ (kinds i).L < 256 := (kinds_fam.law i hi).letter
end Go.Proofs.YtlkkiimmangplaaGreatDoor

/- Decode in one form; what it takes and what it refuses. -/
namespace Go.Proofs.YtlkkiimmangplaaGreatDoor
open Go.RowKit
set_option linter.unusedVariables false
set_option linter.unusedSimpArgs false
/-- The entry of a record. -/
def decOpt (s : ByteArray) : Option E := if 32 ≤ s.size ∧ s.size ≤ 200 then ([0, 1, 2, 3, 4].find? (fun i => decI kinds s i)).map (fun i => (dE kinds s i).1) else none
def decE (s : ByteArray) : E := (decOpt s).getD E.zero
def decC (s : ByteArray) : Int := if (decOpt s).isSome = true then 0 else 11
/-- The two slices of what was decoded. -/
def DecS (e : E) (p : Value × Value × It) : Prop := (p.1.oneCell' = true ∧ p.2.1.oneCell' = true) ∧ ∀ (w0 w : World) (H : List It) (j : Nat), St w0 H w → H[j]? = some p.2.2 → EntAt w e p.1 p.2.1
end Go.Proofs.YtlkkiimmangplaaGreatDoor

/- The example of the chapter on entries. -/
namespace Go.Proofs.YtlkkiimmangplaaGreatDoor
open Go.RowKit
set_option linter.unusedVariables false
set_option linter.unusedSimpArgs false

/-- The example of the chapter. -/
def awE : E := { E.zero with kind := 2, name := ⟨#[80, 65, 89]⟩, target := ⟨#[80, 65, 89, 46, 77, 65, 83, 84, 69, 82]⟩ }
def awS : ByteArray := ⟨#[65, 80, 65, 89, 32, 32, 32, 32, 32, 32, 32, 32, 32, 32, 32, 32, 32, 32, 32, 32, 32, 32, 32, 32, 32, 32, 32, 32, 32, 32, 32, 32, 10, 80, 65, 89, 46, 77, 65, 83, 84, 69, 82]⟩
theorem cmpS_eq {p q : ByteArray} (h : p = q) : cmpS .eql p q = some true := by subst h; simp [cmpS]
def awT : List ByteArray := [⟨#[97, 108, 105, 97, 115, 32, 80, 65, 89]⟩, ⟨#[32, 32, 116, 97, 114, 103, 101, 116, 32, 80, 65, 89, 46, 77, 65, 83, 84, 69, 82]⟩]
end Go.Proofs.YtlkkiimmangplaaGreatDoor

/- The lift of a row with listed variables, the world's shape kept. -/
namespace Go.Proofs.YtlkkiimmangplaaGreatDoor
open Go
variable {H : Type} {enc : TypeId × Value → H}
theorem lift_and_shaped {a : Assume} {C : Checked} {os : Os} {f : FuncId} {fn : Func} {s : ChangeSpec} {conds : List PathCond} {apart fresh handsOn again : Bool} {X : World → Array Value → Prop}
    (hX : ∀ (w w' : World) (args : Array Value), w.heap = w'.heap → X w args → X w' args)
    (own : ownKnob C.prog.godebug = none) (started : os.Started) (noInit : C.prog.inits.idxOf? f = none) (hfn : C.prog.funcs[f]? = some fn)
    (witness : ∃ (w : World) (tape : Tape) (i : Input), w.os = os ∧ (w.forCall tape i).Shaped C.prog ∧ i.vars = [] ∧ Input.okWide C.prog (w.forCall tape i) .any w.heap.size f i ∧
      ((s.pre enc C.prog fn conds apart (w.forCall tape i).memory i.args ∧ X (w.forCall tape i).memory i.args) ∧ sizedMet enc C.prog fn (OpenSpec.ofChange s) apart (w.forCall tape i).memory i.args) ∧ a.holds C.prog (lone (Frame.enter C.prog f i.args .normal) [] (w.forCall tape i)))
    (contract : ∀ (W : World) (base : Nat) (args : Array Value) (ds gs : List (DataW H)) (before : List MemPlace),
      (∀ (j : Nat) t v, fn.params[j]? = some t → args[j]? = some v → Value.okWide C.prog W .any base t v) →
      DataW.Whole enc C.prog fn.params.toList s.vars apart W args.toList ds gs before →
      conds.all (PathCond.test C.prog ⟨fn.params.toList, ds, s.plain.varTypes C.prog, gs⟩) = true →
      (DataW.weightsEach C.prog (fn.params.toList ++ s.plain.varTypes C.prog) (ds ++ gs)).all (· ≤ reachBytes) = true → X W args →
      W.ShapedOpen C.prog →
      a.holds C.prog (lone (Frame.enter C.prog f args .normal) [] W) →
      Calls C.prog f args W fun e W' => ∃ v, e = .returned v ∧ s.post enc C.prog fn apart fresh handsOn again W args v W') :
    ReturnsInHanded a C os f .any (fun w args => (s.pre enc C.prog fn conds apart w args ∧ X w args) ∧ sizedMet enc C.prog fn (OpenSpec.ofChange s) apart w args) (s.post enc C.prog fn apart fresh handsOn again) := by
  refine returnsInHanded_of_calls own started noInit witness ?_
  intro w tape i _ hsh _ hok hpre hholds
  obtain ⟨_, _, _, fn', hfn', _, _, _, _, hval⟩ := hok
  have e : fn' = fn := Option.some.inj (hfn'.symm.trans hfn)
  subst e
  obtain ⟨⟨⟨ds, gs, before, hw, hc⟩, hx⟩, hz⟩ := hpre
  have hw' := DataW.Whole.of_heap (w' := w.forCall tape i) (by rfl) hw
  refine (contract (w.forCall tape i) w.heap.size i.args ds gs before hval hw' hc (hz.weights hw) (hX _ _ _ (by rfl) hx) hsh hholds).mono fun e W' ⟨v, he, hp⟩ => ?_
  subst he
  exact ChangeSpec.post_blind hp
end Go.Proofs.YtlkkiimmangplaaGreatDoor

/- Behind a call that leaves all as it was: the arguments read as before, and the row's word behind the call follows. -/
namespace Go.Proofs.YtlkkiimmangplaaGreatDoor
open Go Go.RowKit Go.ChangeShapes Go.WideShapes Go.ChangeAt
variable {H : Type} {enc : TypeId × Value → H} {P : Program} {w w' : World}
/-- The types that a type is made of. -/
def subT : TypeDesc → List TypeId
  | .pointer e | .slice e | .array _ e | .map _ e => [e]
  | .struct fs => fs.toList.map (·.type)
  | _ => []
/-- Types under which no slice has elements without cells. -/
def TClosed (P : Program) (S : TypeId → Prop) : Prop := ∀ t d, S t → P.underlying t = some d → (∀ e ∈ subT d, S e) ∧ ∀ e, d = .slice e → 0 < P.cellsOf e
theorem trod_sp {sp : Nat → Bool} {S : TypeId → Prop} (hc : TClosed P S) : ∀ (n : Nat) (t : TypeId) (cs : List Value) (x : DataW H × List MemPlace), DataW.trod enc P w 0 (fun _ => true) true n t cs = some x → (∀ p ∈ x.2, sp p.block = true) →
    S t → DataW.trod enc P w 0 sp true n t cs = some x := by
  intro n
  induction n with
  | zero => intro t cs x h; simp [DataW.trod] at h
  | succ n ih =>
    intro t cs x h hs hS
    rw [DataW.trod_step] at h ⊢
    unfold DataW.trodStep at h ⊢
    split at h
    case h_6 e a ht =>
      have hS' := (hc _ _ hS ht).1 e (by simp [subT])
      simp only [Option.map_eq_some_iff, Option.bind_eq_some_iff] at h ⊢
      obtain ⟨y, ⟨c, h1, h2⟩, rfl⟩ := h
      exact ⟨y, ⟨c, h1, ih _ _ _ h2 (fun p hp => hs p (by simp [hp])) hS'⟩, rfl⟩
    case h_8 e a len cap ht =>
      simp only at h ⊢
      split at h
      · rename_i hcond
        rw [if_pos hcond]
        simp only [Option.bind_eq_some_iff, Option.map_eq_some_iff, if_true] at h ⊢
        obtain ⟨elems, h1, rest, h2, rfl⟩ := h
        have h0 := (hc _ _ hS ht).2 e rfl
        have hS' := (hc _ _ hS ht).1 e (by simp [subT])
        have hmem : ∀ y ∈ elems ++ rest, ∀ p ∈ y.2, sp p.block = true := fun y hy p hp => hs p (by simp only [List.mem_append, List.mem_flatMap]; exact .inr ⟨y, List.mem_append.1 hy, hp⟩)
        refine ⟨elems, mapM_carry h1 (fun i y _ hy hv => ?_), rest, ?_, rfl⟩
        · simp only [Option.bind_eq_some_iff] at hv ⊢
          obtain ⟨c, g1, g2⟩ := hv
          exact ⟨c, g1, ih _ _ _ g2 (hmem y (List.mem_append_left _ hy)) hS'⟩
        · have hrest : List.mapM (fun j => (w.cells? 0 (a.add ((len + j) * P.cellsOf e)) (P.cellsOf e)).bind (DataW.trod enc P w 0 sp true n e)) (List.range (cap - len)) = some rest := mapM_carry h2 (fun i y _ hy hv => by
            simp only [Option.bind_eq_some_iff] at hv ⊢
            obtain ⟨c, g1, g2⟩ := hv
            exact ⟨c, g1, ih _ _ _ g2 (hmem y (List.mem_append_right _ hy)) hS'⟩)
          by_cases hr : rest = []
          · split
            · exact hrest
            · rw [hr]
          · have hlen : 0 < (elems.length + rest.length) * P.cellsOf e := Nat.mul_pos (by have := List.length_pos_iff.2 hr; omega) h0
            have hb : sp a.block = true := hs (.cell a.block (a.off + 0)) (by simp only [List.mem_append]; exact .inl (MemPlace.mem_row.2 ⟨0, hlen, rfl⟩))
            rw [if_pos hb]
            exact hrest
      · cases h
    case h_9 fs cs ht =>
      split at h
      · rename_i hl
        rw [if_pos hl]
        simp only [Option.map_eq_some_iff] at h ⊢
        obtain ⟨xs, h1, rfl⟩ := h
        exact ⟨xs, mapM_carry h1 (fun f y hf hy hv => ih _ _ _ hv (fun p hp => hs p (by simp only [List.mem_flatMap]; exact ⟨y, hy, hp⟩)) ((hc _ _ hS ht).1 f.type (by simp only [subT, List.mem_map]; exact ⟨f, hf, rfl⟩))), rfl⟩
      · cases h
    case h_10 cs0 m e ht =>
      split at h
      · rename_i hl
        rw [if_pos hl]
        simp only [Option.map_eq_some_iff] at h ⊢
        obtain ⟨xs, h1, rfl⟩ := h
        exact ⟨xs, mapM_carry h1 (fun f y _ hy hv => ih _ _ _ hv (fun p hp => hs p (by simp only [List.mem_flatMap]; exact ⟨y, hy, hp⟩)) ((hc _ _ hS ht).1 e (by simp [subT]))), rfl⟩
      · cases h
    case h_14 k e b ht =>
      split at h
      · rename_i es clock hbk
        split at h
        · rename_i hcond
          rw [if_pos hcond]
          simp only [Option.bind_eq_some_iff] at h ⊢
          obtain ⟨entries, he, hd⟩ := h
          split at hd
          · rename_i hris
            simp only [Option.some.injEq] at hd
            subst hd
            refine ⟨entries, mapM_carry he (fun x y _ hy hv => ?_), by simp [hris]⟩
            simp only [Option.bind_eq_some_iff] at hv ⊢
            obtain ⟨key, hk, hz⟩ := hv
            refine ⟨key, hk, ?_⟩
            split at hz
            · rename_i hf
              rw [if_pos hf]
              simp only [Option.map_eq_some_iff] at hz ⊢
              obtain ⟨q, hq, rfl⟩ := hz
              exact ⟨q, ih _ _ _ hq (fun p hp => hs p (by simp only [List.mem_cons, List.mem_flatMap]; right; exact ⟨_, hy, hp⟩)) ((hc _ _ hS ht).1 e (by simp [subT])), rfl⟩
            · cases hz
          · cases hd
        · cases h
      · cases h
    all_goals exact h

theorem trodAll_kept {sp : Nat → Bool} {S : TypeId → Prop} (hc : TClosed P S) : ∀ {ts : List TypeId} {vs : List Value} {ds : List (DataW H)} {ps : List MemPlace},
    DataW.TrodAll enc P w 0 (fun _ => true) true ts vs ds ps → (∀ p ∈ ps, w.sameAt w' p) → (∀ p ∈ ps, sp p.block = true) → (∀ t ∈ ts, S t) → DataW.TrodAll enc P w' 0 sp true ts vs ds ps
  | [], [], [], _, h, _, _, _ => h
  | _ :: _, _ :: _, _ :: _, _, ⟨p, q, ⟨n, hn⟩, hs, e⟩, h1, h2, h3 => by
    subst e
    refine ⟨p, q, ⟨n, ?_⟩, trodAll_kept hc hs (fun x hx => h1 x (List.mem_append_right _ hx)) (fun x hx => h2 x (List.mem_append_right _ hx)) (fun t ht => h3 t (List.mem_cons_of_mem _ ht)), rfl⟩
    exact trod_sp hc n _ _ _ (DataW.trod_carry n _ _ _ hn (fun x hx => h1 x (List.mem_append_left _ hx))) (fun x hx => h2 x (List.mem_append_left _ hx)) (h3 _ List.mem_cons_self)
/-- The word behind the call: it answers true, and all that there was is as it was. -/
theorem post_kept {f : Func} {s : ChangeSpec} {W W' : World} {args : Array Value} {ds : List (DataW H)} {before : List MemPlace} {S : TypeId → Prop} (hc : TClosed P S) (hS : ∀ t ∈ f.params.toList, S t) (hbool : P.underlying 4 = some .bool)
    (hv : s.vars = []) (hf : f.resultTypes = #[4]) (hs : s.fn H ds = { results := [.lit (.bool true)], args := ds })
    (hW : DataW.Whole enc P f.params.toList s.vars false W args.toList ds [] before) (hb : Below W.heap.size W W') : s.post enc P f false true false false W args (.bool true) W' := by
  have hlt := hW.lt
  have hW0 := hW
  obtain ⟨p, q, hA, hV, rfl, hz, _⟩ := hW
  rw [hv] at hV
  obtain ⟨_, rfl⟩ := trodVars_none hV
  have hold : ∀ x ∈ p ++ [], (fun b => decide (b < W.heap.size)) x.block = true := fun x hx => by simpa using hlt x hx
  have hsame : ∀ x ∈ p, W.sameAt W' x := fun x hx => hb.same (hlt x (by simpa using hx))
  refine ⟨ds, [], p ++ [], [], p, [], hW0, ?_, ?_, ?_, World.keptBut_mono (fun x hx => ⟨hx, .inr (.inl (by simpa using hx))⟩) (hb.frame (· ∈ p ++ [])), fun h => by cases h⟩
  · rw [hf, List.append_nil, hs]
    exact trodAll_mk1 (shut_bool hbool _)
  · rw [List.append_nil, hs]
    exact trodAll_kept hc hA hsame (fun x hx => hold x (by simpa using hx)) hS
  · rw [hv, List.append_nil, hs]
    exact rfl
end Go.Proofs.YtlkkiimmangplaaGreatDoor

/- What comes in, opened: numbers, texts, slices, entries. -/
namespace Go.Proofs.YtlkkiimmangplaaGreatDoor
open Go Go.RowKit
set_option linter.unusedVariables false
set_option linter.unusedSimpArgs false

set_option maxRecDepth 100000

open Go.ChangeShapes Go.WideShapes Go.ChangeAt
variable {H : Type} {enc : TypeId × Value → H} {w : World}
abbrev Wok (t : TypeId) (d : DataW H) : Prop := (d.weights Tryz.prog t).all (fun n => decide (n ≤ reachBytes)) = true
theorem wok_each : ∀ {ts : List TypeId} {ds : List (DataW H)}, (DataW.weightsEach Tryz.prog ts ds).all (fun n => decide (n ≤ reachBytes)) = true → ∀ (i : Nat) (t : TypeId) (d : DataW H), ts[i]? = some t → ds[i]? = some d → Wok t d
  | [], _, _, i, t, d, ht, _ => by simp at ht
  | _ :: _, [], _, i, t, d, _, hd => by simp at hd
  | t0 :: ts, d0 :: ds, h, i, t, d, ht, hd => by
    unfold DataW.weightsEach at h
    rw [List.all_append, Bool.and_eq_true] at h
    cases i with
    | zero => simp at ht hd; subst ht; subst hd; exact h.1
    | succ i => exact wok_each h.2 i t d (by simpa using ht) (by simpa using hd)
theorem wok_all {e : TypeId} : ∀ {ds : List (DataW H)}, (DataW.weightsAll Tryz.prog e ds).all (fun n => decide (n ≤ reachBytes)) = true → ∀ d ∈ ds, Wok e d
  | [], _, d, hd => by cases hd
  | d0 :: ds, h, d, hd => by
    unfold DataW.weightsAll at h
    rw [List.all_append, Bool.and_eq_true] at h
    rcases List.mem_cons.1 hd with rfl | hd
    · exact h.1
    · exact wok_all h.2 d hd
theorem reach_is : reachBytes = 140737488351232 := rfl
theorem wok_string {t : TypeId} {s : ByteArray} (h : Wok (H := H) t (.lit (.string s.data.toList))) : s.size ≤ 140737488351232 := by
  unfold Wok DataW.weights at h
  rw [List.all_cons, Bool.and_eq_true, decide_eq_true_eq, reach_is] at h
  exact h.1
theorem add_zero (a : Addr) : a.add 0 = a := by simp [Addr.add]
theorem cut_list (cs : List Value) (o n m : Nat) (h : o + n = m) : cs.drop o = (cs.drop o).take n ++ cs.drop m := by
  subst h
  rw [← List.drop_drop]
  exact (List.take_append_drop _ _).symm
/-- A slice whose elements read. -/
theorem open_slice_cells {t e sz : Nat} {fuel : Nat} {cs : List Value} {x : DataW H × List MemPlace} (ht : Tryz.prog.underlying t = some (.slice e)) (hsz : Tryz.prog.cellsOf e = sz) (h0 : 0 < sz) (hby : 1 ≤ Tryz.prog.bytesOf e)
    (h : DataW.trod enc Tryz.prog w 0 (fun _ => true) true fuel t cs = some x) (hw : Wok t x.1) {R : List Value → Prop} (hR : ∀ n cs y, DataW.trod enc Tryz.prog w 0 (fun _ => true) true n e cs = some y → Wok e y.1 → R cs) :
    ∃ (A : Option Addr) (len cap : Nat) (xs : List (List Value)), cs = [.slice A len cap] ∧ len ≤ cap ∧ cap ≤ 140737488351232 ∧ xs.length = len ∧ (∀ c ∈ xs, R c) ∧ (A = none → cap = 0) ∧
      (0 < len → ∃ b off, A = some ⟨b, off, none⟩ ∧ ∀ (k : Nat) (c : List Value), xs[k]? = some c → ∀ (i : Nat) (u : Value), c[i]? = some u → w.cell? ⟨b, off + (k : Int).toNat * sz + i, none⟩ = some u) := by
  rcases DataW.trod_slice ht h with ⟨rfl, rfl⟩ | ⟨a, len, cap, elems, rest, n, rfl, rfl, rfl, _, hl, hm, hlen, hel, hrest, _⟩
  · exact ⟨none, 0, 0, [], rfl, Nat.le_refl _, by decide, rfl, (fun c hc => by cases hc), (fun _ => rfl), fun h => absurd h (by decide)⟩
  · have hr := (hrest rfl).1
    have hw1 : ((elems.length + rest.length) * Tryz.prog.bytesOf e ≤ reachBytes) ∧ (DataW.weightsAll Tryz.prog e (elems.map (·.1))).all (fun n => decide (n ≤ reachBytes)) = true := by
      unfold Wok at hw
      unfold DataW.weights at hw
      rw [ht] at hw
      simp only [List.length_map, List.all_cons, List.all_append, Bool.and_eq_true, decide_eq_true_eq] at hw
      exact ⟨hw.1, hw.2.1⟩
    have hcap : cap ≤ 140737488351232 := by
      have h1 : (elems.length + rest.length) * 1 ≤ (elems.length + rest.length) * Tryz.prog.bytesOf e := Nat.mul_le_mul_left _ hby
      have := hw1.1
      rw [reach_is] at this
      omega
    have hE : ∀ i, i < len → ∃ c y, w.cells? 0 (a.add (i * sz)) sz = some c ∧ DataW.trod enc Tryz.prog w 0 (fun _ => true) true n e c = some y ∧ elems[i]? = some y := fun i hi => by
      have h1 := hel i hi
      rw [hsz, List.getElem?_eq_getElem (by omega)] at h1
      obtain ⟨c, h2, h3⟩ := Option.bind_eq_some_iff.1 h1
      exact ⟨c, _, h2, h3, List.getElem?_eq_getElem (by omega)⟩
    refine ⟨some a, len, cap, (List.range len).map (fun i => (w.cells? 0 (a.add (i * sz)) sz).getD []), rfl, hl, hcap, by simp, ?_, (fun h => by cases h), ?_⟩
    · intro c hc
      obtain ⟨i, hi, rfl⟩ := List.mem_map.1 hc
      obtain ⟨c, y, h2, h3, h4⟩ := hE i (List.mem_range.1 hi)
      rw [h2]
      exact hR n c y h3 (wok_all hw1.2 y.1 (List.mem_map.2 ⟨y, List.mem_of_getElem? h4, rfl⟩))
    · intro hp
      obtain ⟨c0, y0, h2, _, _⟩ := hE 0 hp
      obtain ⟨_, hl0, hc0⟩ := World.cells?_some h2
      have h5 := hc0 0 h0
      rw [List.getElem?_eq_getElem (by omega), Nat.zero_mul, add_zero, add_zero] at h5
      have hs := World.cell?_spot h5
      obtain ⟨b, off, sp⟩ := a
      simp only at hs
      subst hs
      refine ⟨b, off, rfl, fun k c hk i u hu => ?_⟩
      rw [List.getElem?_map] at hk
      obtain ⟨k', hk', rfl⟩ := Option.map_eq_some_iff.1 hk
      have hkl : k < len := by
        rcases Nat.lt_or_ge k len with h | h
        · exact h
        · rw [List.getElem?_eq_none (by simpa using h)] at hk'; cases hk'
      rw [List.getElem?_range hkl] at hk'
      simp at hk'
      subst hk'
      obtain ⟨c, y, h6, _, _⟩ := hE k hkl
      rw [h6] at hu
      simp only [Option.getD_some] at hu
      obtain ⟨_, hl6, hc6⟩ := World.cells?_some h6
      have hi : i < sz := by
        have := (List.getElem?_eq_some_iff.1 hu).1
        omega
      have := hc6 i hi
      rw [add0, add0, hu] at this
      simpa using this
theorem choose_list {α : Type} {E : α → List Value} {p : α → Prop} : ∀ {xs : List (List Value)}, (∀ c ∈ xs, ∃ y, c = E y ∧ p y) → ∃ ys : List α, xs = ys.map E ∧ ∀ y ∈ ys, p y
  | [], _ => ⟨[], rfl, fun y hy => by cases hy⟩
  | c :: xs, h => by
    obtain ⟨y, rfl, hy⟩ := h c (by simp)
    obtain ⟨ys, rfl, hys⟩ := choose_list (xs := xs) (fun c hc => h c (by simp [hc]))
    exact ⟨y :: ys, rfl, fun z hz => by
      rcases List.mem_cons.1 hz with rfl | hz
      · exact hy
      · exact hys z hz⟩
/-- A slice as my reading says it. -/
theorem open_sl {α : Type} (E : α → List Value) (p : α → Prop) {t e sz : Nat} {fuel : Nat} {cs : List Value} {x : DataW H × List MemPlace} (ht : Tryz.prog.underlying t = some (.slice e)) (hsz : Tryz.prog.cellsOf e = sz) (h0 : 0 < sz) (hby : 1 ≤ Tryz.prog.bytesOf e)
    (h : DataW.trod enc Tryz.prog w 0 (fun _ => true) true fuel t cs = some x) (hw : Wok t x.1) (hR : ∀ n cs y, DataW.trod enc Tryz.prog w 0 (fun _ => true) true n e cs = some y → Wok e y.1 → ∃ y, cs = E y ∧ p y) :
    ∃ (A : Option Addr) (cap : Nat) (ys : List α), cs = [.slice A ys.length cap] ∧ ys.length ≤ cap ∧ cap ≤ 140737488351232 ∧ (∀ y ∈ ys, p y) ∧ Sl E sz w A ys ∧ (A = none → cap = 0) := by
  obtain ⟨A, len, cap, xs, rfl, h1, h2, rfl, h4, h6, h5⟩ := open_slice_cells ht hsz h0 hby h hw hR
  obtain ⟨ys, rfl, hp⟩ := choose_list h4
  rw [List.length_map] at h1 h5 ⊢
  refine ⟨A, cap, ys, rfl, h1, h2, hp, ⟨by omega, fun hpos => ?_⟩, h6⟩
  obtain ⟨b, off, rfl, hc⟩ := h5 hpos
  exact ⟨b, off, rfl, fun k y hk i u hu => hc k (E y) (by rw [List.getElem?_map, hk]; rfl) i u hu⟩
abbrev I64 (n : Int) : Prop := -9223372036854775808 ≤ n ∧ n ≤ 9223372036854775807
theorem wf_i64 {n : Int} (h : (Lit.int .i64 n).wf = true) : I64 n := by
  simp [Lit.wf, IntKind.min, IntKind.max, IntKind.signed, IntKind.bits] at h
  unfold I64; omega
theorem wf_u8 {n : Int} (h : (Lit.int .u8 n).wf = true) : 0 ≤ n ∧ n < 256 := by
  simp [Lit.wf, IntKind.min, IntKind.max, IntKind.signed, IntKind.bits] at h
  omega
theorem bytes3 : 1 ≤ Tryz.prog.bytesOf 3 := by rw [show Tryz.prog.bytesOf 3 = 8 by kernel_rfl]; decide
theorem bytes9 : 1 ≤ Tryz.prog.bytesOf 9 := by rw [show Tryz.prog.bytesOf 9 = 16 by kernel_rfl]; decide
theorem bytes51 : 1 ≤ Tryz.prog.bytesOf 51 := by rw [show Tryz.prog.bytesOf 51 = 32 by kernel_rfl]; decide
theorem bytes34 : 1 ≤ Tryz.prog.bytesOf 34 := by rw [show Tryz.prog.bytesOf 34 = 336 by kernel_rfl]; decide
theorem cells3 : Tryz.prog.cellsOf 3 = 1 := by kernel_rfl
theorem cells4 : Tryz.prog.cellsOf 4 = 1 := by kernel_rfl
theorem cells5 : Tryz.prog.cellsOf 5 = 1 := by kernel_rfl
theorem cells9 : Tryz.prog.cellsOf 9 = 1 := by kernel_rfl
theorem cells22 : Tryz.prog.cellsOf 22 = 1 := by kernel_rfl
theorem cells32 : Tryz.prog.cellsOf 32 = 1 := by kernel_rfl
theorem cells31 : Tryz.prog.cellsOf 31 = 21 := by kernel_rfl
theorem cells34 : Tryz.prog.cellsOf 34 = 33 := by kernel_rfl
theorem cells51 : Tryz.prog.cellsOf 51 = 3 := by kernel_rfl
variable {n : Nat} {cs : List Value} {x : DataW H × List MemPlace}
abbrev Td (enc : TypeId × Value → H) (w : World) (n t : Nat) (cs : List Value) (x : DataW H × List MemPlace) : Prop := DataW.trod enc Tryz.prog w 0 (fun _ => true) true n t cs = some x
theorem op3 (h : Td enc w n 3 cs x) : ∃ k, cs = [.int .i64 k] ∧ I64 k := by
  obtain ⟨k, h1, _, h2⟩ := DataW.trod_int Tryz.underlying3 h
  exact ⟨k, h1, wf_i64 h2⟩
theorem op5 (h : Td enc w n 5 cs x) : ∃ k, cs = [.int .u8 k] ∧ 0 ≤ k ∧ k < 256 := by
  obtain ⟨k, h1, _, h2⟩ := DataW.trod_int Tryz.underlying5 h
  exact ⟨k, h1, wf_u8 h2⟩
theorem op4 (h : Td enc w n 4 cs x) : ∃ b, cs = [.bool b] := by
  obtain ⟨k, h1, _⟩ := DataW.trod_bool Tryz.underlying4 h
  exact ⟨k, h1⟩
theorem op9 (h : Td enc w n 9 cs x) (hw : Wok 9 x.1) : ∃ s, cs = [.string s] ∧ s.size ≤ 140737488351232 := by
  obtain ⟨s, h1, rfl, _⟩ := DataW.trod_string Tryz.underlying9 h
  exact ⟨s, h1, wok_string hw⟩
theorem op22 (h : Td enc w n 22 cs x) (hw : Wok 22 x.1) : ∃ (A : Option Addr) (cap : Nat) (ys : List Int), cs = [.slice A ys.length cap] ∧ ys.length ≤ cap ∧ cap ≤ 140737488351232 ∧ (∀ y ∈ ys, I64 y) ∧ Sl encI 1 w A ys ∧ (A = none → cap = 0) :=
  open_sl encI I64 Tryz.underlying22 cells3 (by decide) bytes3 h hw (fun n cs y h _ => op3 h)
theorem op48 (h : Td enc w n 48 cs x) (hw : Wok 48 x.1) : ∃ (A : Option Addr) (cap : Nat) (ys : List ByteArray), cs = [.slice A ys.length cap] ∧ ys.length ≤ cap ∧ cap ≤ 140737488351232 ∧ (∀ y ∈ ys, y.size ≤ 140737488351232) ∧ Sl encS 1 w A ys ∧ (A = none → cap = 0) :=
  open_sl encS (fun s => s.size ≤ 140737488351232) Tryz.underlying48 cells9 (by decide) bytes9 h hw (fun n cs y h hw => op9 h hw)

set_option maxRecDepth 100000 in
theorem op51 (h : Td enc w n 51 cs x) (hw : Wok 51 x.1) : ∃ g : Gr, cs = g.cells ∧ (g.who.size ≤ 140737488351232 ∧ I64 g.level) := by
  obtain ⟨xs, m, rfl, rfl, hl, hxs, hel⟩ := DataW.trod_struct Tryz.underlying51 h
  have hw' : (DataW.weightsEach Tryz.prog [9, 4, 3] (xs.map (·.1))).all (fun n => decide (n ≤ reachBytes)) = true := by
    unfold Wok at hw
    unfold DataW.weights at hw
    rw [Tryz.underlying51] at hw
    exact hw
  rw [cells51] at hl
  replace hxs : xs.length = 3 := hxs
  have g0 : Td enc w m 9 ((cs.drop 0).take 1) xs[0] := by
    have g : DataW.trod enc Tryz.prog w 0 (fun _ => true) true m 9 ((cs.drop 0).take (Tryz.prog.cellsOf 9)) = xs[0]? := hel 0 _ rfl
    rw [cells9, List.getElem?_eq_getElem (by omega)] at g
    exact g
  have q0 : Wok 9 xs[0].1 := wok_each hw' 0 _ _ rfl (by rw [List.getElem?_map, List.getElem?_eq_getElem (by omega)]; rfl)
  obtain ⟨f0, e0, b0⟩ := op9 g0 q0
  have g1 : Td enc w m 4 ((cs.drop 1).take 1) xs[1] := by
    have g : DataW.trod enc Tryz.prog w 0 (fun _ => true) true m 4 ((cs.drop 1).take (Tryz.prog.cellsOf 4)) = xs[1]? := hel 1 _ rfl
    rw [cells4, List.getElem?_eq_getElem (by omega)] at g
    exact g
  obtain ⟨f1, e1⟩ := op4 g1
  have g2 : Td enc w m 3 ((cs.drop 2).take 1) xs[2] := by
    have g : DataW.trod enc Tryz.prog w 0 (fun _ => true) true m 3 ((cs.drop 2).take (Tryz.prog.cellsOf 3)) = xs[2]? := hel 2 _ rfl
    rw [cells3, List.getElem?_eq_getElem (by omega)] at g
    exact g
  obtain ⟨f2, e2, b2⟩ := op3 g2
  have ee : cs.drop 0 = [.string f0] ++ ([.bool f1] ++ ([.int .i64 f2] ++ [])) := by
    rw [cut_list cs 0 1 1 rfl, e0, cut_list cs 1 1 2 rfl, e1, cut_list cs 2 1 3 rfl, e2, show cs.drop 3 = [] from List.drop_eq_nil_of_le (by omega)]
  rw [List.drop_zero] at ee
  exact ⟨⟨f0, f1, f2⟩, ee, b0, b2⟩

structure DSb (d : DS) : Prop where
  id : I64 d.id
  org : I64 d.org
  format : I64 d.format
  length : I64 d.length
  block : I64 d.block
  keyAt : I64 d.keyAt
  keyLength : I64 d.keyLength
  interval : I64 d.interval
  area : I64 d.area
  freeInterval : I64 d.freeInterval
  freeArea : I64 d.freeArea
  base : I64 d.base
  altAt : I64 d.altAt
  altLength : I64 d.altLength
  cls : I64 d.cls
  volume : d.volume.size ≤ 140737488351232
  owner : d.owner.size ≤ 140737488351232
  created : I64 d.created
  expires : I64 d.expires

set_option maxRecDepth 100000 in
theorem op31 (h : Td enc w n 31 cs x) (hw : Wok 31 x.1) : ∃ d : DS, cs = d.cells.toList ∧ DSb d := by
  obtain ⟨xs, m, rfl, rfl, hl, hxs, hel⟩ := DataW.trod_struct Tryz.underlying31 h
  have hw' : (DataW.weightsEach Tryz.prog [3, 3, 3, 3, 3, 3, 3, 3, 3, 3, 3, 3, 3, 3, 4, 3, 9, 9, 3, 3, 4] (xs.map (·.1))).all (fun n => decide (n ≤ reachBytes)) = true := by
    unfold Wok at hw
    unfold DataW.weights at hw
    rw [Tryz.underlying31] at hw
    exact hw
  rw [cells31] at hl
  replace hxs : xs.length = 21 := hxs
  have g0 : Td enc w m 3 ((cs.drop 0).take 1) xs[0] := by
    have g : DataW.trod enc Tryz.prog w 0 (fun _ => true) true m 3 ((cs.drop 0).take (Tryz.prog.cellsOf 3)) = xs[0]? := hel 0 _ rfl
    rw [cells3, List.getElem?_eq_getElem (by omega)] at g
    exact g
  obtain ⟨f0, e0, b0⟩ := op3 g0
  have g1 : Td enc w m 3 ((cs.drop 1).take 1) xs[1] := by
    have g : DataW.trod enc Tryz.prog w 0 (fun _ => true) true m 3 ((cs.drop 1).take (Tryz.prog.cellsOf 3)) = xs[1]? := hel 1 _ rfl
    rw [cells3, List.getElem?_eq_getElem (by omega)] at g
    exact g
  obtain ⟨f1, e1, b1⟩ := op3 g1
  have g2 : Td enc w m 3 ((cs.drop 2).take 1) xs[2] := by
    have g : DataW.trod enc Tryz.prog w 0 (fun _ => true) true m 3 ((cs.drop 2).take (Tryz.prog.cellsOf 3)) = xs[2]? := hel 2 _ rfl
    rw [cells3, List.getElem?_eq_getElem (by omega)] at g
    exact g
  obtain ⟨f2, e2, b2⟩ := op3 g2
  have g3 : Td enc w m 3 ((cs.drop 3).take 1) xs[3] := by
    have g : DataW.trod enc Tryz.prog w 0 (fun _ => true) true m 3 ((cs.drop 3).take (Tryz.prog.cellsOf 3)) = xs[3]? := hel 3 _ rfl
    rw [cells3, List.getElem?_eq_getElem (by omega)] at g
    exact g
  obtain ⟨f3, e3, b3⟩ := op3 g3
  have g4 : Td enc w m 3 ((cs.drop 4).take 1) xs[4] := by
    have g : DataW.trod enc Tryz.prog w 0 (fun _ => true) true m 3 ((cs.drop 4).take (Tryz.prog.cellsOf 3)) = xs[4]? := hel 4 _ rfl
    rw [cells3, List.getElem?_eq_getElem (by omega)] at g
    exact g
  obtain ⟨f4, e4, b4⟩ := op3 g4
  have g5 : Td enc w m 3 ((cs.drop 5).take 1) xs[5] := by
    have g : DataW.trod enc Tryz.prog w 0 (fun _ => true) true m 3 ((cs.drop 5).take (Tryz.prog.cellsOf 3)) = xs[5]? := hel 5 _ rfl
    rw [cells3, List.getElem?_eq_getElem (by omega)] at g
    exact g
  obtain ⟨f5, e5, b5⟩ := op3 g5
  have g6 : Td enc w m 3 ((cs.drop 6).take 1) xs[6] := by
    have g : DataW.trod enc Tryz.prog w 0 (fun _ => true) true m 3 ((cs.drop 6).take (Tryz.prog.cellsOf 3)) = xs[6]? := hel 6 _ rfl
    rw [cells3, List.getElem?_eq_getElem (by omega)] at g
    exact g
  obtain ⟨f6, e6, b6⟩ := op3 g6
  have g7 : Td enc w m 3 ((cs.drop 7).take 1) xs[7] := by
    have g : DataW.trod enc Tryz.prog w 0 (fun _ => true) true m 3 ((cs.drop 7).take (Tryz.prog.cellsOf 3)) = xs[7]? := hel 7 _ rfl
    rw [cells3, List.getElem?_eq_getElem (by omega)] at g
    exact g
  obtain ⟨f7, e7, b7⟩ := op3 g7
  have g8 : Td enc w m 3 ((cs.drop 8).take 1) xs[8] := by
    have g : DataW.trod enc Tryz.prog w 0 (fun _ => true) true m 3 ((cs.drop 8).take (Tryz.prog.cellsOf 3)) = xs[8]? := hel 8 _ rfl
    rw [cells3, List.getElem?_eq_getElem (by omega)] at g
    exact g
  obtain ⟨f8, e8, b8⟩ := op3 g8
  have g9 : Td enc w m 3 ((cs.drop 9).take 1) xs[9] := by
    have g : DataW.trod enc Tryz.prog w 0 (fun _ => true) true m 3 ((cs.drop 9).take (Tryz.prog.cellsOf 3)) = xs[9]? := hel 9 _ rfl
    rw [cells3, List.getElem?_eq_getElem (by omega)] at g
    exact g
  obtain ⟨f9, e9, b9⟩ := op3 g9
  have g10 : Td enc w m 3 ((cs.drop 10).take 1) xs[10] := by
    have g : DataW.trod enc Tryz.prog w 0 (fun _ => true) true m 3 ((cs.drop 10).take (Tryz.prog.cellsOf 3)) = xs[10]? := hel 10 _ rfl
    rw [cells3, List.getElem?_eq_getElem (by omega)] at g
    exact g
  obtain ⟨f10, e10, b10⟩ := op3 g10
  have g11 : Td enc w m 3 ((cs.drop 11).take 1) xs[11] := by
    have g : DataW.trod enc Tryz.prog w 0 (fun _ => true) true m 3 ((cs.drop 11).take (Tryz.prog.cellsOf 3)) = xs[11]? := hel 11 _ rfl
    rw [cells3, List.getElem?_eq_getElem (by omega)] at g
    exact g
  obtain ⟨f11, e11, b11⟩ := op3 g11
  have g12 : Td enc w m 3 ((cs.drop 12).take 1) xs[12] := by
    have g : DataW.trod enc Tryz.prog w 0 (fun _ => true) true m 3 ((cs.drop 12).take (Tryz.prog.cellsOf 3)) = xs[12]? := hel 12 _ rfl
    rw [cells3, List.getElem?_eq_getElem (by omega)] at g
    exact g
  obtain ⟨f12, e12, b12⟩ := op3 g12
  have g13 : Td enc w m 3 ((cs.drop 13).take 1) xs[13] := by
    have g : DataW.trod enc Tryz.prog w 0 (fun _ => true) true m 3 ((cs.drop 13).take (Tryz.prog.cellsOf 3)) = xs[13]? := hel 13 _ rfl
    rw [cells3, List.getElem?_eq_getElem (by omega)] at g
    exact g
  obtain ⟨f13, e13, b13⟩ := op3 g13
  have g14 : Td enc w m 4 ((cs.drop 14).take 1) xs[14] := by
    have g : DataW.trod enc Tryz.prog w 0 (fun _ => true) true m 4 ((cs.drop 14).take (Tryz.prog.cellsOf 4)) = xs[14]? := hel 14 _ rfl
    rw [cells4, List.getElem?_eq_getElem (by omega)] at g
    exact g
  obtain ⟨f14, e14⟩ := op4 g14
  have g15 : Td enc w m 3 ((cs.drop 15).take 1) xs[15] := by
    have g : DataW.trod enc Tryz.prog w 0 (fun _ => true) true m 3 ((cs.drop 15).take (Tryz.prog.cellsOf 3)) = xs[15]? := hel 15 _ rfl
    rw [cells3, List.getElem?_eq_getElem (by omega)] at g
    exact g
  obtain ⟨f15, e15, b15⟩ := op3 g15
  have g16 : Td enc w m 9 ((cs.drop 16).take 1) xs[16] := by
    have g : DataW.trod enc Tryz.prog w 0 (fun _ => true) true m 9 ((cs.drop 16).take (Tryz.prog.cellsOf 9)) = xs[16]? := hel 16 _ rfl
    rw [cells9, List.getElem?_eq_getElem (by omega)] at g
    exact g
  have q16 : Wok 9 xs[16].1 := wok_each hw' 16 _ _ rfl (by rw [List.getElem?_map, List.getElem?_eq_getElem (by omega)]; rfl)
  obtain ⟨f16, e16, b16⟩ := op9 g16 q16
  have g17 : Td enc w m 9 ((cs.drop 17).take 1) xs[17] := by
    have g : DataW.trod enc Tryz.prog w 0 (fun _ => true) true m 9 ((cs.drop 17).take (Tryz.prog.cellsOf 9)) = xs[17]? := hel 17 _ rfl
    rw [cells9, List.getElem?_eq_getElem (by omega)] at g
    exact g
  have q17 : Wok 9 xs[17].1 := wok_each hw' 17 _ _ rfl (by rw [List.getElem?_map, List.getElem?_eq_getElem (by omega)]; rfl)
  obtain ⟨f17, e17, b17⟩ := op9 g17 q17
  have g18 : Td enc w m 3 ((cs.drop 18).take 1) xs[18] := by
    have g : DataW.trod enc Tryz.prog w 0 (fun _ => true) true m 3 ((cs.drop 18).take (Tryz.prog.cellsOf 3)) = xs[18]? := hel 18 _ rfl
    rw [cells3, List.getElem?_eq_getElem (by omega)] at g
    exact g
  obtain ⟨f18, e18, b18⟩ := op3 g18
  have g19 : Td enc w m 3 ((cs.drop 19).take 1) xs[19] := by
    have g : DataW.trod enc Tryz.prog w 0 (fun _ => true) true m 3 ((cs.drop 19).take (Tryz.prog.cellsOf 3)) = xs[19]? := hel 19 _ rfl
    rw [cells3, List.getElem?_eq_getElem (by omega)] at g
    exact g
  obtain ⟨f19, e19, b19⟩ := op3 g19
  have g20 : Td enc w m 4 ((cs.drop 20).take 1) xs[20] := by
    have g : DataW.trod enc Tryz.prog w 0 (fun _ => true) true m 4 ((cs.drop 20).take (Tryz.prog.cellsOf 4)) = xs[20]? := hel 20 _ rfl
    rw [cells4, List.getElem?_eq_getElem (by omega)] at g
    exact g
  obtain ⟨f20, e20⟩ := op4 g20
  have ee : cs.drop 0 = [.int .i64 f0] ++ ([.int .i64 f1] ++ ([.int .i64 f2] ++ ([.int .i64 f3] ++ ([.int .i64 f4] ++ ([.int .i64 f5] ++ ([.int .i64 f6] ++ ([.int .i64 f7] ++ ([.int .i64 f8] ++ ([.int .i64 f9] ++ ([.int .i64 f10] ++ ([.int .i64 f11] ++ ([.int .i64 f12] ++ ([.int .i64 f13] ++ ([.bool f14] ++ ([.int .i64 f15] ++ ([.string f16] ++ ([.string f17] ++ ([.int .i64 f18] ++ ([.int .i64 f19] ++ ([.bool f20] ++ [])))))))))))))))))))) := by
    rw [cut_list cs 0 1 1 rfl, e0, cut_list cs 1 1 2 rfl, e1, cut_list cs 2 1 3 rfl, e2, cut_list cs 3 1 4 rfl, e3, cut_list cs 4 1 5 rfl, e4, cut_list cs 5 1 6 rfl, e5, cut_list cs 6 1 7 rfl, e6, cut_list cs 7 1 8 rfl, e7, cut_list cs 8 1 9 rfl, e8, cut_list cs 9 1 10 rfl, e9, cut_list cs 10 1 11 rfl, e10, cut_list cs 11 1 12 rfl, e11, cut_list cs 12 1 13 rfl, e12, cut_list cs 13 1 14 rfl, e13, cut_list cs 14 1 15 rfl, e14, cut_list cs 15 1 16 rfl, e15, cut_list cs 16 1 17 rfl, e16, cut_list cs 17 1 18 rfl, e17, cut_list cs 18 1 19 rfl, e18, cut_list cs 19 1 20 rfl, e19, cut_list cs 20 1 21 rfl, e20, show cs.drop 21 = [] from List.drop_eq_nil_of_le (by omega)]
  rw [List.drop_zero] at ee
  exact ⟨⟨f0, f1, f2, f3, f4, f5, f6, f7, f8, f9, f10, f11, f12, f13, f14, f15, f16, f17, f18, f19, f20⟩, ee, ⟨b0, b1, b2, b3, b4, b5, b6, b7, b8, b9, b10, b11, b12, b13, b15, b16, b17, b18, b19⟩⟩

theorem op32 (h : Td enc w n 32 cs x) (hw : Wok 32 x.1) : ∃ (A : Option Addr) (cap : Nat) (ys : List Gr), cs = [.slice A ys.length cap] ∧ ys.length ≤ cap ∧ cap ≤ 140737488351232 ∧ (∀ y ∈ ys, y.who.size ≤ 140737488351232 ∧ I64 y.level) ∧ Sl Gr.cells 3 w A ys ∧ (A = none → cap = 0) :=
  open_sl Gr.cells (fun g => g.who.size ≤ 140737488351232 ∧ I64 g.level) Tryz.underlying32 cells51 (by decide) bytes51 h hw (fun n cs y h hw => op51 h hw)
/-- An entry's numbers and texts are such as the machine bears. -/
structure Eb (e : E) : Prop where
  kind : I64 e.kind
  name : e.name.size ≤ 140737488351232
  ds : DSb e.ds
  altl : e.alt.length ≤ 140737488351232
  alt : ∀ y ∈ e.alt, I64 y
  used : I64 e.used
  limit : I64 e.limit
  last : I64 e.last
  owner : e.owner.size ≤ 140737488351232
  target : e.target.size ≤ 140737488351232
  catalog : I64 e.catalog
  level : I64 e.level
  grl : e.grants.length ≤ 140737488351232
  grants : ∀ y ∈ e.grants, y.who.size ≤ 140737488351232 ∧ I64 y.level

set_option maxRecDepth 100000 in
theorem op34 (h : Td enc w n 34 cs x) (hw : Wok 34 x.1) : ∃ (e : E) (va vg : Value), cs = (e.cells va vg).toList ∧ Eb e ∧ EntAt w e va vg := by
  obtain ⟨xs, m, rfl, rfl, hl, hxs, hel⟩ := DataW.trod_struct Tryz.underlying34 h
  have hw' : (DataW.weightsEach Tryz.prog [3, 9, 31, 22, 3, 3, 3, 4, 9, 9, 3, 3, 32] (xs.map (·.1))).all (fun n => decide (n ≤ reachBytes)) = true := by
    unfold Wok at hw
    unfold DataW.weights at hw
    rw [Tryz.underlying34] at hw
    exact hw
  rw [cells34] at hl
  replace hxs : xs.length = 13 := hxs
  have g0 : Td enc w m 3 ((cs.drop 0).take 1) xs[0] := by
    have g : DataW.trod enc Tryz.prog w 0 (fun _ => true) true m 3 ((cs.drop 0).take (Tryz.prog.cellsOf 3)) = xs[0]? := hel 0 _ rfl
    rw [cells3, List.getElem?_eq_getElem (by omega)] at g
    exact g
  obtain ⟨f0, e0, b0⟩ := op3 g0
  have g1 : Td enc w m 9 ((cs.drop 1).take 1) xs[1] := by
    have g : DataW.trod enc Tryz.prog w 0 (fun _ => true) true m 9 ((cs.drop 1).take (Tryz.prog.cellsOf 9)) = xs[1]? := hel 1 _ rfl
    rw [cells9, List.getElem?_eq_getElem (by omega)] at g
    exact g
  have q1 : Wok 9 xs[1].1 := wok_each hw' 1 _ _ rfl (by rw [List.getElem?_map, List.getElem?_eq_getElem (by omega)]; rfl)
  obtain ⟨f1, e1, b1⟩ := op9 g1 q1
  have g2 : Td enc w m 31 ((cs.drop 2).take 21) xs[2] := by
    have g : DataW.trod enc Tryz.prog w 0 (fun _ => true) true m 31 ((cs.drop 2).take (Tryz.prog.cellsOf 31)) = xs[2]? := hel 2 _ rfl
    rw [cells31, List.getElem?_eq_getElem (by omega)] at g
    exact g
  have q2 : Wok 31 xs[2].1 := wok_each hw' 2 _ _ rfl (by rw [List.getElem?_map, List.getElem?_eq_getElem (by omega)]; rfl)
  obtain ⟨f2, e2, b2⟩ := op31 g2 q2
  have g3 : Td enc w m 22 ((cs.drop 23).take 1) xs[3] := by
    have g : DataW.trod enc Tryz.prog w 0 (fun _ => true) true m 22 ((cs.drop 23).take (Tryz.prog.cellsOf 22)) = xs[3]? := hel 3 _ rfl
    rw [cells22, List.getElem?_eq_getElem (by omega)] at g
    exact g
  have q3 : Wok 22 xs[3].1 := wok_each hw' 3 _ _ rfl (by rw [List.getElem?_map, List.getElem?_eq_getElem (by omega)]; rfl)
  obtain ⟨A3, c3, f3, e3, le3, b3, p3, s3, z3⟩ := op22 g3 q3
  have g4 : Td enc w m 3 ((cs.drop 24).take 1) xs[4] := by
    have g : DataW.trod enc Tryz.prog w 0 (fun _ => true) true m 3 ((cs.drop 24).take (Tryz.prog.cellsOf 3)) = xs[4]? := hel 4 _ rfl
    rw [cells3, List.getElem?_eq_getElem (by omega)] at g
    exact g
  obtain ⟨f4, e4, b4⟩ := op3 g4
  have g5 : Td enc w m 3 ((cs.drop 25).take 1) xs[5] := by
    have g : DataW.trod enc Tryz.prog w 0 (fun _ => true) true m 3 ((cs.drop 25).take (Tryz.prog.cellsOf 3)) = xs[5]? := hel 5 _ rfl
    rw [cells3, List.getElem?_eq_getElem (by omega)] at g
    exact g
  obtain ⟨f5, e5, b5⟩ := op3 g5
  have g6 : Td enc w m 3 ((cs.drop 26).take 1) xs[6] := by
    have g : DataW.trod enc Tryz.prog w 0 (fun _ => true) true m 3 ((cs.drop 26).take (Tryz.prog.cellsOf 3)) = xs[6]? := hel 6 _ rfl
    rw [cells3, List.getElem?_eq_getElem (by omega)] at g
    exact g
  obtain ⟨f6, e6, b6⟩ := op3 g6
  have g7 : Td enc w m 4 ((cs.drop 27).take 1) xs[7] := by
    have g : DataW.trod enc Tryz.prog w 0 (fun _ => true) true m 4 ((cs.drop 27).take (Tryz.prog.cellsOf 4)) = xs[7]? := hel 7 _ rfl
    rw [cells4, List.getElem?_eq_getElem (by omega)] at g
    exact g
  obtain ⟨f7, e7⟩ := op4 g7
  have g8 : Td enc w m 9 ((cs.drop 28).take 1) xs[8] := by
    have g : DataW.trod enc Tryz.prog w 0 (fun _ => true) true m 9 ((cs.drop 28).take (Tryz.prog.cellsOf 9)) = xs[8]? := hel 8 _ rfl
    rw [cells9, List.getElem?_eq_getElem (by omega)] at g
    exact g
  have q8 : Wok 9 xs[8].1 := wok_each hw' 8 _ _ rfl (by rw [List.getElem?_map, List.getElem?_eq_getElem (by omega)]; rfl)
  obtain ⟨f8, e8, b8⟩ := op9 g8 q8
  have g9 : Td enc w m 9 ((cs.drop 29).take 1) xs[9] := by
    have g : DataW.trod enc Tryz.prog w 0 (fun _ => true) true m 9 ((cs.drop 29).take (Tryz.prog.cellsOf 9)) = xs[9]? := hel 9 _ rfl
    rw [cells9, List.getElem?_eq_getElem (by omega)] at g
    exact g
  have q9 : Wok 9 xs[9].1 := wok_each hw' 9 _ _ rfl (by rw [List.getElem?_map, List.getElem?_eq_getElem (by omega)]; rfl)
  obtain ⟨f9, e9, b9⟩ := op9 g9 q9
  have g10 : Td enc w m 3 ((cs.drop 30).take 1) xs[10] := by
    have g : DataW.trod enc Tryz.prog w 0 (fun _ => true) true m 3 ((cs.drop 30).take (Tryz.prog.cellsOf 3)) = xs[10]? := hel 10 _ rfl
    rw [cells3, List.getElem?_eq_getElem (by omega)] at g
    exact g
  obtain ⟨f10, e10, b10⟩ := op3 g10
  have g11 : Td enc w m 3 ((cs.drop 31).take 1) xs[11] := by
    have g : DataW.trod enc Tryz.prog w 0 (fun _ => true) true m 3 ((cs.drop 31).take (Tryz.prog.cellsOf 3)) = xs[11]? := hel 11 _ rfl
    rw [cells3, List.getElem?_eq_getElem (by omega)] at g
    exact g
  obtain ⟨f11, e11, b11⟩ := op3 g11
  have g12 : Td enc w m 32 ((cs.drop 32).take 1) xs[12] := by
    have g : DataW.trod enc Tryz.prog w 0 (fun _ => true) true m 32 ((cs.drop 32).take (Tryz.prog.cellsOf 32)) = xs[12]? := hel 12 _ rfl
    rw [cells32, List.getElem?_eq_getElem (by omega)] at g
    exact g
  have q12 : Wok 32 xs[12].1 := wok_each hw' 12 _ _ rfl (by rw [List.getElem?_map, List.getElem?_eq_getElem (by omega)]; rfl)
  obtain ⟨A12, c12, f12, e12, le12, b12, p12, s12, z12⟩ := op32 g12 q12
  have ee : cs.drop 0 = [.int .i64 f0] ++ ([.string f1] ++ (f2.cells.toList ++ ([.slice A3 f3.length c3] ++ ([.int .i64 f4] ++ ([.int .i64 f5] ++ ([.int .i64 f6] ++ ([.bool f7] ++ ([.string f8] ++ ([.string f9] ++ ([.int .i64 f10] ++ ([.int .i64 f11] ++ ([.slice A12 f12.length c12] ++ [])))))))))))) := by
    rw [cut_list cs 0 1 1 rfl, e0, cut_list cs 1 1 2 rfl, e1, cut_list cs 2 21 23 rfl, e2, cut_list cs 23 1 24 rfl, e3, cut_list cs 24 1 25 rfl, e4, cut_list cs 25 1 26 rfl, e5, cut_list cs 26 1 27 rfl, e6, cut_list cs 27 1 28 rfl, e7, cut_list cs 28 1 29 rfl, e8, cut_list cs 29 1 30 rfl, e9, cut_list cs 30 1 31 rfl, e10, cut_list cs 31 1 32 rfl, e11, cut_list cs 32 1 33 rfl, e12, show cs.drop 33 = [] from List.drop_eq_nil_of_le (by omega)]
  rw [List.drop_zero] at ee
  exact ⟨⟨f0, f1, f2, f3, f4, f5, f6, f7, f8, f9, f10, f11, f12⟩, _, _, ee, ⟨b0, b1, b2, Nat.le_trans le3 b3, p3, b4, b5, b6, b8, b9, b10, b11, Nat.le_trans le12 b12, p12⟩, ⟨⟨A3, c3, rfl, le3, s3⟩, ⟨A12, c12, rfl, le12, s12⟩⟩⟩

theorem agg_cells {cs : Array Value} {l : List Value} (h : (Value.agg cs).cells.toList = l) : cs = l.toArray := by
  subst h
  simp [Value.cells]
theorem slice_of {t e : TypeId} {W : World} {r : Reach} {b : Nat} {v : Value} {A : Option Addr} {n c : Nat} (ht : Tryz.prog.underlying t = some (.slice e)) (hv : Value.okWide Tryz.prog W r b t v) (h : v.cells.toList = [.slice A n c]) : v = .slice A n c := by
  obtain ⟨a, l, k, rfl⟩ := okWide_slice ht hv
  simpa [Value.cells] using h
abbrev Own (t : TypeId) : Prop := t < 349
theorem ownClosed : TClosed Tryz.prog Own := by
  have hall : ((List.range 349).all fun t => match Tryz.prog.underlying t with | some d => (subT d).all (fun e => Nat.blt e 349) && (match d with | .slice e => Nat.blt 0 (Tryz.prog.cellsOf e) | _ => true) | _ => true) = true := by kernel_rfl
  intro t d hS ht
  have := List.all_eq_true.1 hall t (List.mem_range.2 hS)
  rw [ht] at this
  simp only [Bool.and_eq_true] at this
  refine ⟨fun e he => ?_, fun e he => ?_⟩
  · have h1 := List.all_eq_true.1 this.1 e he
    simpa [Nat.blt, Nat.succ_le_iff] using h1
  · subst he
    simpa [Nat.blt, Nat.succ_le_iff] using this.2

end Go.Proofs.YtlkkiimmangplaaGreatDoor

/- The law on keys. -/
namespace Go.Proofs.YtlkkiimmangplaaGreatDoor
open Go.RowKit
set_option linter.unusedVariables false
set_option linter.unusedSimpArgs false

def padB (s : ByteArray) : ByteArray := s ++ blanks (31 - s.size)
end Go.Proofs.YtlkkiimmangplaaGreatDoor

/- Matching by tables: from the end and from the beginning the same. -/
namespace Go.Proofs.YtlkkiimmangplaaGreatDoor
set_option linter.unusedVariables false
set_option linter.unusedSimpArgs false
/-- Whether what is left of a pattern, p parts from i on, matches the elements from k on; by rows, the last one first. -/
def tabP (n : Nat) (star : Nat → Bool) (one : Nat → Nat → Bool) : Nat → Nat → Nat → Bool
  | 0, _, k => k == n
  | p + 1, i, k => if star i = true then (List.range (n + 1 - k)).any (fun j => tabP n star one p (i + 1) (k + j)) else decide (k < n) && (tabP n star one p (i + 1) (k + 1) && one i k)
def tblP (parts n : Nat) (star : Nat → Bool) (one : Nat → Nat → Bool) : Bool := tabP n star one parts 0 0
theorem tabP_star {n : Nat} {star : Nat → Bool} {one : Nat → Nat → Bool} {p i k : Nat} (hs : star i = true) (hk : k ≤ n) :
    tabP n star one (p + 1) i k = (tabP n star one p (i + 1) k || (decide (k < n) && tabP n star one (p + 1) i (k + 1))) := by
  rw [tabP, if_pos hs]
  rcases Nat.lt_or_ge k n with h | h
  · rw [tabP, if_pos hs, decide_eq_true h, Bool.true_and]
    rw [show n + 1 - k = (n + 1 - (k + 1)) + 1 by omega, List.range_succ_eq_map, List.any_cons, List.any_map, Nat.add_zero]
    congr 1
    apply congrArg (fun f => (List.range (n + 1 - (k + 1))).any f)
    funext j
    show tabP n star one p (i + 1) (k + (j + 1)) = _
    rw [show k + (j + 1) = k + 1 + j by omega]
  · rw [decide_eq_false (by omega), show n + 1 - k = 1 by omega]
    simp
theorem tabP_plain {n : Nat} {star : Nat → Bool} {one : Nat → Nat → Bool} {p i k : Nat} (hs : star i = false) :
    tabP n star one (p + 1) i k = (decide (k < n) && (tabP n star one p (i + 1) (k + 1) && one i k)) := by
  rw [tabP, if_neg (by rw [hs]; decide)]
/-- The same from the beginning: whether the first i parts match the first k elements. -/
def fwP (star : Nat → Bool) (one : Nat → Nat → Bool) : Nat → Nat → Bool
  | 0, k => k == 0
  | i + 1, k => if star i = true then (List.range (k + 1)).any (fun j => fwP star one i j) else decide (0 < k) && (fwP star one i (k - 1) && one i (k - 1))
section
variable {star : Nat → Bool} {one : Nat → Nat → Bool} {n : Nat}
end
end Go.Proofs.YtlkkiimmangplaaGreatDoor

/- A region that draws its order, whose last operation waits for all others: these read only, the last one may change memory. -/
namespace Go.Proofs.YtlkkiimmangplaaGreatDoor
open Go.RowKit
set_option linter.unusedVariables false
set_option linter.unusedSimpArgs false
def guardsB (ops : Array Oper) : Bool := (List.range ops.size).all fun i => match ops[i]? with | some o => (match o.guard with | some (j, _) => Nat.blt j ops.size | none => true) | none => true
def lastB (init : Array Oper) (o : Oper) : Bool := (List.range init.size).all fun j => (dps o).any fun k => Nat.beq k j || reachB init 64 k j
theorem yielded_push {init : Array Oper} {o : Oper} {tmps : Array Value} {j : Nat} (h : j < init.size) : yielded (init.push o) tmps j = yielded init tmps j := by
  unfold yielded
  rw [Array.getElem?_push_lt h, Array.getElem?_eq_getElem h]
theorem wanted_push {init : Array Oper} {o p : Oper} {tmps : Array Value} {i : Nat} (hg : guardsB init = true) (hp : init[i]? = some p) : Region.wanted p (yielded (init.push o) tmps) = Region.wanted p (yielded init tmps) := by
  have hi : i < init.size := (Array.getElem?_eq_some_iff.1 hp).1
  have h1 := List.all_eq_true.1 hg i (List.mem_range.2 hi)
  rw [hp] at h1
  unfold Region.wanted
  cases hq : p.guard with
  | none => rfl
  | some jb =>
    obtain ⟨j, b⟩ := jb
    simp only [hq] at h1
    have h2 : j < init.size := by simpa [Nat.blt, Nat.succ_le_iff] using h1
    simp only
    rw [yielded_push h2]
section
variable {init : Array Oper} {o : Oper} {C : World → Prop} {Qa : Act → Prop} {Q : Exit → Act → World → Prop}
theorem ready_all {ops : Array Oper} (hac : acycB ops = true) {L : Array Bool} (hL : L.size = ops.size) (hr : Region.ready .any ops L = []) : ∀ i, i < ops.size → L.getD i false = true := by
  intro i
  induction i using Nat.strongRecOn with
  | _ i ih =>
    intro hi
    rcases hq : L.getD i false with _ | _
    · exfalso
      have hmem : i ∈ Region.ready .any ops L := by
        rw [mem_ready]
        have ho : ops[i]? = some ops[i] := by simp [hi]
        refine ⟨?_, ops[i], ho, fun e he hb => ?_⟩
        · have hlt : i < L.size := by omega
          simp only [Array.getD, hlt, dif_pos] at hq ⊢
          exact hq
        · have hlt := acyc hac ho (mem_dps he hb)
          exact ih e.on hlt (by omega)
      rw [hr] at hmem
      cases hmem
    · rfl
theorem getD_push {L : Array Bool} {i : Nat} {d : Bool} (h : i < L.size) : (L.push false).getD i d = L.getD i d := by
  simp only [Array.getD, Array.size_push, h, dif_pos, show i < L.size + 1 by omega]
  exact Array.getElem_push_lt h
theorem getD_last {L : Array Bool} {d : Bool} : (L.push false).getD L.size d = false := by
  simp [Array.getD]
theorem qOp_push {i : Nat} {K : Act → Prop} {a : Act} (hi : i < init.size) (hg : guardsB init = true) (h : qOp Tryz.prog init C i K a) : qOp Tryz.prog (init.push o) C i K a := by
  unfold qOp at h ⊢
  have ho : init[i]? = some init[i] := by simp [hi]
  have ho' : (init.push o)[i]? = some init[i] := by rw [Array.getElem?_push_lt hi]
  rw [ho] at h
  rw [ho']
  simp only at h ⊢
  rw [wanted_push hg ho]
  exact h
theorem last_turn {w : World} {a : Act} {K : Act → World → Prop} (h : wpList Tryz.prog (init.push o) Q [o] a w) (hK : ∀ a w, Q .normal a w → K a w) : wpOp Tryz.prog (init.push o) Q init.size K a w := by
  unfold wpOp
  have ho : (init.push o)[init.size]? = some o := by simp
  rw [ho]
  simp only
  unfold wpList at h
  split
  · rename_i hw
    rw [if_pos hw] at h
    exact h.imp (Oper.wp_mono (fun a w h => hK a w h)) id
  · rename_i hw
    rw [if_neg hw] at h
    exact hK _ _ h
theorem ready_push {L : Array Bool} {i : Nat} (hL : L.size = init.size) (hi : i < init.size) (hdl : acycB init = true) : i ∈ Region.ready .any (init.push o) (L.push false) ↔ i ∈ Region.ready .any init L := by
  rw [mem_ready, mem_ready, getD_push (by omega), Array.getElem?_push_lt hi, Array.getElem?_eq_getElem hi]
  constructor
  · rintro ⟨h1, p, hp, h2⟩
    cases hp
    refine ⟨h1, _, rfl, fun e he hb => ?_⟩
    have hlt := acyc hdl (show init[i]? = some init[i] by simp [hi]) (mem_dps he hb)
    have := h2 e he hb
    rwa [getD_push (by omega)] at this
  · rintro ⟨h1, p, hp, h2⟩
    cases hp
    refine ⟨h1, _, rfl, fun e he hb => ?_⟩
    have hlt := acyc hdl (show init[i]? = some init[i] by simp [hi]) (mem_dps he hb)
    rw [getD_push (by omega)]
    exact h2 e he hb
theorem setPush (L : Array Bool) (x : Bool) (i : Nat) (y : Bool) (h : i < L.size) : (L.push x).setIfInBounds i y = (L.setIfInBounds i y).push x := by
  apply Array.ext_getElem?
  intro k
  rw [Array.getElem?_push, Array.size_setIfInBounds]
  by_cases hki : i = k
  · subst hki
    rw [if_neg (by omega), Array.getElem?_setIfInBounds_self_of_lt (by simp; omega), Array.getElem?_setIfInBounds_self_of_lt h]
  · rw [Array.getElem?_setIfInBounds_ne hki, Array.getElem?_setIfInBounds_ne hki, Array.getElem?_push]
theorem over {ops : Array Oper} {L : Array Bool} (hall : ∀ i, i < ops.size → L.getD i true = true) {a : Act} {w : World} (hQ : Q .normal a w) : ∀ fuel, wpAny Tryz.prog .any ops Q fuel L a w := by
  have hr : Region.ready .any ops L = [] := by
    cases hq : Region.ready .any ops L with
    | nil => rfl
    | cons i r =>
      have hm : i ∈ Region.ready .any ops L := by rw [hq]; exact List.mem_cons_self
      rw [mem_ready] at hm
      obtain ⟨h1, p, hp, _⟩ := hm
      rw [hall i (Array.getElem?_eq_some_iff.1 hp).1] at h1
      cases h1
  intro fuel
  cases fuel with
  | zero => exact ⟨hr, hQ⟩
  | succ fuel => exact ⟨fun _ => hQ, fun i hm => by rw [hr] at hm; cases hm⟩
def depsB (m : Nat) (o : Oper) : Bool := (dps o).all fun j => Nat.blt j m
theorem done_all {L : Array Bool} (hac : acycB init = true) (hL : L.size = init.size) (hdo : depsB init.size o = true) (hall : ∀ i, i < init.size → L.getD i false = true) {w : World} {a : Act} (hq : wpList Tryz.prog (init.push o) Q [o] a w) (fuel : Nat) :
    wpAny Tryz.prog .any (init.push o) Q (fuel + 1) (L.push false) a w := by
  have hno : ∀ i, i < init.size → i ∉ Region.ready .any (init.push o) (L.push false) := fun i hi hm => by
    rw [ready_push hL hi hac, mem_ready] at hm
    have h1 := hall i hi
    have h2 := hm.1
    have hlt : i < L.size := by omega
    simp only [Array.getD, hlt, dif_pos] at h1 h2
    rw [h1] at h2; cases h2
  refine ⟨fun hr => ?_, fun i hm => ?_⟩
  · exfalso
    have hm : init.size ∈ Region.ready .any (init.push o) (L.push false) := by
      rw [mem_ready]
      refine ⟨by rw [← hL]; exact getD_last, o, by simp, fun e he hb => ?_⟩
      have hlt : e.on < init.size := by
        have := List.all_eq_true.1 hdo _ (mem_dps he hb)
        simpa [Nat.blt, Nat.succ_le_iff] using this
      rw [getD_push (by omega)]
      exact hall _ hlt
    rw [hr] at hm
    cases hm
  · have hi : i < (init.push o).size := by
      rw [mem_ready] at hm
      obtain ⟨_, p, hp, _⟩ := hm
      exact (Array.getElem?_eq_some_iff.1 hp).1
    rw [Array.size_push] at hi
    have e : i = init.size := by
      rcases Nat.lt_or_ge i init.size with h | h
      · exact absurd hm (hno i h)
      · omega
    subst e
    refine last_turn hq fun a w hQ => over (fun j hj => ?_) hQ _
    rw [Array.size_push] at hj
    have hsz : ((L.push false).setIfInBounds init.size true).size = init.size + 1 := by simp [hL]
    by_cases hji : j = init.size
    · subst hji
      simp [Array.getD, hL]
    · have hlt : j < init.size := by omega
      have h1 := hall j hlt
      have hltL : j < L.size := by omega
      simp only [Array.getD, hltL, dif_pos] at h1
      have hlt2 : j < ((L.push false).setIfInBounds init.size true).size := by omega
      simp only [Array.getD, hlt2, dif_pos]
      have h3 : ((L.push false).setIfInBounds init.size true)[j]? = some true := by
        rw [Array.getElem?_setIfInBounds_ne (by omega), Array.getElem?_push_lt hltL]
        exact congrArg some h1
      have h4 := (Array.getElem?_eq_some_iff.1 h3).2
      exact h4
theorem any_last (hac : acycB init = true) (hg : guardsB init = true) (hdo : depsB init.size o = true) (hlast : lastB init o = true) (hq : ∀ a w, C w → Qa a → wpList Tryz.prog (init.push o) Q [o] a w) :
    ∀ (fuel : Nat) (L : Array Bool) (a : Act) (w : World), L.size = init.size → Closed init (fun i => L.getD i false) → C w → wpAnyQ Tryz.prog .any init C Qa fuel L a → wpAny Tryz.prog .any (init.push o) Q (fuel + 1) (L.push false) a w
  | 0, L, a, w, hL, hcl, hC, h => done_all hac hL hdo (ready_all hac hL h.1) (hq a w hC h.2) 0
  | fuel + 1, L, a, w, hL, hcl, hC, h => by
    by_cases hr : Region.ready .any init L = []
    · exact done_all hac hL hdo (ready_all hac hL hr) (hq a w hC (h.1 hr)) (fuel + 1)
    · have hback : ∀ i, i < init.size → (i ∈ Region.ready .any (init.push o) (L.push false) ↔ i ∈ Region.ready .any init L) := fun i hi => ready_push hL hi hac
      obtain ⟨i0, hi0⟩ := List.exists_mem_of_ne_nil _ hr
      have hi0' : i0 < init.size := by
        rw [mem_ready] at hi0
        obtain ⟨_, p, hp, _⟩ := hi0
        exact (Array.getElem?_eq_some_iff.1 hp).1
      refine ⟨fun hr' => ?_, fun i hm => ?_⟩
      · have := (hback i0 hi0').2 hi0
        rw [hr'] at this
        cases this
      · have hi : i < init.size := by
          have hmm := hm
          rw [mem_ready] at hmm
          obtain ⟨_, p, hp, h2⟩ := hmm
          have hi : i < (init.push o).size := (Array.getElem?_eq_some_iff.1 hp).1
          rw [Array.size_push] at hi
          rcases Nat.lt_or_ge i init.size with h' | h'
          · exact h'
          · exfalso
            obtain rfl : i = init.size := by omega
            have ho : (init.push o)[init.size]? = some o := by simp
            rw [ho] at hp
            cases hp
            have hd := List.all_eq_true.1 hlast i0 (List.mem_range.2 hi0')
            obtain ⟨k0, hk0, hr0⟩ := List.any_eq_true.1 hd
            have hb0 : L.getD k0 false = true := by
              obtain ⟨e, he, hee⟩ := List.mem_map.1 hk0
              rw [List.mem_filter] at he
              have h5 := h2 e (by simpa using he.1) he.2
              have hk1 : k0 < init.size := by
                have := List.all_eq_true.1 hdo _ hk0
                simpa [Nat.blt, Nat.succ_le_iff] using this
              rwa [hee, getD_push (by omega)] at h5
            have h5 : L.getD i0 false = true := by
              rcases Bool.or_eq_true_iff.1 hr0 with e | e
              · rw [← Nat.eq_of_beq_eq_true e]; exact hb0
              · exact reach_closed hcl 64 k0 i0 e hb0
            rw [mem_ready] at hi0
            have h6 := hi0.1
            have hlt : i0 < L.size := by omega
            simp only [Array.getD, hlt, dif_pos] at h5 h6
            rw [h5] at h6; cases h6
        have hmi := (hback i hi).1 hm
        have h1 := qOp_push (o := o) hi hg (h.2 i hmi)
        refine wpOp_of_qOp hC (fun a' w' hC' hK => ?_) h1
        have hcl2 : Closed init (fun k => (L.setIfInBounds i true).getD k false) := fun k p hk hb j hj => by
          have hset : ∀ k, L.getD k false = true → (L.setIfInBounds i true).getD k false = true := fun k hk => by
            by_cases hik : i = k
            · subst hik
              simp [Array.getD, hL, hi]
            · have hkL : k < L.size := by
                rcases Nat.lt_or_ge k L.size with h' | h'
                · exact h'
                · simp [Array.getD, Nat.not_lt.2 h'] at hk
              simpa [Array.getElem?_setIfInBounds_ne hik] using hk
          have hk' : k < init.size := (Array.getElem?_eq_some_iff.1 hk).1
          by_cases hik : i = k
          · subst hik
            rw [mem_ready] at hmi
            obtain ⟨_, p', hp', h2⟩ := hmi
            rw [hk] at hp'
            cases hp'
            obtain ⟨e, he, hee⟩ := List.mem_map.1 hj
            rw [List.mem_filter] at he
            have := h2 e (by simpa using he.1) he.2
            rw [hee] at this
            exact hset j this
          · have hb' : L.getD k false = true := by
              simpa [Array.getElem?_setIfInBounds_ne hik] using hb
            exact hset j (hcl k p hk hb' j hj)
        have h2 := any_last hac hg hdo hlast hq fuel (L.setIfInBounds i true) a' w' (by simpa using hL) hcl2 hC' hK
        have e : (L.setIfInBounds i true).push false = (L.push false).setIfInBounds i true := by
          exact (setPush L false i true (by omega)).symm
        rw [e] at h2
        exact h2
end
/-- What is asked behind the first operations. -/
def Lastly (ops : Array Oper) (o : Oper) (Q : Exit → Act → World → Prop) : Exit → Act → World → Prop := fun e a w => match e with
  | .normal => wpList Tryz.prog ops Q [o] a w
  | _ => True
theorem popPush {α : Type} {ops : Array α} {o : α} (ho : ops.back? = some o) : ops = ops.pop.push o := by
  rw [Array.back?_eq_some_iff] at ho
  obtain ⟨xs, rfl⟩ := ho
  simp
theorem WC.last {w0 : World} {n : Nat} {Q : Exit → Act → World → Prop} {ρ : Env} {H : List It} {id : Nat} (init : Array Oper) (o : Oper) {ops : Array Oper} (he : ops = init.push o) (hB : Region.lexB .any init = true) (hac : acycB init = true) (hg : guardsB init = true) (hdo : depsB init.size o = true) (hlast : lastB init o = true)
    (h : WQ w0 n init (Lastly ops o Q) init.toList ρ H) : WC w0 n Q (.region id ops true) ρ H := fun a w hf hs => by
  subst he
  refine wp_region_any mixed ?_
  simp only [Region.lexB, Bool.and_eq_true] at hB
  have h1 := wpAnyQ_lex (C := St w0 H) (md := .any) hB.1 init.toList 0 (Array.replicate init.size false) a (by simp) (by simpa using hB.2) (h a hf)
  have h2 := any_last (C := St w0 H) (Q := Q) hac hg hdo hlast (fun a w hC hq => hq w hC) _ _ a _ (by simp) (fun k p hk hb => by exfalso; revert hb; simp [Array.getElem?_replicate]; split <;> simp) hs.drew h1
  have e : (Array.replicate init.size false).push false = Array.replicate (init.push o).size false := by
    rw [Array.size_push, Array.replicate_succ]
  rw [e] at h2
  simpa using h2
theorem WC.lastP {w0 : World} {n : Nat} {Q : Exit → Act → World → Prop} {ρ : Env} {H : List It} {id : Nat} {o : Oper} {ops : Array Oper} (ho : ops.back? = some o) (hB : Region.lexB .any ops.pop = true) (hac : acycB ops.pop = true) (hg : guardsB ops.pop = true) (hdo : depsB ops.pop.size o = true) (hlast : lastB ops.pop o = true)
    (h : WQ w0 n ops.pop (Lastly ops o Q) ops.pop.toList ρ H) : WC w0 n Q (.region id ops true) ρ H :=
  WC.last ops.pop o (popPush ho) hB hac hg hdo hlast h
theorem End.lastly {w0 : World} {n : Nat} {Q : Exit → Act → World → Prop} {ρ : Env} {H : List It} {o : Oper} {ops : Array Oper} (h : WL w0 n ops Q [o] ρ H) : End w0 n (Lastly ops o Q) .normal ρ H := fun a w hf hs => h a w hf hs
end Go.Proofs.YtlkkiimmangplaaGreatDoor
