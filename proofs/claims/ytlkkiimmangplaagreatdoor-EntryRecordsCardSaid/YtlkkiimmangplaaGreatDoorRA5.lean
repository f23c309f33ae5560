/- Parts: P42, P43, P44, P45, L1, P16, P17, P18, L2, L4, L5, L8, P46, X0, X3, X4, P47, P48, L6, V12, P49, P50, P51, P52, V13, L7, P53, P54, P55. -/
import Derived.Test.YtlkkiimmangplaaGreatDoorRA4
import Derived.Lib.IndexBytes
import Derived.Lib.TrimByte
import Derived.HandedShaped
import Derived.Handed
import Derived.ChangeReads
import Derived.ChangeSame
import Derived.OpenShut
import Derived.ProofKit
import Derived.ChangeArms
import Derived.DataReads
import Derived.Laws.Cover3
/- Few entries. -/
namespace Go.Proofs.YtlkkiimmangplaaGreatDoor
open Go.RowKit
set_option linter.unusedVariables false
set_option linter.unusedSimpArgs false

def who20 (g : Gr) : Bool := !decide (20 < (g.who.size : Int))
def few33 (e : E) : Bool := e.grants.all who20 && (decide ((e.name.size : Int) ≤ 60) && (decide ((e.alt.length : Int) ≤ 8) && (decide ((e.grants.length : Int) ≤ 12) && decide ((e.owner.size : Int) + (e.target.size : Int) + (e.ds.volume.size : Int) + (e.ds.owner.size : Int) ≤ 200))))
theorem all_no {l : List Gr} {k : Nat} {g : Gr} (h : l[k]? = some g) (hp : who20 g = false) : l.all who20 = false := by
  rw [Bool.eq_false_iff]
  intro he
  rw [List.all_eq_true.1 he g (List.mem_of_getElem? h)] at hp
  cases hp

set_option maxRecDepth 100000 in
theorem few33_any (e : E) (va vg : Value) (w : World) (ha : EntAt w e va vg) (hz1 : e.owner.size < 1000000000000000000) (hz2 : e.target.size < 1000000000000000000) (hz3 : e.ds.volume.size < 1000000000000000000) (hz4 : e.ds.owner.size < 1000000000000000000) :
    Calls Tryz.prog 46 #[.agg (e.cells va vg)] w (RetV w (.bool (few33 e))) := by
  obtain ⟨⟨A1, c1, rfl, hc1, hr1⟩, ⟨A2, c2, rfl, hc2, hr2⟩⟩ := ha
  refine enter Tryz.func46 rfl Tryz.ntmps46 rfl ?_
  refine WC.seq ?_
  refine WC.region ?_
  refine WL.box rfl rfl rfl (fun b1 => ?_)
  refine WL.p rfl rfl rfl (P.assign rfl) ?_
  refine WL.nil_ ?_
  refine End.seq ?_
  refine WC.seq ?_
  refine WC.seq ?_
  refine WC.region ?_
  refine WL.p rfl rfl rfl (P.fieldAddr fa_34_12 rfl) ?_
  refine WL.p rfl rfl rfl (P.loadO 0 Tryz.isAgg32 rfl rfl rfl) ?_
  refine WL.p rfl rfl rfl (P.lenR Tryz.underlying32 rfl) ?_
  refine WL.p rfl rfl rfl (P.move rfl) ?_
  refine WL.nil_ ?_
  refine End.seq ?_
  refine WC.block ?_
  refine WC.loopD (σ := Nat) (fun k => [(8, .int .i64 (k : Nat))]) (fun k => _) (fun k => k ≤ e.grants.length ∧ (e.grants.take k).all who20 = true) (fun k => e.grants.length - k) 0 ⟨Nat.zero_le _, rfl⟩ (Env.sub_cons rfl (Env.sub_nil)) [0] rfl rfl ?_
  rintro k ⟨hk, hok⟩
  refine WC.seq ?_
  refine WC.region ?_
  refine WL.p rfl rfl rfl (P.cmp rfl rfl rfl) ?_
  refine WL.nil_ ?_
  refine End.seq ?_
  refine WC.seq ?_
  refine WC.cond rfl (fun hc9 => ?_) (fun hc9 => ?_)
  ·
    have hkl : k < e.grants.length := by have := of_decide_eq_true hc9; omega
    have hl2 := hr2.1
    obtain ⟨b, off, rfl, hcx⟩ := hr2.at_ (by omega)
    obtain ⟨g, hx⟩ := get_of_lt (xs := e.grants) (k := k) hkl
    refine WC.skip ?_
    refine End.seq ?_
    refine WC.seq ?_
    refine WC.block ?_
    refine WC.seq ?_
    refine WC.region ?_
    refine WL.p rfl rfl rfl (P.elemAddr Tryz.underlying32 Tryz.sizeOf51 rfl rfl (by omega) (by omega)) ?_
    refine WL.p rfl rfl rfl (P.loadBA (vs := g.cells.toArray) Tryz.isAgg51 Tryz.sizeOf51 rfl rfl (fun j v h => hcx k g hx j v (by simpa using h))) ?_
    refine WL.alloc Tryz.zeroValue51 rfl rfl (fun b4 => ?_)
    refine WL.storeW 0 Tryz.sizeOf51 rfl rfl rfl rfl rfl rfl rfl ?_
    refine WL.nil_ ?_
    refine End.seq ?_
    refine WC.seq ?_
    refine WC.region ?_
    refine WL.p rfl rfl rfl (P.fieldAddr fa_51_0 rfl) ?_
    refine WL.p rfl rfl rfl (P.loadO 0 Tryz.isAgg9 rfl rfl rfl) ?_
    refine WL.p rfl rfl rfl (P.lenS Tryz.underlying9 rfl) ?_
    refine WL.p rfl rfl rfl (P.cmp rfl rfl rfl) ?_
    refine WL.nil_ ?_
    refine End.seq ?_
    refine WC.cond rfl (fun hc15 => ?_) (fun hc15 => ?_)
    ·
      refine WC.seq ?_
      refine WC.region ?_
      refine WL.p rfl rfl rfl (P.assign rfl) ?_
      refine WL.nil_ ?_
      refine End.seq ?_
      refine WC.ret ?_
      refine End.blkR ?_
      refine End.thenR ?_
      refine End.thenR ?_
      refine End.blkR ?_
      refine End.thenR ?_
      refine End.ret1 rfl rfl ?_
      exact fun w' hs' => RetV.of (by rw [few33, all_no hx (by rw [who20, show decide (20 < (g.who.size : Int)) = true from hc15]; rfl)]; rfl) hs'
    ·
      refine WC.skip ?_
      refine End.blkN ?_
      refine End.seq ?_
      refine WC.region ?_
      refine WL.p rfl rfl rfl (P.ari64 rfl rfl rfl (by omega)) ?_
      refine WL.p rfl rfl rfl (P.move rfl) ?_
      refine WL.nil_ ?_
      refine End.againD (k + 1) ?_ ?_ rfl (Env.sub_cons rfl (Env.sub_nil)) rfl [1] rfl rfl
      · exact ⟨by omega, by rw [all_snoc hx, hok, who20, show decide (20 < (g.who.size : Int)) = false from hc15]; rfl⟩
      · show e.grants.length - (k + 1) < e.grants.length - k; omega
  ·
    have ek : k = e.grants.length := by have := of_decide_eq_false hc9; omega
    have hokF : e.grants.all who20 = true := by rw [ek, List.take_length] at hok; exact hok
    refine WC.exit ?_
    refine End.thenX ?_
    refine End.thenX ?_
    refine End.blkX ?_
    refine End.seq ?_
    refine WC.seq ?_
    refine WC.region ?_
    refine WL.p rfl rfl rfl (P.fieldAddr fa_34_1 rfl) ?_
    refine WL.p rfl rfl rfl (P.loadO 0 Tryz.isAgg9 rfl rfl rfl) ?_
    refine WL.p rfl rfl rfl (P.lenS Tryz.underlying9 rfl) ?_
    refine WL.p rfl rfl rfl (P.cmp rfl rfl rfl) ?_
    refine WL.p rfl rfl rfl (P.move rfl) ?_
    refine WL.split 21 rfl (fun hs21 => ?_) (fun hs21 => ?_)
    ·
      refine WL.p rfl rfl rfl (P.fieldAddr fa_34_3 rfl) ?_
      refine WL.p rfl rfl rfl (P.loadO 0 Tryz.isAgg22 rfl rfl rfl) ?_
      refine WL.p rfl rfl rfl (P.lenR Tryz.underlying22 rfl) ?_
      refine WL.p rfl rfl rfl (P.cmp rfl rfl rfl) ?_
      refine WL.p rfl rfl rfl (P.pickT rfl rfl) ?_
      refine WL.p rfl rfl rfl (P.move rfl) ?_
      refine WL.split 27 rfl (fun hs27 => ?_) (fun hs27 => ?_)
      ·
        refine WL.p rfl rfl rfl (P.fieldAddr fa_34_12 rfl) ?_
        refine WL.p rfl rfl rfl (P.loadO 0 Tryz.isAgg32 rfl rfl rfl) ?_
        refine WL.p rfl rfl rfl (P.lenR Tryz.underlying32 rfl) ?_
        refine WL.p rfl rfl rfl (P.cmp rfl rfl rfl) ?_
        refine WL.p rfl rfl rfl (P.pickT rfl rfl) ?_
        refine WL.p rfl rfl rfl (P.move rfl) ?_
        refine WL.split 33 rfl (fun hs33 => ?_) (fun hs33 => ?_)
        ·
          refine WL.p rfl rfl rfl (P.fieldAddr fa_34_8 rfl) ?_
          refine WL.p rfl rfl rfl (P.loadO 0 Tryz.isAgg9 rfl rfl rfl) ?_
          refine WL.p rfl rfl rfl (P.lenS Tryz.underlying9 rfl) ?_
          refine WL.p rfl rfl rfl (P.fieldAddr fa_34_9 rfl) ?_
          refine WL.p rfl rfl rfl (P.loadO 0 Tryz.isAgg9 rfl rfl rfl) ?_
          refine WL.p rfl rfl rfl (P.lenS Tryz.underlying9 rfl) ?_
          refine WL.p rfl rfl rfl (P.ari64 rfl rfl rfl (by omega)) ?_
          refine WL.p rfl rfl rfl (P.fieldAddr fa_34_2 rfl) ?_
          refine WL.p rfl rfl rfl (P.fieldAddr fa_31_16 rfl) ?_
          refine WL.p rfl rfl rfl (P.loadO 0 Tryz.isAgg9 rfl rfl rfl) ?_
          refine WL.p rfl rfl rfl (P.lenS Tryz.underlying9 rfl) ?_
          refine WL.p rfl rfl rfl (P.ari64 rfl rfl rfl (by omega)) ?_
          refine WL.p rfl rfl rfl (P.fieldAddr fa_34_2 rfl) ?_
          refine WL.p rfl rfl rfl (P.fieldAddr fa_31_17 rfl) ?_
          refine WL.p rfl rfl rfl (P.loadO 0 Tryz.isAgg9 rfl rfl rfl) ?_
          refine WL.p rfl rfl rfl (P.lenS Tryz.underlying9 rfl) ?_
          refine WL.p rfl rfl rfl (P.ari64 rfl rfl rfl (by omega)) ?_
          refine WL.p rfl rfl rfl (P.cmp rfl rfl rfl) ?_
          refine WL.p rfl rfl rfl (P.pickT rfl rfl) ?_
          refine WL.p rfl rfl rfl (P.assign rfl) ?_
          refine WL.nil_ ?_
          refine End.seq ?_
          refine WC.ret ?_
          refine End.ret1 rfl rfl ?_
          exact fun w' hs' => RetV.of (by rw [few33, hokF]; simp only [*, Bool.true_and, Bool.false_and]) hs'
        ·
          refine WL.off rfl rfl ?_
          refine WL.off rfl rfl ?_
          refine WL.off rfl rfl ?_
          refine WL.off rfl rfl ?_
          refine WL.off rfl rfl ?_
          refine WL.off rfl rfl ?_
          refine WL.off rfl rfl ?_
          refine WL.off rfl rfl ?_
          refine WL.off rfl rfl ?_
          refine WL.off rfl rfl ?_
          refine WL.off rfl rfl ?_
          refine WL.off rfl rfl ?_
          refine WL.off rfl rfl ?_
          refine WL.off rfl rfl ?_
          refine WL.off rfl rfl ?_
          refine WL.off rfl rfl ?_
          refine WL.off rfl rfl ?_
          refine WL.off rfl rfl ?_
          refine WL.p rfl rfl rfl (P.pickF rfl rfl) ?_
          refine WL.p rfl rfl rfl (P.assign rfl) ?_
          refine WL.nil_ ?_
          refine End.seq ?_
          refine WC.ret ?_
          refine End.ret1 rfl rfl ?_
          exact fun w' hs' => RetV.of (by rw [few33, hokF]; simp only [*, Bool.true_and, Bool.false_and]) hs'
      ·
        refine WL.off rfl rfl ?_
        refine WL.off rfl rfl ?_
        refine WL.off rfl rfl ?_
        refine WL.off rfl rfl ?_
        refine WL.p rfl rfl rfl (P.pickF rfl rfl) ?_
        refine WL.p rfl rfl rfl (P.move rfl) ?_
        refine WL.off rfl rfl ?_
        refine WL.off rfl rfl ?_
        refine WL.off rfl rfl ?_
        refine WL.off rfl rfl ?_
        refine WL.off rfl rfl ?_
        refine WL.off rfl rfl ?_
        refine WL.off rfl rfl ?_
        refine WL.off rfl rfl ?_
        refine WL.off rfl rfl ?_
        refine WL.off rfl rfl ?_
        refine WL.off rfl rfl ?_
        refine WL.off rfl rfl ?_
        refine WL.off rfl rfl ?_
        refine WL.off rfl rfl ?_
        refine WL.off rfl rfl ?_
        refine WL.off rfl rfl ?_
        refine WL.off rfl rfl ?_
        refine WL.off rfl rfl ?_
        refine WL.p rfl rfl rfl (P.pickF rfl rfl) ?_
        refine WL.p rfl rfl rfl (P.assign rfl) ?_
        refine WL.nil_ ?_
        refine End.seq ?_
        refine WC.ret ?_
        refine End.ret1 rfl rfl ?_
        exact fun w' hs' => RetV.of (by rw [few33, hokF]; simp only [*, Bool.true_and, Bool.false_and]) hs'
    ·
      refine WL.off rfl rfl ?_
      refine WL.off rfl rfl ?_
      refine WL.off rfl rfl ?_
      refine WL.off rfl rfl ?_
      refine WL.p rfl rfl rfl (P.pickF rfl rfl) ?_
      refine WL.p rfl rfl rfl (P.move rfl) ?_
      refine WL.off rfl rfl ?_
      refine WL.off rfl rfl ?_
      refine WL.off rfl rfl ?_
      refine WL.off rfl rfl ?_
      refine WL.p rfl rfl rfl (P.pickF rfl rfl) ?_
      refine WL.p rfl rfl rfl (P.move rfl) ?_
      refine WL.off rfl rfl ?_
      refine WL.off rfl rfl ?_
      refine WL.off rfl rfl ?_
      refine WL.off rfl rfl ?_
      refine WL.off rfl rfl ?_
      refine WL.off rfl rfl ?_
      refine WL.off rfl rfl ?_
      refine WL.off rfl rfl ?_
      refine WL.off rfl rfl ?_
      refine WL.off rfl rfl ?_
      refine WL.off rfl rfl ?_
      refine WL.off rfl rfl ?_
      refine WL.off rfl rfl ?_
      refine WL.off rfl rfl ?_
      refine WL.off rfl rfl ?_
      refine WL.off rfl rfl ?_
      refine WL.off rfl rfl ?_
      refine WL.off rfl rfl ?_
      refine WL.p rfl rfl rfl (P.pickF rfl rfl) ?_
      refine WL.p rfl rfl rfl (P.assign rfl) ?_
      refine WL.nil_ ?_
      refine End.seq ?_
      refine WC.ret ?_
      refine End.ret1 rfl rfl ?_
      exact fun w' hs' => RetV.of (by rw [few33, hokF]; simp only [*, Bool.true_and, Bool.false_and]) hs'

end Go.Proofs.YtlkkiimmangplaaGreatDoor

/- The lines of an entry's text. -/
namespace Go.Proofs.YtlkkiimmangplaaGreatDoor
open Go.RowKit
set_option linter.unusedVariables false
set_option linter.unusedSimpArgs false

/-- A line of an entry's text. -/
def lineOf (word value : ByteArray) : ByteArray := ⟨#[32, 32]⟩ ++ word ++ ⟨#[32]⟩ ++ value
def addL (l : List ByteArray) (word value : ByteArray) : List ByteArray := if value = bempty then l else l ++ [lineOf word value]
/-- The lines so far: the variable that bears them, and their row. -/
abbrev lnB (b q n c : Nat) : It := .blk b 48 #[.slice (some ⟨q, 0, none⟩) n c]
abbrev lnR (q c : Nat) (l : List ByteArray) : It := .row 9 1 (.slice (some ⟨q, 0, none⟩) l.length c) l.length (strs l)
def LnR (w0 : World) (b : Nat) (l : List ByteArray) (H : List It) (en : Ending) (w' : World) : Prop := ∃ q c : Nat, en = .returned (.tuple #[]) ∧ St w0 (lnB b q l.length c :: lnR q c l :: H) w'
theorem strs_one1 (x : ByteArray) : ∀ u ∈ strs [x], u.oneCell' = true := by
  intro u hu
  simp [strs] at hu
  subst hu
  rfl

set_option maxRecDepth 100000 in
theorem pick_any (i : Int) (A : Option Addr) (c : Nat) (xs : List ByteArray) (x : ByteArray) (w : World) (hr : Sl encS 1 w A xs) (h0 : 0 ≤ i) (hx : xs[i.toNat]? = some x) :
    Calls Tryz.prog 127 #[.int .i64 i, .slice A xs.length c] w (RetV w (.string x)) := by
  have hlt := (List.getElem?_eq_some_iff.1 hx).1
  obtain ⟨b, off, rfl, hcx⟩ := hr.at_ (by omega)
  refine enter Tryz.func127 rfl Tryz.ntmps127 rfl ?_
  refine WC.seq ?_
  refine WC.region ?_
  refine WL.p rfl rfl rfl (P.assign rfl) ?_
  refine WL.nil_ ?_
  refine End.seq ?_
  refine WC.seq ?_
  refine WC.region ?_
  refine WL.p rfl rfl rfl (P.move rfl) ?_
  refine WL.p rfl rfl rfl (P.move rfl) ?_
  refine WL.p rfl rfl rfl (P.elemAddr Tryz.underlying48 Tryz.sizeOf9 rfl rfl (by omega) (by omega)) ?_
  refine WL.p rfl rfl rfl (P.loadB Tryz.isAgg9 rfl (by have h := hcx i.toNat x hx 0 _ rfl; rw [Int.toNat_natCast] at h; exact h)) ?_
  refine WL.p rfl rfl rfl (P.assign rfl) ?_
  refine WL.nil_ ?_
  refine End.seq ?_
  refine WC.ret ?_
  refine End.ret1 rfl rfl ?_
  exact fun w' hs' => RetV.of rfl hs'

set_option maxRecDepth 100000 in
theorem line_any (b q c : Nat) (l : List ByteArray) (word value : ByteArray) (w0 w : World) (H : List It) (hst : St w0 (lnB b q l.length c :: lnR q c l :: H) w) (hw : word.size < 1000) (hv : value.size < 100000) (hl : l.length < 10000) :
    Calls Tryz.prog 128 #[.string word, .string value, .pointer (some ⟨b, 0, none⟩)] w (LnR w0 b (addL l word value) H) := by
  refine enterH Tryz.func128 rfl Tryz.ntmps128 rfl hst ?_
  refine WC.seq ?_
  refine WC.region ?_
  refine WL.p rfl rfl rfl (P.move rfl) ?_
  refine WL.p rfl rfl rfl (P.cmps rfl rfl rfl) ?_
  refine WL.nil_ ?_
  refine End.seq ?_
  refine WC.cond rfl (fun hc6 => ?_) (fun hc6 => ?_)
  ·
    have hne : ¬ value = bempty := fun h => by rw [h] at hc6; simp [bempty] at hc6
    have ha : addL l word value = l ++ [lineOf word value] := if_neg hne
    refine WC.region ?_
    refine WL.p rfl rfl rfl (P.loadO 0 Tryz.isAgg48 rfl rfl rfl) ?_
    refine WL.p rfl rfl rfl (P.move rfl) ?_
    refine WL.p rfl rfl rfl (P.cat rfl rfl (by show 2 + _ ≤ _; omega)) ?_
    refine WL.p rfl rfl rfl (P.cat rfl rfl (by rw [size_append]; show 2 + _ + 1 ≤ _; omega)) ?_
    refine WL.p rfl rfl rfl (P.move rfl) ?_
    refine WL.p rfl rfl rfl (P.cat rfl rfl (by rw [size_append, size_append]; show 2 + _ + 1 + _ ≤ _; omega)) ?_
    refine WL.row Tryz.underlying48 Tryz.sizeOf9 Tryz.zeroValue9 rfl rfl rfl rfl rfl rfl rfl rfl rfl (fun b13 => ?_)
    refine WL.push 2 (l := l.length) (m := 1) (xs := strs l) (news := strs [lineOf word value]) (all := strs (l ++ [lineOf word value])) (lt := (l ++ [lineOf word value]).length) el48 rfl rfl rfl rfl rfl rfl (fun w hs => news_blk hs (j := 0) rfl rfl) (strs_one1 _) (strs_app _ _) (by simp) (by decide) (by simp only [maxLen]; omega) (by omega) (fun q2 c2 hq2 => ?_)
    refine WL.store 1 Tryz.sizeOf48 rfl rfl rfl rfl rfl rfl ?_
    refine WL.nil_ ?_
    refine End.norm ?_
    refine End.ret0 rfl ?_
    exact fun w' hs' => ⟨q2, c2, rfl, by rw [ha]; exact hs'.tail⟩
  ·
    have he : value = bempty := by rw [Bool.not_eq_false', toList_beq, decide_eq_true_eq] at hc6; exact hc6
    have ha : addL l word value = l := if_pos he
    refine WC.skip ?_
    refine End.norm ?_
    refine End.ret0 rfl ?_
    exact fun w' hs' => ⟨q, c, rfl, by rw [ha]; exact hs'⟩

end Go.Proofs.YtlkkiimmangplaaGreatDoor

/- Numbers, dates, truths in an entry's text. -/
namespace Go.Proofs.YtlkkiimmangplaaGreatDoor
open Go.RowKit
set_option linter.unusedVariables false
set_option linter.unusedSimpArgs false

abbrev lnF (b5 b : Nat) : It := .blk b5 141 #[.func (.func 128) #[] #[.pointer (some ⟨b, 0, none⟩)]]
def LnS (w0 : World) (b5 b : Nat) (l : List ByteArray) (H : List It) (en : Ending) (w' : World) : Prop := ∃ q c : Nat, en = .returned (.tuple #[]) ∧ St w0 (lnB b q l.length c :: lnR q c l :: lnF b5 b :: H) w'
def addN (l : List ByteArray) (word : ByteArray) (n : Int) : List ByteArray := if n = 0 then l else addL l word (itoaB n)

def addD (l : List ByteArray) (word : ByteArray) (n : Int) : List ByteArray := if n = 0 then l else addL l word (fmtP n)
def yesB : ByteArray := ⟨#[121, 101, 115]⟩
def addY (l : List ByteArray) (word : ByteArray) (x : Bool) : List ByteArray := if x = true then addL l word yesB else l

end Go.Proofs.YtlkkiimmangplaaGreatDoor

/- The text of an entry. -/
namespace Go.Proofs.YtlkkiimmangplaaGreatDoor
open Go.RowKit
set_option linter.unusedVariables false
set_option linter.unusedSimpArgs false

def kindWords : List ByteArray := [⟨#[100, 97, 116, 97]⟩, ⟨#[103, 114, 111, 117, 112]⟩, ⟨#[97, 108, 105, 97, 115]⟩, ⟨#[99, 97, 116, 97, 108, 111, 103]⟩, ⟨#[112, 114, 111, 102, 105, 108, 101]⟩]
abbrev kindLine (k : Nat) (name : ByteArray) : ByteArray := kindWords.getD k bempty ++ ⟨#[32]⟩ ++ name
def levelWords : List ByteArray := [⟨#[110, 111, 110, 101]⟩, ⟨#[114, 101, 97, 100]⟩, ⟨#[117, 112, 100, 97, 116, 101]⟩, ⟨#[97, 108, 116, 101, 114]⟩]

set_option maxRecDepth 100000 in
theorem textAlias_any (e : E) (va vg : Value) (w : World) (hg : Good w) (ha : EntAt w e va vg) (hk : e.kind = 2) (hv : validE e = true) (hsz : e.name.size ≤ 31) (ht : e.target.size ≤ 31) :
    Calls Tryz.prog 52 #[.agg (e.cells va vg)] w (Ret w (fun _ : Nat × Nat => True) (fun p => .slice (some ⟨p.1, 0, none⟩) (addL [kindLine 2 e.name] ⟨#[116, 97, 114, 103, 101, 116]⟩ e.target).length p.2) (fun p => [lnR p.1 p.2 (addL [kindLine 2 e.name] ⟨#[116, 97, 114, 103, 101, 116]⟩ e.target)])) := by
  have ha0 := ha
  obtain ⟨⟨A1, c1, rfl, hc1, hr1⟩, ⟨A2, c2, rfl, hc2, hr2⟩⟩ := ha
  have hkw : (kindWords.getD 2 bempty).size ≤ 10 := by decide
  have hbl : (⟨#[32]⟩ : ByteArray).size = 1 := rfl
  refine enter Tryz.func52 rfl Tryz.ntmps52 rfl ?_
  refine WC.seq ?_
  refine WC.region ?_
  refine WL.box rfl rfl rfl (fun b1 => ?_)
  refine WL.p rfl rfl rfl (P.assign rfl) ?_
  refine WL.nil_ ?_
  refine End.seq ?_
  refine WC.seq ?_
  refine WC.seq ?_
  refine WC.region ?_
  refine WL.p rfl rfl rfl (P.loadW 0 Tryz.isAgg34 Tryz.sizeOf34 rfl rfl rfl) ?_
  refine WL.callv (ent_of Tryz.func47 rfl rfl) rfl rfl rfl (fun w hs => by have := validE_any e _ _ w (hg.st hs) (ha0.st hs) (by omega); rw [hv] at this; exact this) ?_
  refine WL.p rfl rfl rfl (P.not_ rfl) ?_
  refine WL.nil_ ?_
  refine End.seq ?_
  refine WC.cond rfl (fun hc20 => ?_) (fun hc20 => ?_)
  ·
    cases hc20
  ·
    refine WC.skip ?_
    refine End.seq ?_
    refine WC.seq ?_
    refine WC.region ?_
    refine WL.p rfl rfl rfl (P.fieldAddr fa_34_2 rfl) ?_
    refine WL.p rfl rfl rfl (P.loadA 0 (vs := e.ds.cells) Tryz.isAgg31 Tryz.sizeOf31 rfl rfl rfl (E.ds_get e _ _)) ?_
    refine WL.alloc Tryz.zeroValue31 rfl rfl (fun b3 => ?_)
    refine WL.storeW 0 Tryz.sizeOf31 rfl rfl rfl rfl rfl rfl rfl ?_
    refine WL.nil_ ?_
    refine End.seq ?_
    refine WC.seq ?_
    refine WC.nil1 ?_
    refine WC.nil1 ?_
    refine WC.nil1 ?_
    apply WC.draws (al := [2, 8, 9]) (vs := [_, _, fun s => .slice (some ⟨(s 2).1, 0, none⟩) 5 5, _, _, _, _, _, fun s => .slice (some ⟨(s 8).1, 0, none⟩) 1 1, fun s => .pointer (some ⟨(s 9).1, 0, none⟩), fun _ => undef]) (Hs := fun v HH b s => (bnew (b 9) (It.blk (s 9).1 48 (lay #[.slice none 0 0] [(b 10, 0, 1, [v 8 s])])) (bnew (b 8) (It.blk (s 8).1 9 #[.string (kindWords.getD 2 bempty ++ ⟨#[32]⟩ ++ e.name)]) (bnew (b 2) (It.blk (s 2).1 9 (kindWords.map Value.string).toArray) HH 0) 1) 2)) (by kernel_rfl) (by kernel_rfl) (by kernel_rfl)
    case steps =>
      refine Stps.cons (Stp.p (fun b s hd => ⟨_, ⟨rfl, P.fieldAddr fa_34_0 rfl⟩, rfl, rfl⟩)) ?_
      refine Stps.cons (Stp.p (fun b s hd => ⟨_, ⟨rfl, P.loadO 4 Tryz.isAgg3 rfl rfl rfl⟩, rfl, rfl⟩)) ?_
      refine Stps.cons (Stp.row 0 rfl (fun b s => ⟨rfl, _, _, rfl, fun w => by refine run_rowL Tryz.underlying48 Tryz.sizeOf9 Tryz.zeroValue9 ?_ ?_ ?_ ?_ ?_ ?_ w <;> rfl, fun q => ⟨rfl, _, rfl, fun hb => rfl⟩⟩)) ?_
      refine Stps.cons (Stp.on [2] (by kernel_rfl) (Stp.callv (ent_of Tryz.func127 rfl rfl) (fun b s hd => ⟨_, _, rfl, rfl, fun w hs => pick_any e.kind _ _ kindWords (kindWords.getD 2 bempty) w (sl_row hs (j := 0) rfl (by decide)) (by omega) (by rw [hk]; rfl), rfl, rfl⟩))) ?_
      refine Stps.cons (Stp.p (fun b s hd => ⟨_, ⟨rfl, P.cat rfl rfl (by decide)⟩, rfl, rfl⟩)) ?_
      refine Stps.cons (Stp.p (fun b s hd => ⟨_, ⟨rfl, P.fieldAddr fa_34_1 rfl⟩, rfl, rfl⟩)) ?_
      refine Stps.cons (Stp.p (fun b s hd => ⟨_, ⟨rfl, P.loadO 4 Tryz.isAgg9 rfl rfl rfl⟩, rfl, rfl⟩)) ?_
      refine Stps.cons (Stp.p (fun b s hd => ⟨_, ⟨rfl, P.cat rfl rfl (by rw [size_append]; omega)⟩, rfl, rfl⟩)) ?_
      refine Stps.cons (Stp.off [10] (by kernel_rfl) (Stp.row 1 rfl (fun b s => ⟨rfl, _, _, rfl, fun w => by refine run_rowL Tryz.underlying48 Tryz.sizeOf9 Tryz.zeroValue9 ?_ ?_ ?_ ?_ ?_ ?_ w <;> rfl, fun q => ⟨rfl, _, rfl, fun hb => rfl⟩⟩))) ?_
      refine Stps.cons (Stp.off [10] (by kernel_rfl) (Stp.alloc 2 Tryz.zeroValue48 rfl (fun b s q => ⟨rfl, rfl, _, rfl, fun hb => rfl⟩))) ?_
      refine Stps.cons (Stp.store 2 0 Tryz.sizeOf48 (fun b s hd => ⟨b 9, _, _, _, _, _, _, rfl, rfl, rfl, rfl, rfl, hd 9 (by decide), rfl, rfl, rfl, rfl, rfl⟩)) ?_
      exact Stps.nil
    case h0 => exact fun s => rfl
    case agree => exact AgrAll.cons (AgrL.no (fun s x => rfl) (AgrL.no (fun s x => rfl) (AgrL.yes (by kernel_rfl) (AgrL.yes (by kernel_rfl) (AgrL.yes (by kernel_rfl) (AgrL.no (fun s x => rfl) (AgrL.no (fun s x => rfl) (AgrL.yes (by kernel_rfl) (AgrL.yes (by kernel_rfl) (AgrL.no (fun s x => rfl) (AgrL.yes (by kernel_rfl) (AgrL.nil)))))))))))) (AgrAll.cons (AgrL.no (fun s x => rfl) (AgrL.no (fun s x => rfl) (AgrL.no (fun s x => rfl) (AgrL.no (fun s x => rfl) (AgrL.no (fun s x => rfl) (AgrL.no (fun s x => rfl) (AgrL.no (fun s x => rfl) (AgrL.no (fun s x => rfl) (AgrL.yes (by kernel_rfl) (AgrL.no (fun s x => rfl) (AgrL.yes (by kernel_rfl) (AgrL.nil)))))))))))) (AgrAll.cons (AgrL.no (fun s x => rfl) (AgrL.no (fun s x => rfl) (AgrL.no (fun s x => rfl) (AgrL.no (fun s x => rfl) (AgrL.no (fun s x => rfl) (AgrL.no (fun s x => rfl) (AgrL.no (fun s x => rfl) (AgrL.no (fun s x => rfl) (AgrL.no (fun s x => rfl) (AgrL.yes (by kernel_rfl) (AgrL.yes (by kernel_rfl) (AgrL.nil)))))))))))) (AgrAll.nil)))
    intro s4
    refine End.shapeC (by kernel_rfl) (new := [(4, _), (23, _), (24, _), (25, _), (26, _), (27, _), (28, _), (29, _), (30, _), (31, _)]) (H' := [_, _, .blk _ _ #[_], _, _]) (Env.sub_cons rfl (Env.sub_cons rfl (Env.sub_cons rfl (Env.sub_cons rfl (Env.sub_cons rfl (Env.sub_cons rfl (Env.sub_cons rfl (Env.sub_cons rfl (Env.sub_cons rfl (Env.sub_cons rfl (Env.sub_nil))))))))))) rfl ?_
    refine End.seq ?_
    refine WC.seq ?_
    refine WC.region ?_
    refine WL.asRow 1 rfl rfl (by show 1 ≤ maxLen; decide) ?_
    refine WL.p rfl rfl rfl (P.makeFunc rfl) ?_
    refine WL.alloc Tryz.zeroValue141 rfl rfl (fun b5 => ?_)
    refine WL.store 0 Tryz.sizeOf141 rfl rfl rfl rfl rfl rfl ?_
    refine WL.nil_ ?_
    refine End.seq ?_
    refine WC.seq ?_
    refine WC.region ?_
    refine WL.p rfl rfl rfl (P.makeFunc rfl) ?_
    refine WL.p rfl rfl rfl (P.assign rfl) ?_
    refine WL.nil_ ?_
    refine End.seq ?_
    refine WC.seq ?_
    refine WC.region ?_
    refine WL.p rfl rfl rfl (P.makeFunc rfl) ?_
    refine WL.p rfl rfl rfl (P.assign rfl) ?_
    refine WL.nil_ ?_
    refine End.seq ?_
    refine WC.seq ?_
    refine WC.region ?_
    refine WL.p rfl rfl rfl (P.makeFunc rfl) ?_
    refine WL.p rfl rfl rfl (P.assign rfl) ?_
    refine WL.nil_ ?_
    refine End.seq ?_
    refine WC.seq ?_
    refine WC.region ?_
    refine WL.row Tryz.underlying48 Tryz.sizeOf9 Tryz.zeroValue9 rfl rfl rfl rfl rfl rfl rfl rfl rfl (fun b36 => ?_)
    refine WL.p rfl rfl rfl (P.assign rfl) ?_
    refine WL.nil_ ?_
    refine End.seq ?_
    refine WC.seq ?_
    refine WC.seq ?_
    refine WC.region ?_
    refine WL.p rfl rfl rfl (P.fieldAddr fa_34_0 rfl) ?_
    refine WL.p rfl rfl rfl (P.loadO 6 Tryz.isAgg3 rfl rfl rfl) ?_
    refine WL.nil_ ?_
    refine End.seq ?_
    refine WC.block ?_
    refine WC.seq ?_
    refine WC.region ?_
    refine WL.p rfl rfl rfl (P.cmp rfl rfl rfl) ?_
    refine WL.p rfl rfl rfl (P.assign rfl) ?_
    refine WL.nil_ ?_
    refine End.seq ?_
    refine WC.cond rfl (fun hc39 => ?_) (fun hc39 => ?_)
    ·
      exact absurd hc39 (by simp [E.cells, hk])
    ·
      refine WC.seq ?_
      refine WC.region ?_
      refine WL.p rfl rfl rfl (P.cmp rfl rfl rfl) ?_
      refine WL.p rfl rfl rfl (P.assign rfl) ?_
      refine WL.nil_ ?_
      refine End.seq ?_
      refine WC.cond rfl (fun hc142 => ?_) (fun hc142 => ?_)
      ·
        exact absurd hc142 (by simp [E.cells, hk])
      ·
        refine WC.seq ?_
        refine WC.region ?_
        refine WL.p rfl rfl rfl (P.cmp rfl rfl rfl) ?_
        refine WL.p rfl rfl rfl (P.assign rfl) ?_
        refine WL.nil_ ?_
        refine End.seq ?_
        refine WC.cond rfl (fun hc160 => ?_) (fun hc160 => ?_)
        ·
          refine WC.region ?_
          refine WL.p rfl rfl rfl (P.loadO 1 Tryz.isAgg141 rfl rfl rfl) ?_
          refine WL.p rfl rfl rfl (P.fieldAddr fa_34_9 rfl) ?_
          refine WL.p rfl rfl rfl (P.loadO 6 Tryz.isAgg9 rfl rfl rfl) ?_
          refine WL.mem [4, 3, 1, 6] rfl ?_
          refine WL.callG (α := Nat × Nat) (S := fun _ => True) (v := fun _ => .tuple #[]) (H' := fun p => (lnB (s4 9).1 p.1 (addL ([kindLine 2 e.name]) ⟨#[116, 97, 114, 103, 101, 116]⟩ (e.target)).length p.2 :: lnR p.1 p.2 (addL ([kindLine 2 e.name]) ⟨#[116, 97, 114, 103, 101, 116]⟩ (e.target)) :: _)) (ent_of Tryz.func128 rfl rfl) rfl rfl rfl rfl rfl rfl (fun w hs => (line_any (s4 9).1 (s4 8).1 1 ([kindLine 2 e.name]) ⟨#[116, 97, 114, 103, 101, 116]⟩ (e.target) _ w _ hs (by decide) (by omega) (by simp)).mono fun e w' h => by obtain ⟨q2, c2, h1, h2⟩ := h; exact ⟨(q2, c2), trivial, h1, h2⟩) (fun p2 _ => ?_)
          refine WL.nil_ ?_
          refine End.blkN ?_
          refine End.seq ?_
          refine WC.seq ?_
          refine WC.region ?_
          refine WL.p rfl rfl rfl (P.loadO 0 Tryz.isAgg48 rfl rfl rfl) ?_
          refine WL.p rfl rfl rfl (P.assign rfl) ?_
          refine WL.nil_ ?_
          refine End.seq ?_
          refine WC.ret ?_
          refine End.ret1 rfl rfl ?_
          exact fun w' hs' => ⟨p2, trivial, rfl, hs'.sel [1] rfl⟩
        ·
          exact absurd hc160 (by simp [E.cells, hk])

end Go.Proofs.YtlkkiimmangplaaGreatDoor

/- The codec in plain words: what is read is what was written. -/
namespace Go.Proofs.YtlkkiimmangplaaGreatDoor
open Go.RowKit
set_option linter.unusedVariables false
set_option linter.unusedSimpArgs false

abbrev by8 (n : Int) : UInt8 := UInt8.ofNat n.toNat
theorem by8_nat {n : Int} (h0 : 0 ≤ n) (h1 : n < 256) : ((by8 n).toNat : Int) = n := by
  show ((UInt8.ofNat n.toNat).toNat : Int) = n
  rw [UInt8.toNat_ofNat']
  omega
theorem drop_cons_get {l : List UInt8} {i : Nat} {b : UInt8} {r : List UInt8} (h : l.drop i = b :: r) : l[i]? = some b ∧ l.drop (i + 1) = r := by
  constructor
  · have := congrArg (fun q => q[0]?) h
    simpa using this
  · rw [← List.drop_drop, h]; rfl
/-- A number is read as it was written. -/
theorem decF_encF : ∀ (f i : Nat) (n acc : Int) (l rest : List UInt8), f + i = 9 → 0 ≤ n → n < 2 ^ (64 - 7 * i) → (0 < i → 0 < n) → l.drop i = (encF f n).map by8 ++ rest →
    decF (f + 1) i acc l = (acc + n * 2 ^ (7 * i), (i : Int) + (encF f n).length)
  | f, i, n, acc, l, rest, hf, h0, h1, hp, hl => by
    by_cases hs : n < 128
    · rw [encF_small hs] at hl ⊢
      obtain ⟨hg, _⟩ := drop_cons_get (by simpa using hl)
      have hb : ((UInt8.ofNat n.toNat).toNat : Int) = n := by8_nat h0 (by omega)
      rw [decF_done hg (fun h9 => by obtain ⟨rfl, h9⟩ := h9; simp at h1; omega) (by omega) (fun h => by have := hp h.2; omega), hb]
      rw [Int.emod_eq_of_lt h0 hs]
      simp
    · cases f with
      | zero =>
        have : i = 9 := by omega
        subst this
        simp at h1
        omega
      | succ f =>
        rw [encF_big (by omega)] at hl ⊢
        obtain ⟨hg, hd⟩ := drop_cons_get (by simpa using hl)
        have hb : ((UInt8.ofNat (n % 128 + 128).toNat).toNat : Int) = n % 128 + 128 := by8_nat (n := n % 128 + 128) (by omega) (by omega)
        rw [decF_next hg (fun h9 => by omega) (by omega), hb]
        have h2 : n / 128 < 2 ^ (64 - 7 * (i + 1)) := lim_step (by omega) h0 h1
        have ih := decF_encF f (i + 1) (n / 128) (acc + (n % 128 + 128) % 128 * 2 ^ (7 * i)) l rest (by omega) (by omega) h2 (by omega) (by simpa using hd)
        rw [ih]
        have e1 : (n % 128 + 128) % 128 = n % 128 := by omega
        have e2 : (2 : Int) ^ (7 * (i + 1)) = 128 * 2 ^ (7 * i) := by rw [show 7 * (i + 1) = 7 + 7 * i by omega, Int.pow_add]; rfl
        rw [e1, e2]
        refine Prod.ext ?_ ?_
        · show acc + n % 128 * 2 ^ (7 * i) + n / 128 * (128 * 2 ^ (7 * i)) = acc + n * 2 ^ (7 * i)
          have e3 : n * 2 ^ (7 * i) = (n % 128 + 128 * (n / 128)) * 2 ^ (7 * i) := by rw [Int.emod_add_mul_ediv]
          rw [e3, Int.add_mul, Int.add_assoc]
          congr 1
          congr 1
          rw [Int.mul_comm 128 (n / 128), Int.mul_assoc]
        · simp; omega
theorem data_append (a b : ByteArray) : (a ++ b).data.toList = a.data.toList ++ b.data.toList := by rw [ByteArray.data_append, Array.toList_append]
theorem encF_pos (f : Nat) (n : Int) : 0 < (encF f n).length := by
  cases f with
  | zero => simp [encF]
  | succ f => unfold encF; split <;> simp
theorem extract_rest (a b : ByteArray) (k : Nat) (hk : a.size = k) : (a ++ b).extract k (a ++ b).size = b := by
  apply toList_inj.1
  rw [ByteArray.toList_eq, ByteArray.toList_eq, ByteArray.data_extract]
  have hs : (a ++ b).size = (a.data.toList ++ b.data.toList).length := by rw [← data_append]; rfl
  have hk' : a.data.toList.length = k := hk
  simp only [Array.toList_extract, List.extract_eq_take_drop, data_append, hs]
  rw [List.drop_append_of_le_length (by omega), List.drop_eq_nil_of_le (by omega), List.nil_append, List.take_of_length_le (by simp; omega)]
theorem extract_front (a b : ByteArray) (k : Nat) (hk : a.size = k) : (a ++ b).extract 0 k = a := by
  apply toList_inj.1
  rw [ByteArray.toList_eq, ByteArray.toList_eq, ByteArray.data_extract]
  have hk' : a.data.toList.length = k := hk
  simp only [Array.toList_extract, List.extract_eq_take_drop, data_append]
  simp [← hk']
theorem num_back (n : Int) (t : ByteArray) (h0 : 0 ≤ n) (h1 : n < 9223372036854775808) : Rd.num (strOfNums (encF 9 n) ++ t, 0) = (n, (t, 0)) := by
  have hd : decF 10 0 0 (strOfNums (encF 9 n) ++ t).data.toList = (n, ((encF 9 n).length : Int)) := by
    have := decF_encF 9 0 n 0 (strOfNums (encF 9 n) ++ t).data.toList t.data.toList rfl h0 (by simp; omega) (fun h => absurd h (by decide)) (by rw [data_append, strOfNums_data]; rfl)
    simpa using this
  unfold Rd.num
  simp only [hd]
  have hp := encF_pos 9 n
  unfold Rd.take
  simp only [ne_eq, not_true_eq_false, if_false]
  rw [if_neg (by omega)]
  simp only [Int.toNat_natCast]
  rw [extract_rest _ _ _ (by rw [strOfNums_size])]
theorem bool_back (b : Bool) (t : ByteArray) : Rd.bool (strOfNums [if b then 1 else 0] ++ t, 0) = (b, (t, 0)) := by
  have hg : (strOfNums [if b then 1 else 0] ++ t).data.toList = (if b then 1 else 0) :: t.data.toList := by
    rw [data_append, strOfNums_data]
    cases b <;> rfl
  have hne : ¬ strOfNums [if b then 1 else 0] ++ t = bempty := fun e => by
    have := congrArg (fun q : ByteArray => q.data.toList) e
    simp only [hg] at this
    cases this
  have h1 : boolLen (strOfNums [if b then 1 else 0] ++ t) = 1 := by
    unfold boolLen
    rw [hg, if_neg]
    rintro (h | h)
    · exact hne h
    · cases b <;> simp at h
  have h2 : boolVal (strOfNums [if b then 1 else 0] ++ t) = b := by
    unfold boolVal
    rw [hg]
    cases b <;> rfl
  unfold Rd.bool Rd.take
  simp only [h1, h2]
  simp only [ne_eq, not_true_eq_false, if_false, Int.reduceEq]
  rw [extract_rest _ _ _ (by rw [strOfNums_size]; rfl)]
theorem text_back (s t : ByteArray) (most : Int) (h : (s.size : Int) ≤ most) (hm : most < 4294967296) : Rd.text (encText s ++ t, 0) most = (s, (t, 0)) := by
  have hn := num_back s.size (s ++ t) (by omega) (by omega)
  have hc : Rd.count (encText s ++ t, 0) most = ((s.size : Int), (s ++ t, 0)) := by
    unfold Rd.count encText
    rw [ByteArray.append_assoc, hn]
    simp only [ne_eq, not_true_eq_false, if_false]
    rw [if_neg (by omega)]
  unfold Rd.text
  rw [hc]
  simp only [ne_eq, not_true_eq_false, if_false]
  rw [if_neg (by rw [ByteArray.size_append]; omega)]
  simp only [Int.toNat_natCast]
  rw [extract_front _ _ _ rfl, extract_rest _ _ _ rfl]
theorem clampN_small {n : Int} (h : n ≤ 1099511627776) : clampN n = n := if_neg (by omega)
end Go.Proofs.YtlkkiimmangplaaGreatDoor

/- The reference's names: the parts of a text. -/
namespace Go.Proofs.YtlkkiimmangplaaGreatDoor
open Go.RowKit
set_option linter.unusedVariables false
set_option linter.unusedSimpArgs false

/-- The parts of a text between full stops, by its letters. -/
def sp : List UInt8 → List (List UInt8)
  | [] => [[]]
  | c :: r => if c = 46 then [] :: sp r else match sp r with
    | h :: t => (c :: h) :: t
    | [] => [[c]]
theorem sp_ne : ∀ l, sp l ≠ []
  | [] => by simp [sp]
  | c :: r => by
    unfold sp
    split
    · simp
    · split <;> simp
theorem sp_snoc : ∀ (a : List UInt8) (c : UInt8), ∃ ys y, sp a = ys ++ [y] ∧ sp (a ++ [c]) = if c = 46 then ys ++ [y] ++ [[]] else ys ++ [y ++ [c]]
  | [], c => ⟨[], [], rfl, by
    by_cases h : c = 46
    · simp [sp, h]
    · simp [sp, h]⟩
  | d :: r, c => by
    obtain ⟨ys, y, h1, h2⟩ := sp_snoc r c
    by_cases hd : d = 46
    · refine ⟨[] :: ys, y, by rw [sp, if_pos hd, h1]; rfl, ?_⟩
      rw [List.cons_append, sp, if_pos hd, h2]
      split <;> simp
    · cases ys with
      | nil =>
        refine ⟨[], d :: y, by rw [sp, if_neg hd, h1]; rfl, ?_⟩
        rw [List.cons_append, sp, if_neg hd, h2]
        by_cases h : c = 46
        · simp [h]
        · simp [h]
      | cons z zs =>
        refine ⟨(d :: z) :: zs, y, by rw [sp, if_neg hd, h1]; rfl, ?_⟩
        rw [List.cons_append, sp, if_neg hd, h2]
        by_cases h : c = 46
        · simp [h]
        · simp [h]
abbrev mkB (l : List UInt8) : ByteArray := ⟨l.toArray⟩
def spB (l : List UInt8) : List ByteArray := (sp l).map mkB
theorem spB_len : ∀ l : List UInt8, (sp l).length ≤ l.length + 1
  | [] => by simp [sp]
  | c :: r => by
    have := spB_len r
    unfold sp
    split
    · simp; omega
    · split
      · rename_i h t e
        rw [e] at this
        simp at this ⊢
        omega
      · simp
theorem sp_el : ∀ (l : List UInt8) (q : List UInt8), q ∈ sp l → q.length ≤ l.length
  | [], q, h => by simp [sp] at h; simp [h]
  | c :: r, q, h => by
    unfold sp at h
    split at h
    · rcases List.mem_cons.1 h with rfl | h
      · simp
      · have := sp_el r q h
        simp; omega
    · split at h
      · rename_i a t e
        rcases List.mem_cons.1 h with rfl | h
        · have := sp_el r a (by rw [e]; simp)
          simp; omega
        · have := sp_el r q (by rw [e]; simp [h])
          simp; omega
      · simp at h; simp [h]
theorem spB_el {l : List UInt8} {q : ByteArray} (h : q ∈ spB l) : q.size ≤ l.length := by
  obtain ⟨x, hx, rfl⟩ := List.mem_map.1 h
  have := sp_el l x hx
  simpa [mkB, ByteArray.size] using this
theorem take_of_get {l : List UInt8} {k : Nat} (h : k < l.length) : l.take (k + 1) = l.take k ++ [l[k]?.getD 0] := by
  rw [take_snoc (List.getElem?_eq_getElem h), List.getElem?_eq_getElem h]; rfl
theorem mk_push (y : List UInt8) (s : ByteArray) (k : Nat) (h : k < s.data.toList.length) : mkB y ++ s.extract k (k + 1) = mkB (y ++ [s.data.toList[k]?.getD 0]) := by
  apply toList_inj.1
  rw [ByteArray.toList_eq, ByteArray.toList_eq]
  have e : (s.extract k (k + 1)).data.toList = [s.data.toList[k]?.getD 0] := by
    rw [ByteArray.data_extract]
    simp only [Array.toList_extract, List.extract_eq_take_drop]
    rw [show k + 1 - k = 1 by omega, List.drop_eq_getElem_cons h, List.getElem?_eq_getElem h]
    rfl
  rw [ByteArray.data_append, Array.toList_append, e]
theorem u8_is {c : UInt8} {d : Nat} (hd : d < 256) : ((c.toNat : Int) == (d : Int)) = decide (c = UInt8.ofNat d) := by
  rw [Bool.eq_iff_iff, beq_iff_eq, decide_eq_true_eq]
  constructor
  · intro h; exact u8_eq hd h
  · intro h; subst h; simp; omega

set_option maxRecDepth 100000 in
theorem refParts_any (tx : ByteArray) (w : World) (hsz : tx.size < 4294967281) :
    Calls Tryz.prog 124 #[.string tx] w (Ret w (fun p : Nat × Nat => (spB tx.data.toList).length ≤ p.2) (fun p => .slice (some ⟨p.1, 0, none⟩) (spB tx.data.toList).length p.2) (fun p => [.row 9 1 (.slice (some ⟨p.1, 0, none⟩) (spB tx.data.toList).length p.2) (spB tx.data.toList).length (strs (spB tx.data.toList))])) := by
  have hl : tx.size = tx.data.toList.length := rfl
  refine enter Tryz.func124 rfl Tryz.ntmps124 rfl ?_
  refine WC.seq ?_
  refine WC.region ?_
  refine WL.p rfl rfl rfl (P.assign rfl) ?_
  refine WL.nil_ ?_
  refine End.seq ?_
  refine WC.seq ?_
  refine WC.region ?_
  refine WL.row Tryz.underlying48 Tryz.sizeOf9 Tryz.zeroValue9 rfl rfl rfl rfl rfl rfl rfl rfl rfl (fun b5 => ?_)
  refine WL.asRow 0 rfl rfl (by decide) ?_
  refine WL.p rfl rfl rfl (P.assign rfl) ?_
  refine WL.nil_ ?_
  refine End.seq ?_
  refine WC.seq ?_
  refine WC.seq ?_
  refine WC.region ?_
  refine WL.p rfl rfl rfl (P.assign rfl) ?_
  refine WL.nil_ ?_
  refine End.seq ?_
  refine WC.block ?_
  refine WC.loopD (σ := Nat × Nat × Nat) (fun (i, g, c) => [(4, .int .i64 (i : Nat)), (3, .slice (some ⟨g, 0, none⟩) (spB (tx.data.toList.take i)).length c)]) (fun (i, g, c) => [.row 9 1 (.slice (some ⟨g, 0, none⟩) (spB (tx.data.toList.take i)).length c) (spB (tx.data.toList.take i)).length (strs (spB (tx.data.toList.take i)))]) (fun (i, g, c) => i ≤ tx.size ∧ (spB (tx.data.toList.take i)).length ≤ c) (fun (i, g, c) => tx.size - i) (0, b5, 1) ⟨Nat.zero_le _, Nat.le_refl _⟩ (Env.sub_cons rfl (Env.sub_cons rfl (Env.sub_nil))) [0] rfl rfl ?_
  rintro ⟨i, g, c⟩ ⟨hi0, hlc⟩
  refine WC.seq ?_
  refine WC.seq ?_
  refine WC.region ?_
  refine WL.p rfl rfl rfl (P.move rfl) ?_
  refine WL.p rfl rfl rfl (P.move rfl) ?_
  refine WL.p rfl rfl rfl (P.lenS Tryz.underlying9 rfl) ?_
  refine WL.p rfl rfl rfl (P.cmp rfl rfl rfl) ?_
  refine WL.nil_ ?_
  refine End.seq ?_
  refine WC.cond rfl (fun hc9 => ?_) (fun hc9 => ?_)
  ·
    try simp only [decide_eq_true_eq, decide_eq_false_iff_not, beq_iff_eq, beq_eq_false_iff_ne, bne_iff_ne, bne_eq_false_iff_eq, Bool.not_eq_true', Bool.not_eq_false', ne_eq, Int.not_lt, Int.not_le] at hc9
    have hi : i < tx.data.toList.length := by omega
    obtain ⟨ys, y, hy, hy1⟩ := sp_snoc (tx.data.toList.take i) (tx.data.toList[i]?.getD 0)
    rw [← take_of_get hi] at hy1
    have hll := spB_len (tx.data.toList.take i)
    have hlt : (tx.data.toList.take i).length ≤ i := List.length_take_le ..
    have hLn : (spB (tx.data.toList.take i)).length = ys.length + 1 := by simp [spB, hy]
    have hLl : (spB (tx.data.toList.take i)).length ≤ i + 1 := by simp [spB]; omega
    refine WC.skip ?_
    refine End.seq ?_
    refine WC.seq ?_
    refine WC.block ?_
    refine WC.seq ?_
    refine WC.region ?_
    refine WL.p rfl rfl rfl (P.move rfl) ?_
    refine WL.p rfl rfl rfl (P.move rfl) ?_
    refine WL.p rfl rfl rfl (P.byte Tryz.underlying9 rfl rfl (by omega) (by omega)) ?_
    refine WL.p rfl rfl rfl (P.cmp rfl rfl rfl) ?_
    refine WL.nil_ ?_
    refine End.seq ?_
    refine WC.cond rfl (fun hc15 => ?_) (fun hc15 => ?_)
    ·
      try simp only [decide_eq_true_eq, decide_eq_false_iff_not, beq_iff_eq, beq_eq_false_iff_ne, bne_iff_ne, bne_eq_false_iff_eq, Bool.not_eq_true', Bool.not_eq_false', ne_eq, Int.not_lt, Int.not_le] at hc15
      have hc : tx.data.toList[i]?.getD 0 = 46 := u8_eq (by decide) hc15
      rw [if_pos hc] at hy1
      have hL1 : strs (spB (tx.data.toList.take i)) ++ [.string ⟨#[]⟩] = strs (spB (tx.data.toList.take (i + 1))) := by simp [strs, spB, hy, hy1]
      have hL2 : (spB (tx.data.toList.take i)).length + 1 = (spB (tx.data.toList.take (i + 1))).length := by simp [spB, hy, hy1]
      refine WC.region ?_
      refine WL.p rfl rfl rfl (P.move rfl) ?_
      refine WL.row Tryz.underlying48 Tryz.sizeOf9 Tryz.zeroValue9 rfl rfl rfl rfl rfl rfl rfl rfl rfl (fun b17 => ?_)
      refine WL.push 1 (l := (spB (tx.data.toList.take i)).length) (m := 1) (xs := strs (spB (tx.data.toList.take i))) (news := [.string ⟨#[]⟩]) el48 rfl rfl rfl rfl rfl rfl (fun w hs => news_blk hs (j := 0) rfl rfl) (strs_one [⟨#[]⟩]) hL1 hL2 (by decide) (by simp only [maxLen]; omega) (by omega) (fun q cap hq => ?_)
      refine WL.p rfl rfl rfl (P.assign rfl) ?_
      refine WL.nil_ ?_
      refine End.blkN ?_
      refine End.seq ?_
      refine WC.region ?_
      refine WL.p rfl rfl rfl (P.move rfl) ?_
      refine WL.p rfl rfl rfl (P.ari64 rfl rfl rfl (by omega)) ?_
      refine WL.p rfl rfl rfl (P.assign rfl) ?_
      refine WL.nil_ ?_
      refine End.againD (i + 1, q, cap) ?_ ?_ rfl (Env.sub_cons rfl (Env.sub_cons rfl (Env.sub_nil))) rfl [1] rfl rfl
      · exact ⟨by omega, hq⟩
      · show tx.size - (i + 1) < tx.size - i; omega
    ·
      try simp only [decide_eq_true_eq, decide_eq_false_iff_not, beq_iff_eq, beq_eq_false_iff_ne, bne_iff_ne, bne_eq_false_iff_eq, Bool.not_eq_true', Bool.not_eq_false', ne_eq, Int.not_lt, Int.not_le] at hc15
      have hc : ¬ tx.data.toList[i]?.getD 0 = 46 := fun h => hc15 (by rw [show (i : Int).toNat = i from rfl, h]; rfl)
      rw [if_neg hc] at hy1
      have hx : (spB (tx.data.toList.take i))[(0 + ((((spB (tx.data.toList.take i)).length : Nat) : Int) - 1).toNat * 1)]? = some (mkB y) := by rw [hLn]; simp [spB, hy]
      have hys : y.length ≤ i := by have := sp_el (tx.data.toList.take i) y (by rw [hy]; simp); omega
      have hL2 : (spB (tx.data.toList.take i)).length = (spB (tx.data.toList.take (i + 1))).length := by simp [spB, hy, hy1]
      have hset : (strs (spB (tx.data.toList.take i))).set (0 + ((((spB (tx.data.toList.take i)).length : Nat) : Int) - 1).toNat * 1) (.string (mkB y ++ tx.extract (i : Int).toNat ((i : Int) + 1).toNat)) = strs (spB (tx.data.toList.take (i + 1))) := by rw [show tx.extract (i : Int).toNat ((i : Int) + 1).toNat = tx.extract i (i + 1) from rfl, mk_push y tx i hi, strs_set, hLn]; simp [spB, hy, hy1]
      apply WC.draws (al := []) (vs := [_, _, _, _, _, _, _, _, _, _, _, _, _, _, _, _, _, fun _ => undef]) (Hs := fun v HH b s => (bnew (b 17) (.row 9 1 (.slice (some ⟨g, 0, none⟩) (spB (tx.data.toList.take i)).length c) (spB (tx.data.toList.take i)).length ((strs (spB (tx.data.toList.take i))).set (0 + ((((spB (tx.data.toList.take i)).length : Nat) : Int) - 1).toNat * 1) (v 15 s))) HH 0)) (by kernel_rfl) (by kernel_rfl) (by kernel_rfl)
      case steps =>
        refine Stps.cons (Stp.p (fun b s hd => ⟨_, ⟨rfl, P.move rfl⟩, rfl, rfl⟩)) ?_
        refine Stps.cons (Stp.p (fun b s hd => ⟨_, ⟨rfl, P.move rfl⟩, rfl, rfl⟩)) ?_
        refine Stps.cons (Stp.p (fun b s hd => ⟨_, ⟨rfl, P.lenR Tryz.underlying48 rfl⟩, rfl, rfl⟩)) ?_
        refine Stps.cons (Stp.p (fun b s hd => ⟨_, ⟨rfl, P.ari64 rfl rfl rfl (by omega)⟩, rfl, rfl⟩)) ?_
        refine Stps.cons (Stp.p (fun b s hd => ⟨_, ⟨rfl, P.move rfl⟩, rfl, rfl⟩)) ?_
        refine Stps.cons (Stp.p (fun b s hd => ⟨_, ⟨rfl, P.move rfl⟩, rfl, rfl⟩)) ?_
        refine Stps.cons (Stp.p (fun b s hd => ⟨_, ⟨rfl, P.lenR Tryz.underlying48 rfl⟩, rfl, rfl⟩)) ?_
        refine Stps.cons (Stp.p (fun b s hd => ⟨_, ⟨rfl, P.ari64 rfl rfl rfl (by omega)⟩, rfl, rfl⟩)) ?_
        refine Stps.cons (Stp.p (fun b s hd => ⟨_, ⟨rfl, P.elemAddr Tryz.underlying48 Tryz.sizeOf9 rfl rfl (by omega) (by omega)⟩, rfl, rfl⟩)) ?_
        refine Stps.cons (Stp.pw [17] (by kernel_rfl) (fun b s' hd => ⟨_, ⟨rfl, P.loadR 0 Tryz.isAgg9 rfl rfl (strs_get hx)⟩, rfl, rfl⟩)) ?_
        refine Stps.cons (Stp.p (fun b s hd => ⟨_, ⟨rfl, P.move rfl⟩, rfl, rfl⟩)) ?_
        refine Stps.cons (Stp.p (fun b s hd => ⟨_, ⟨rfl, P.move rfl⟩, rfl, rfl⟩)) ?_
        refine Stps.cons (Stp.p (fun b s hd => ⟨_, ⟨rfl, P.move rfl⟩, rfl, rfl⟩)) ?_
        refine Stps.cons (Stp.p (fun b s hd => ⟨_, ⟨rfl, P.ari64 rfl rfl rfl (by omega)⟩, rfl, rfl⟩)) ?_
        refine Stps.cons (Stp.p (fun b s hd => ⟨_, ⟨rfl, P.subLH Tryz.underlying9 rfl rfl rfl (by omega) (by omega) (by omega)⟩, rfl, rfl⟩)) ?_
        refine Stps.cons (Stp.p (fun b s hd => ⟨_, ⟨rfl, P.cat rfl rfl (by have : (mkB y).size = y.length := (by simp [mkB, ByteArray.size]); have := ByteArray.size_extract (a := tx) (b := (i : Int).toNat) (e := ((i : Int) + 1).toNat); omega)⟩, rfl, rfl⟩)) ?_
        refine Stps.cons (Stp.p (fun b s hd => ⟨_, ⟨rfl, P.elemAddr Tryz.underlying48 Tryz.sizeOf9 rfl rfl (by omega) (by omega)⟩, rfl, rfl⟩)) ?_
        refine Stps.cons (Stp.storeR 0 Tryz.sizeOf9 (fun b s hd => ⟨_, _, _, _, _, _, _, rfl, rfl, rfl, rfl, (by omega), ⟨_, rfl⟩, rfl, fun hb => rfl⟩)) ?_
        exact Stps.nil
      case h0 => exact fun s => rfl
      case agree => exact AgrAll.nil
      intro s7
      refine End.shapeC (by kernel_rfl) (new := [(19, _), (20, _), (21, _), (22, _), (23, _), (24, _), (25, _), (26, _), (27, _), (28, _), (29, _), (30, _), (31, _), (32, _), (33, _), (34, _), (35, _)]) (H' := [.row _ _ _ _ (List.set _ _ _)]) (Env.sub_cons rfl (Env.sub_cons rfl (Env.sub_cons rfl (Env.sub_cons rfl (Env.sub_cons rfl (Env.sub_cons rfl (Env.sub_cons rfl (Env.sub_cons rfl (Env.sub_cons rfl (Env.sub_cons rfl (Env.sub_cons rfl (Env.sub_cons rfl (Env.sub_cons rfl (Env.sub_cons rfl (Env.sub_cons rfl (Env.sub_cons rfl (Env.sub_cons rfl (Env.sub_nil)))))))))))))))))) rfl ?_
      refine End.blkN ?_
      refine End.seq ?_
      refine WC.region ?_
      refine WL.is 3 rfl (congrArg (fun q => Value.slice (some ⟨g, 0, none⟩) q c) hL2) ?_
      refine WL.cast (H' := [.row 9 1 (.slice (some ⟨g, 0, none⟩) (spB (tx.data.toList.take (i + 1))).length c) (spB (tx.data.toList.take (i + 1))).length (strs (spB (tx.data.toList.take (i + 1))))]) (by show [It.row 9 1 (.slice (some ⟨g, 0, none⟩) (spB (tx.data.toList.take i)).length c) (spB (tx.data.toList.take i)).length ((strs (spB (tx.data.toList.take i))).set (0 + ((((spB (tx.data.toList.take i)).length : Nat) : Int) - 1).toNat * 1) (.string (mkB y ++ tx.extract (i : Int).toNat ((i : Int) + 1).toNat)))] = _; rw [hset, hL2]) ?_
      refine WL.p rfl rfl rfl (P.move rfl) ?_
      refine WL.p rfl rfl rfl (P.ari64 rfl rfl rfl (by omega)) ?_
      refine WL.p rfl rfl rfl (P.assign rfl) ?_
      refine WL.nil_ ?_
      refine End.againD (i + 1, g, c) ?_ ?_ rfl (Env.sub_cons rfl (Env.sub_cons rfl (Env.sub_nil))) rfl [0] rfl rfl
      · exact ⟨by omega, hL2 ▸ hlc⟩
      · show tx.size - (i + 1) < tx.size - i; omega
  ·
    try simp only [decide_eq_true_eq, decide_eq_false_iff_not, beq_iff_eq, beq_eq_false_iff_ne, bne_iff_ne, bne_eq_false_iff_eq, Bool.not_eq_true', Bool.not_eq_false', ne_eq, Int.not_lt, Int.not_le] at hc9
    refine WC.exit ?_
    refine End.thenX ?_
    refine End.thenX ?_
    refine End.blkX ?_
    refine End.seq ?_
    refine WC.seq ?_
    refine WC.region ?_
    refine WL.p rfl rfl rfl (P.move rfl) ?_
    refine WL.p rfl rfl rfl (P.assign rfl) ?_
    refine WL.nil_ ?_
    refine End.seq ?_
    refine WC.ret ?_
    refine End.ret1 rfl rfl ?_
    have e : i = tx.data.toList.length := by omega
    subst e
    intro w' hs'
    simp only [List.take_length] at hs' hlc ⊢
    exact ⟨(g, c), hlc, rfl, hs'⟩

end Go.Proofs.YtlkkiimmangplaaGreatDoor

/- The reference's names. -/
namespace Go.Proofs.YtlkkiimmangplaaGreatDoor
open Go.RowKit
set_option linter.unusedVariables false
set_option linter.unusedSimpArgs false

set_option maxRecDepth 100000 in
theorem refDigit_any (c : Int) (w : World) :
    Calls Tryz.prog 273 #[.int .u8 c] w (RetV w (.bool (isDigit c))) := by
  refine enter Tryz.func273 rfl Tryz.ntmps273 rfl ?_
  refine WC.seq ?_
  refine WC.region ?_
  refine WL.p rfl rfl rfl (P.assign rfl) ?_
  refine WL.nil_ ?_
  refine End.seq ?_
  refine WC.seq ?_
  refine WC.region ?_
  refine WL.p rfl rfl rfl (P.move rfl) ?_
  refine WL.p rfl rfl rfl (P.cmp rfl rfl rfl) ?_
  refine WL.p rfl rfl rfl (P.move rfl) ?_
  refine WL.split 5 rfl (fun hs5 => ?_) (fun hs5 => ?_)
  ·
    refine WL.p rfl rfl rfl (P.move rfl) ?_
    refine WL.p rfl rfl rfl (P.cmp rfl rfl rfl) ?_
    refine WL.p rfl rfl rfl (P.pickT rfl rfl) ?_
    refine WL.p rfl rfl rfl (P.assign rfl) ?_
    refine WL.nil_ ?_
    refine End.seq ?_
    refine WC.ret ?_
    refine End.ret1 rfl rfl ?_
    exact fun w' hs' => RetV.of (by simp [isDigit, hs5]) hs'
  ·
    refine WL.off rfl rfl ?_
    refine WL.off rfl rfl ?_
    refine WL.p rfl rfl rfl (P.pickF rfl rfl) ?_
    refine WL.p rfl rfl rfl (P.assign rfl) ?_
    refine WL.nil_ ?_
    refine End.seq ?_
    refine WC.ret ?_
    refine End.ret1 rfl rfl ?_
    exact fun w' hs' => RetV.of (by simp [isDigit, hs5]) hs'

set_option maxRecDepth 100000 in
theorem refLetter_any (c : Int) (w : World) :
    Calls Tryz.prog 283 #[.int .u8 c] w (RetV w (.bool (isUpper c))) := by
  refine enter Tryz.func283 rfl Tryz.ntmps283 rfl ?_
  refine WC.seq ?_
  refine WC.region ?_
  refine WL.p rfl rfl rfl (P.assign rfl) ?_
  refine WL.nil_ ?_
  refine End.seq ?_
  refine WC.seq ?_
  refine WC.region ?_
  refine WL.p rfl rfl rfl (P.move rfl) ?_
  refine WL.p rfl rfl rfl (P.cmp rfl rfl rfl) ?_
  refine WL.p rfl rfl rfl (P.move rfl) ?_
  refine WL.split 5 rfl (fun hs5 => ?_) (fun hs5 => ?_)
  ·
    refine WL.p rfl rfl rfl (P.move rfl) ?_
    refine WL.p rfl rfl rfl (P.cmp rfl rfl rfl) ?_
    refine WL.p rfl rfl rfl (P.pickT rfl rfl) ?_
    refine WL.p rfl rfl rfl (P.assign rfl) ?_
    refine WL.nil_ ?_
    refine End.seq ?_
    refine WC.ret ?_
    refine End.ret1 rfl rfl ?_
    exact fun w' hs' => RetV.of (by simp [isUpper, hs5]) hs'
  ·
    refine WL.off rfl rfl ?_
    refine WL.off rfl rfl ?_
    refine WL.p rfl rfl rfl (P.pickF rfl rfl) ?_
    refine WL.p rfl rfl rfl (P.assign rfl) ?_
    refine WL.nil_ ?_
    refine End.seq ?_
    refine WC.ret ?_
    refine End.ret1 rfl rfl ?_
    exact fun w' hs' => RetV.of (by simp [isUpper, hs5]) hs'

set_option maxRecDepth 100000 in
theorem refNumber_any (s : ByteArray) (w : World) (hsz : s.size < 4294967281) :
    Calls Tryz.prog 215 #[.string s] w (RetV w (.int .i64 (genNum s.data.toList))) := by
  have hl : s.size = s.data.toList.length := rfl
  refine enter Tryz.func215 rfl Tryz.ntmps215 rfl ?_
  refine WC.seq ?_
  refine WC.region ?_
  refine WL.p rfl rfl rfl (P.assign rfl) ?_
  refine WL.nil_ ?_
  refine End.seq ?_
  refine WC.seq ?_
  refine WC.seq ?_
  refine WC.region ?_
  refine WL.p rfl rfl rfl (P.move rfl) ?_
  refine WL.p rfl rfl rfl (P.lenS Tryz.underlying9 rfl) ?_
  refine WL.p rfl rfl rfl (P.cmp rfl rfl rfl) ?_
  refine WL.p rfl rfl rfl (P.move rfl) ?_
  refine WL.split 8 rfl (fun hs8 => ?_) (fun hs8 => ?_)
  ·
    try simp only [decide_eq_true_eq, decide_eq_false_iff_not, beq_iff_eq, beq_eq_false_iff_ne, bne_iff_ne, bne_eq_false_iff_eq, Bool.not_eq_true', Bool.not_eq_false', ne_eq, Int.not_lt, Int.not_le] at hs8
    refine WL.off rfl rfl ?_
    refine WL.off rfl rfl ?_
    refine WL.off rfl rfl ?_
    refine WL.p rfl rfl rfl (P.pickT rfl rfl) ?_
    refine WL.p rfl rfl rfl (P.move rfl) ?_
    refine WL.off rfl rfl ?_
    refine WL.off rfl rfl ?_
    refine WL.off rfl rfl ?_
    refine WL.p rfl rfl rfl (P.pickT rfl rfl) ?_
    refine WL.nil_ ?_
    refine End.seq ?_
    refine WC.condT rfl ?_
    refine WC.seq ?_
    refine WC.region ?_
    refine WL.p rfl rfl rfl (P.assign rfl) ?_
    refine WL.nil_ ?_
    refine End.seq ?_
    refine WC.ret ?_
    refine End.thenR ?_
    refine End.ret1 rfl rfl ?_
    exact fun w' hs' => RetV.of (by rw [genNum_zero (fun h => hs8 (by omega))]) hs'
  ·
    try simp only [decide_eq_true_eq, decide_eq_false_iff_not, beq_iff_eq, beq_eq_false_iff_ne, bne_iff_ne, bne_eq_false_iff_eq, Bool.not_eq_true', Bool.not_eq_false', ne_eq, Int.not_lt, Int.not_le] at hs8
    refine WL.p rfl rfl rfl (P.move rfl) ?_
    refine WL.p rfl rfl rfl (P.byte Tryz.underlying9 rfl rfl (by omega) (by omega)) ?_
    refine WL.p rfl rfl rfl (P.cmp rfl rfl rfl) ?_
    refine WL.p rfl rfl rfl (P.pickF rfl rfl) ?_
    refine WL.p rfl rfl rfl (P.move rfl) ?_
    refine WL.split 13 rfl (fun hs13 => ?_) (fun hs13 => ?_)
    ·
      try simp only [decide_eq_true_eq, decide_eq_false_iff_not, beq_iff_eq, beq_eq_false_iff_ne, bne_iff_ne, bne_eq_false_iff_eq, Bool.not_eq_true', Bool.not_eq_false', ne_eq, Int.not_lt, Int.not_le] at hs13
      refine WL.off rfl rfl ?_
      refine WL.off rfl rfl ?_
      refine WL.off rfl rfl ?_
      refine WL.p rfl rfl rfl (P.pickT rfl rfl) ?_
      refine WL.nil_ ?_
      refine End.seq ?_
      refine WC.condT rfl ?_
      refine WC.seq ?_
      refine WC.region ?_
      refine WL.p rfl rfl rfl (P.assign rfl) ?_
      refine WL.nil_ ?_
      refine End.seq ?_
      refine WC.ret ?_
      refine End.thenR ?_
      refine End.ret1 rfl rfl ?_
      exact fun w' hs' => RetV.of (by rw [genNum_zero (fun h => hs13 (by rw [show (0 : Int).toNat = 0 from rfl, h.2.1]; rfl))]) hs'
    ·
      try simp only [decide_eq_true_eq, decide_eq_false_iff_not, beq_iff_eq, beq_eq_false_iff_ne, bne_iff_ne, bne_eq_false_iff_eq, Bool.not_eq_true', Bool.not_eq_false', ne_eq, Int.not_lt, Int.not_le] at hs13
      refine WL.p rfl rfl rfl (P.move rfl) ?_
      refine WL.p rfl rfl rfl (P.subL Tryz.underlying9 rfl rfl (by omega) (by omega)) ?_
      refine WL.p rfl rfl rfl (P.cmps rfl rfl rfl) ?_
      refine WL.p rfl rfl rfl (P.pickF rfl rfl) ?_
      refine WL.nil_ ?_
      refine End.seq ?_
      refine WC.cond rfl (fun hc17 => ?_) (fun hc17 => ?_)
      ·
        try simp only [decide_eq_true_eq, decide_eq_false_iff_not, beq_iff_eq, beq_eq_false_iff_ne, bne_iff_ne, bne_eq_false_iff_eq, Bool.not_eq_true', Bool.not_eq_false', ne_eq, Int.not_lt, Int.not_le] at hc17
        refine WC.seq ?_
        refine WC.region ?_
        refine WL.p rfl rfl rfl (P.assign rfl) ?_
        refine WL.nil_ ?_
        refine End.seq ?_
        refine WC.ret ?_
        refine End.thenR ?_
        refine End.ret1 rfl rfl ?_
        exact fun w' hs' => RetV.of (by rw [genNum_zero (fun h => hc17 (by rw [extract_bytes, List.take_of_length_le (by omega), show (5 : Int).toNat = 5 from rfl, h.2.2.1, ByteArray.toList_eq]))]) hs'
      ·
        try simp only [decide_eq_true_eq, decide_eq_false_iff_not, beq_iff_eq, beq_eq_false_iff_ne, bne_iff_ne, bne_eq_false_iff_eq, Bool.not_eq_true', Bool.not_eq_false', ne_eq, Int.not_lt, Int.not_le] at hc17
        refine WC.skip ?_
        refine End.seq ?_
        refine WC.seq ?_
        refine WC.region ?_
        refine WL.p rfl rfl rfl (P.assign rfl) ?_
        refine WL.nil_ ?_
        refine End.seq ?_
        refine WC.seq ?_
        refine WC.seq ?_
        refine WC.region ?_
        refine WL.p rfl rfl rfl (P.assign rfl) ?_
        refine WL.nil_ ?_
        refine End.seq ?_
        refine WC.block ?_
        refine WC.loopD (σ := Nat × Int) (fun (k, n) => [(4, .int .i64 (k : Nat)), (3, .int .i64 n)]) (fun (k, n) => []) (fun (k, n) => 1 ≤ k ∧ k ≤ 5 ∧ ((s.data.toList.take k).drop 1).all (fun c => isDigit (c.toNat : Int)) = true ∧ ((s.data.toList.take k).drop 1).foldl gf 0 = n ∧ 0 ≤ n ∧ n < 10 ^ (k - 1)) (fun (k, n) => 5 - k) (1, 0) ⟨Nat.le_refl _, by decide, by rw [List.drop_eq_nil_of_le (by rw [List.length_take]; omega)]; rfl, by rw [List.drop_eq_nil_of_le (by rw [List.length_take]; omega)]; rfl, Int.le_refl _, by decide⟩ (Env.sub_cons rfl (Env.sub_cons rfl (Env.sub_nil))) [] rfl rfl ?_
        rintro ⟨k, n⟩ ⟨hk1, hk, ht, hn, hn0, hn1⟩
        refine WC.seq ?_
        refine WC.seq ?_
        refine WC.region ?_
        refine WL.p rfl rfl rfl (P.move rfl) ?_
        refine WL.p rfl rfl rfl (P.cmp rfl rfl rfl) ?_
        refine WL.nil_ ?_
        refine End.seq ?_
        refine WC.cond rfl (fun hc19 => ?_) (fun hc19 => ?_)
        ·
          try simp only [decide_eq_true_eq, decide_eq_false_iff_not, beq_iff_eq, beq_eq_false_iff_ne, bne_iff_ne, bne_eq_false_iff_eq, Bool.not_eq_true', Bool.not_eq_false', ne_eq, Int.not_lt, Int.not_le] at hc19
          refine WC.skip ?_
          refine End.seq ?_
          refine WC.seq ?_
          refine WC.block ?_
          refine WC.seq ?_
          refine WC.seq ?_
          refine WC.region ?_
          refine WL.p rfl rfl rfl (P.move rfl) ?_
          refine WL.p rfl rfl rfl (P.move rfl) ?_
          refine WL.p rfl rfl rfl (P.byte Tryz.underlying9 rfl rfl (by omega) (by omega)) ?_
          refine WL.callv (ent_of Tryz.func273 rfl rfl) rfl rfl rfl (fun w hs => refDigit_any _ w) ?_
          refine WL.p rfl rfl rfl (P.not_ rfl) ?_
          refine WL.nil_ ?_
          refine End.seq ?_
          refine WC.cond rfl (fun hc26 => ?_) (fun hc26 => ?_)
          ·
            try simp only [decide_eq_true_eq, decide_eq_false_iff_not, beq_iff_eq, beq_eq_false_iff_ne, bne_iff_ne, bne_eq_false_iff_eq, Bool.not_eq_true', Bool.not_eq_false', ne_eq, Int.not_lt, Int.not_le] at hc26
            refine WC.seq ?_
            refine WC.region ?_
            refine WL.p rfl rfl rfl (P.assign rfl) ?_
            refine WL.nil_ ?_
            refine End.seq ?_
            refine WC.ret ?_
            refine End.thenR ?_
            refine End.blkR ?_
            refine End.thenR ?_
            refine End.thenR ?_
            refine End.blkR ?_
            refine End.thenR ?_
            refine End.ret1 rfl rfl ?_
            exact fun w' hs' => RetV.of (by rw [genNum_zero (fun h => by have := all_false_at (l := s.data.toList) (k := k) hk1 (by omega) (m := 5) (by omega) (p := fun c => isDigit (c.toNat : Int)) (by simpa using hc26); rw [h.2.2.2] at this; cases this)]) hs'
          ·
            try simp only [decide_eq_true_eq, decide_eq_false_iff_not, beq_iff_eq, beq_eq_false_iff_ne, bne_iff_ne, bne_eq_false_iff_eq, Bool.not_eq_true', Bool.not_eq_false', ne_eq, Int.not_lt, Int.not_le] at hc26
            have hdg : isDigit ((s.data.toList[(k : Int).toNat]?.getD 0).toNat : Int) = true := by simpa using hc26
            have hd2 := digit_le hdg
            have hn9 : n < 10000 := pow_small hk1 (by omega) hn1
            refine WC.skip ?_
            refine End.seq ?_
            refine WC.region ?_
            refine WL.p rfl rfl rfl (P.move rfl) ?_
            refine WL.p rfl rfl rfl (P.ari64 rfl rfl rfl (by omega)) ?_
            refine WL.p rfl rfl rfl (P.move rfl) ?_
            refine WL.p rfl rfl rfl (P.move rfl) ?_
            refine WL.p rfl rfl rfl (P.byte Tryz.underlying9 rfl rfl (by omega) (by omega)) ?_
            refine WL.p rfl rfl rfl (P.ari rfl rfl rfl) ?_
            refine WL.is 32 rfl (congrArg (Value.int .u8) (wrap_u8 (by omega) (by omega))) ?_
            refine WL.p rfl rfl rfl (P.conv (by kernel_rfl) Tryz.underlying3 rfl (wrap_i64 (by omega))) ?_
            refine WL.p rfl rfl rfl (P.ari64 rfl rfl rfl (by omega)) ?_
            refine WL.p rfl rfl rfl (P.assign rfl) ?_
            refine WL.nil_ ?_
            refine End.blkN ?_
            refine End.seq ?_
            refine WC.region ?_
            refine WL.p rfl rfl rfl (P.move rfl) ?_
            refine WL.p rfl rfl rfl (P.ari64 rfl rfl rfl (by omega)) ?_
            refine WL.p rfl rfl rfl (P.assign rfl) ?_
            refine WL.nil_ ?_
            refine End.againD (k + 1, 10 * n + (((s.data.toList[(k : Int).toNat]?.getD 0).toNat : Int) - 48)) ?_ ?_ rfl (Env.sub_cons rfl (Env.sub_cons rfl (Env.sub_nil))) rfl [] rfl rfl
            · exact ⟨by omega, by omega, by rw [take_drop_snoc (l := s.data.toList) (k := k) hk1 (by omega), ht, Bool.true_and]; exact hdg, by rw [take_drop_fold (l := s.data.toList) (k := k) hk1 (by omega), hn]; rfl, by omega, pow_step hk1 (by omega) hn0 hn1 hd2⟩
            · show 5 - (k + 1) < 5 - k; omega
        ·
          try simp only [decide_eq_true_eq, decide_eq_false_iff_not, beq_iff_eq, beq_eq_false_iff_ne, bne_iff_ne, bne_eq_false_iff_eq, Bool.not_eq_true', Bool.not_eq_false', ne_eq, Int.not_lt, Int.not_le] at hc19
          refine WC.exit ?_
          refine End.thenX ?_
          refine End.thenX ?_
          refine End.blkX ?_
          refine End.seq ?_
          refine WC.seq ?_
          refine WC.region ?_
          refine WL.p rfl rfl rfl (P.move rfl) ?_
          refine WL.p rfl rfl rfl (P.assign rfl) ?_
          refine WL.nil_ ?_
          refine End.seq ?_
          refine WC.ret ?_
          refine End.ret1 rfl rfl ?_
          have e : k = 5 := by omega
          subst e
          rw [extract_bytes, List.take_of_length_le (by omega)] at hc17
          exact fun w' hs' => RetV.of (by rw [genNum, if_pos ⟨by omega, u8_eq (by decide) (by simpa using hs13), by simpa [ByteArray.toList_eq] using hc17, ht⟩]; exact congrArg _ hn.symm) hs'

/-- The byte at a place, as a number. -/
abbrev byteAt (l : List UInt8) (k : Nat) : Int := ((l[(k : Int).toNat]?.getD 0).toNat : Int)
/-- A byte of a qualifier, or of one with stars: a star does not follow a star. -/
def okAt (stars : Bool) (l : List UInt8) (k : Nat) : Bool :=
  (isUpper (byteAt l k) || (isDigit (byteAt l k) || (stars && (byteAt l k == 42)))) && !((stars && (byteAt l k == 42)) && (decide ((0 : Int) < (k : Nat)) && (((l[((k : Int) - 1).toNat]?.getD 0).toNat : Int) == 42)))
/-- A part of a name or of a pattern. -/
def partB (stars : Bool) (s : ByteArray) : Bool :=
  (stars && (s.toList == (⟨#[42, 42]⟩ : ByteArray).toList)) || (decide (1 ≤ s.size) && (decide (s.size ≤ 8) && (!isDigit (byteAt s.data.toList 0) && (List.range s.size).all (okAt stars s.data.toList))))
theorem range_bad {p : Nat → Bool} {k n : Nat} (h : k < n) (hp : p k = false) : (List.range n).all p = false := by
  rw [Bool.eq_false_iff]
  intro he
  have := List.all_eq_true.1 he k (List.mem_range.2 h)
  rw [hp] at this; cases this
theorem partB_short {stars : Bool} {s : ByteArray} (h0 : (stars && (s.toList == (⟨#[42, 42]⟩ : ByteArray).toList)) = false) (h : (decide ((s.size : Int) < 1) || (decide ((8 : Int) < s.size) || isDigit (byteAt s.data.toList 0))) = true) : partB stars s = false := by
  rw [partB, h0, Bool.false_or]
  rw [Bool.or_eq_true, Bool.or_eq_true, decide_eq_true_eq, decide_eq_true_eq] at h
  rcases h with h | h | h
  · rw [decide_eq_false (by omega : ¬ 1 ≤ s.size)]; rfl
  · rw [decide_eq_false (by omega : ¬ s.size ≤ 8)]; simp
  · rw [h]; simp
theorem partB_all {stars : Bool} {s : ByteArray} (h0 : (stars && (s.toList == (⟨#[42, 42]⟩ : ByteArray).toList)) = false) (h : (decide ((s.size : Int) < 1) || (decide ((8 : Int) < s.size) || isDigit (byteAt s.data.toList 0))) = false) (h1 : (List.range s.size).all (okAt stars s.data.toList) = true) : partB stars s = true := by
  rw [partB, h0, Bool.false_or, h1]
  rw [Bool.or_eq_false_iff, Bool.or_eq_false_iff, decide_eq_false_iff_not, decide_eq_false_iff_not] at h
  rw [decide_eq_true (by omega : 1 ≤ s.size), decide_eq_true (by omega : s.size ≤ 8), h.2.2]; rfl
theorem partB_bad {stars : Bool} {s : ByteArray} {k : Nat} (h0 : (stars && (s.toList == (⟨#[42, 42]⟩ : ByteArray).toList)) = false) (hk : k < s.size) (h : okAt stars s.data.toList k = false) : partB stars s = false := by
  rw [partB, h0, range_bad hk h]; simp

set_option maxRecDepth 100000 in
theorem refPart_any (s : ByteArray) (stars : Bool) (w : World) (hsz : s.size < 4294967281) :
    Calls Tryz.prog 236 #[.string s, .bool stars] w (RetV w (.bool (partB stars s))) := by
  refine enter Tryz.func236 rfl Tryz.ntmps236 rfl ?_
  refine WC.seq ?_
  refine WC.region ?_
  refine WL.p rfl rfl rfl (P.assign rfl) ?_
  refine WL.nil_ ?_
  refine End.seq ?_
  refine WC.seq ?_
  refine WC.cutD (σ := Bool) (fun z1 => [(11, .bool z1)]) (fun z1 => []) (fun z1 => z1 = (stars && (s.toList == (⟨#[42, 42]⟩ : ByteArray).toList))) ?_ (fun z1 hz1 => ?_)
  ·
    refine WC.region ?_
    refine WL.p rfl rfl rfl (P.move rfl) ?_
    refine WL.p rfl rfl rfl (P.move rfl) ?_
    refine WL.split 8 rfl (fun hs8 => ?_) (fun hs8 => ?_)
    ·
      refine WL.p rfl rfl rfl (P.move rfl) ?_
      refine WL.p rfl rfl rfl (P.cmps rfl rfl rfl) ?_
      refine WL.p rfl rfl rfl (P.pickT rfl rfl) ?_
      refine WL.nil_ ?_
      refine End.atD _ ?_ rfl (Env.sub_cons rfl (Env.sub_nil)) rfl [] rfl rfl
      · simp [okAt, byteAt, *]
    ·
      refine WL.off rfl rfl ?_
      refine WL.off rfl rfl ?_
      refine WL.p rfl rfl rfl (P.pickF rfl rfl) ?_
      refine WL.nil_ ?_
      refine End.atD _ ?_ rfl (Env.sub_cons rfl (Env.sub_nil)) rfl [] rfl rfl
      · simp [okAt, byteAt, *]
  ·
    refine WC.cond rfl (fun hc11 => ?_) (fun hc11 => ?_)
    ·
      refine WC.seq ?_
      refine WC.region ?_
      refine WL.p rfl rfl rfl (P.assign rfl) ?_
      refine WL.nil_ ?_
      refine End.seq ?_
      refine WC.ret ?_
      refine End.thenR ?_
      refine End.ret1 rfl rfl ?_
      exact fun w' hs' => RetV.of (by rw [partB, ← hz1, hc11]; rfl) hs'
    ·
      refine WC.skip ?_
      refine End.seq ?_
      refine WC.seq ?_
      refine WC.cutD (σ := Bool) (fun z3 => [(24, .bool z3)]) (fun z3 => []) (fun z3 => z3 = (decide ((s.size : Int) < 1) || (decide ((8 : Int) < s.size) || isDigit (byteAt s.data.toList 0)))) ?_ (fun z3 hz3 => ?_)
      ·
        refine WC.region ?_
        refine WL.p rfl rfl rfl (P.move rfl) ?_
        refine WL.p rfl rfl rfl (P.lenS Tryz.underlying9 rfl) ?_
        refine WL.p rfl rfl rfl (P.cmp rfl rfl rfl) ?_
        refine WL.p rfl rfl rfl (P.move rfl) ?_
        refine WL.split 15 rfl (fun hs15 => ?_) (fun hs15 => ?_)
        ·
          refine WL.off rfl rfl ?_
          refine WL.off rfl rfl ?_
          refine WL.off rfl rfl ?_
          refine WL.p rfl rfl rfl (P.pickT rfl rfl) ?_
          refine WL.p rfl rfl rfl (P.move rfl) ?_
          refine WL.off rfl rfl ?_
          refine WL.off rfl rfl ?_
          refine WL.off rfl rfl ?_
          refine WL.p rfl rfl rfl (P.pickT rfl rfl) ?_
          refine WL.nil_ ?_
          refine End.atD _ ?_ rfl (Env.sub_cons rfl (Env.sub_nil)) rfl [] rfl rfl
          · simp [okAt, byteAt, *]
        ·
          refine WL.p rfl rfl rfl (P.move rfl) ?_
          refine WL.p rfl rfl rfl (P.lenS Tryz.underlying9 rfl) ?_
          refine WL.p rfl rfl rfl (P.cmp rfl rfl rfl) ?_
          refine WL.p rfl rfl rfl (P.pickF rfl rfl) ?_
          refine WL.p rfl rfl rfl (P.move rfl) ?_
          refine WL.split 20 rfl (fun hs20 => ?_) (fun hs20 => ?_)
          ·
            refine WL.off rfl rfl ?_
            refine WL.off rfl rfl ?_
            refine WL.off rfl rfl ?_
            refine WL.p rfl rfl rfl (P.pickT rfl rfl) ?_
            refine WL.nil_ ?_
            refine End.atD _ ?_ rfl (Env.sub_cons rfl (Env.sub_nil)) rfl [] rfl rfl
            · simp [okAt, byteAt, *]
          ·
            refine WL.p rfl rfl rfl (P.move rfl) ?_
            refine WL.p rfl rfl rfl (P.byte Tryz.underlying9 rfl rfl (by omega) (by have := of_decide_eq_false hs15; omega)) ?_
            refine WL.callv (ent_of Tryz.func273 rfl rfl) rfl rfl rfl (fun w hs => refDigit_any _ w) ?_
            refine WL.p rfl rfl rfl (P.pickF rfl rfl) ?_
            refine WL.nil_ ?_
            refine End.atD _ ?_ rfl (Env.sub_cons rfl (Env.sub_nil)) rfl [] rfl rfl
            · simp [okAt, byteAt, *]
      ·
        refine WC.cond rfl (fun hc24 => ?_) (fun hc24 => ?_)
        ·
          refine WC.seq ?_
          refine WC.region ?_
          refine WL.p rfl rfl rfl (P.assign rfl) ?_
          refine WL.nil_ ?_
          refine End.seq ?_
          refine WC.ret ?_
          refine End.thenR ?_
          refine End.ret1 rfl rfl ?_
          rw [hc24] at hz3
          exact fun w' hs' => RetV.of (by rw [partB_short (hz1 ▸ hc11) hz3.symm]) hs'
        ·
          refine WC.skip ?_
          refine End.seq ?_
          refine WC.seq ?_
          refine WC.seq ?_
          refine WC.region ?_
          refine WL.p rfl rfl rfl (P.assign rfl) ?_
          refine WL.nil_ ?_
          refine End.seq ?_
          refine WC.block ?_
          refine WC.loopD (σ := Nat) (fun k => [(5, .int .i64 (k : Nat))]) (fun k => []) (fun k => k ≤ s.size ∧ (List.range k).all (okAt stars s.data.toList) = true) (fun k => s.size - k) 0 ⟨Nat.zero_le _, rfl⟩ (Env.sub_cons rfl (Env.sub_nil)) [] rfl rfl ?_
          rintro k ⟨hk, ht⟩
          refine WC.seq ?_
          refine WC.seq ?_
          refine WC.region ?_
          refine WL.p rfl rfl rfl (P.move rfl) ?_
          refine WL.p rfl rfl rfl (P.move rfl) ?_
          refine WL.p rfl rfl rfl (P.lenS Tryz.underlying9 rfl) ?_
          refine WL.p rfl rfl rfl (P.cmp rfl rfl rfl) ?_
          refine WL.nil_ ?_
          refine End.seq ?_
          refine WC.cond rfl (fun hc28 => ?_) (fun hc28 => ?_)
          ·
            have hk2 : k < s.size := by have := of_decide_eq_true hc28; omega
            refine WC.skip ?_
            refine End.seq ?_
            refine WC.seq ?_
            refine WC.block ?_
            refine WC.cutD (σ := Bool) (fun z8 => [(6, .bool z8)]) (fun z8 => []) (fun z8 => z8 = (stars && (byteAt s.data.toList k == 42))) ?_ (fun z8 hz8 => ?_)
            ·
              refine WC.region ?_
              refine WL.p rfl rfl rfl (P.move rfl) ?_
              refine WL.p rfl rfl rfl (P.move rfl) ?_
              refine WL.split 32 rfl (fun hs32 => ?_) (fun hs32 => ?_)
              ·
                refine WL.p rfl rfl rfl (P.move rfl) ?_
                refine WL.p rfl rfl rfl (P.move rfl) ?_
                refine WL.p rfl rfl rfl (P.byte Tryz.underlying9 rfl rfl (by omega) (by omega)) ?_
                refine WL.p rfl rfl rfl (P.cmp rfl rfl rfl) ?_
                refine WL.p rfl rfl rfl (P.pickT rfl rfl) ?_
                refine WL.p rfl rfl rfl (P.assign rfl) ?_
                refine WL.nil_ ?_
                refine End.atD _ ?_ rfl (Env.sub_cons rfl (Env.sub_nil)) rfl [] rfl rfl
                · simp [okAt, byteAt, *]
              ·
                refine WL.off rfl rfl ?_
                refine WL.off rfl rfl ?_
                refine WL.off rfl rfl ?_
                refine WL.off rfl rfl ?_
                refine WL.p rfl rfl rfl (P.pickF rfl rfl) ?_
                refine WL.p rfl rfl rfl (P.assign rfl) ?_
                refine WL.nil_ ?_
                refine End.atD _ ?_ rfl (Env.sub_cons rfl (Env.sub_nil)) rfl [] rfl rfl
                · simp [okAt, byteAt, *]
            ·
              refine WC.cutD (σ := Bool) (fun z9 => [(67, .bool z9)]) (fun z9 => []) (fun z9 => z9 = !okAt stars s.data.toList k) ?_ (fun z9 hz9 => ?_)
              ·
                refine WC.region ?_
                refine WL.p rfl rfl rfl (P.move rfl) ?_
                refine WL.p rfl rfl rfl (P.move rfl) ?_
                refine WL.p rfl rfl rfl (P.byte Tryz.underlying9 rfl rfl (by omega) (by omega)) ?_
                refine WL.callv (ent_of Tryz.func283 rfl rfl) rfl rfl rfl (fun w hs => refLetter_any _ w) ?_
                refine WL.p rfl rfl rfl (P.not_ rfl) ?_
                refine WL.p rfl rfl rfl (P.move rfl) ?_
                refine WL.split 43 rfl (fun hs43 => ?_) (fun hs43 => ?_)
                ·
                  refine WL.p rfl rfl rfl (P.move rfl) ?_
                  refine WL.p rfl rfl rfl (P.move rfl) ?_
                  refine WL.p rfl rfl rfl (P.byte Tryz.underlying9 rfl rfl (by omega) (by omega)) ?_
                  refine WL.callv (ent_of Tryz.func273 rfl rfl) rfl rfl rfl (fun w hs => refDigit_any _ w) ?_
                  refine WL.p rfl rfl rfl (P.not_ rfl) ?_
                  refine WL.p rfl rfl rfl (P.pickT rfl rfl) ?_
                  refine WL.p rfl rfl rfl (P.move rfl) ?_
                  refine WL.split 50 rfl (fun hs50 => ?_) (fun hs50 => ?_)
                  ·
                    refine WL.p rfl rfl rfl (P.move rfl) ?_
                    refine WL.p rfl rfl rfl (P.not_ rfl) ?_
                    refine WL.p rfl rfl rfl (P.pickT rfl rfl) ?_
                    refine WL.p rfl rfl rfl (P.move rfl) ?_
                    refine WL.split 54 rfl (fun hs54 => ?_) (fun hs54 => ?_)
                    ·
                      refine WL.off rfl rfl ?_
                      refine WL.off rfl rfl ?_
                      refine WL.offU rfl rfl ?_
                      refine WL.offU rfl rfl ?_
                      refine WL.off rfl rfl ?_
                      refine WL.off rfl rfl ?_
                      refine WL.offU rfl rfl ?_
                      refine WL.offU rfl rfl ?_
                      refine WL.offU rfl rfl ?_
                      refine WL.offU rfl rfl ?_
                      refine WL.offU rfl rfl ?_
                      refine WL.off rfl rfl ?_
                      refine WL.p rfl rfl rfl (P.pickT rfl rfl) ?_
                      refine WL.nil_ ?_
                      refine End.atD _ ?_ rfl (Env.sub_cons rfl (Env.sub_nil)) rfl [] rfl rfl
                      · rw [okAt, ← hz8]; clear hz1 hz8 ht hk hc28 hk2 hc11 hc24 hz3 hsz; generalize isUpper (byteAt s.data.toList k) = a at *; generalize isDigit (byteAt s.data.toList k) = b at *; generalize decide ((0 : Int) < (k : Nat)) = c at *; generalize ((((s.data.toList[((k : Int) - 1).toNat]?).getD 0).toNat : Int) == 42) = d at *; cases a <;> cases b <;> cases c <;> cases d <;> cases z8 <;> first | rfl | (simp at *; done)
                    ·
                      refine WL.p rfl rfl rfl (P.move rfl) ?_
                      refine WL.p rfl rfl rfl (P.move rfl) ?_
                      refine WL.split 56 rfl (fun hs56 => ?_) (fun hs56 => ?_)
                      ·
                        refine WL.p rfl rfl rfl (P.move rfl) ?_
                        refine WL.p rfl rfl rfl (P.cmp rfl rfl rfl) ?_
                        refine WL.p rfl rfl rfl (P.pickT rfl rfl) ?_
                        refine WL.p rfl rfl rfl (P.move rfl) ?_
                        refine WL.split 60 rfl (fun hs60 => ?_) (fun hs60 => ?_)
                        ·
                          refine WL.p rfl rfl rfl (P.move rfl) ?_
                          refine WL.p rfl rfl rfl (P.move rfl) ?_
                          refine WL.p rfl rfl rfl (P.ari64 rfl rfl rfl (by have := of_decide_eq_true hs60; omega)) ?_
                          refine WL.p rfl rfl rfl (P.byte Tryz.underlying9 rfl rfl (by have := of_decide_eq_true hs60; omega) (by omega)) ?_
                          refine WL.p rfl rfl rfl (P.cmp rfl rfl rfl) ?_
                          refine WL.p rfl rfl rfl (P.pickT rfl rfl) ?_
                          refine WL.p rfl rfl rfl (P.pickF rfl rfl) ?_
                          refine WL.nil_ ?_
                          refine End.atD _ ?_ rfl (Env.sub_cons rfl (Env.sub_nil)) rfl [] rfl rfl
                          · rw [okAt, ← hz8]; clear hz1 hz8 ht hk hc28 hk2 hc11 hc24 hz3 hsz; generalize isUpper (byteAt s.data.toList k) = a at *; generalize isDigit (byteAt s.data.toList k) = b at *; generalize decide ((0 : Int) < (k : Nat)) = c at *; generalize ((((s.data.toList[((k : Int) - 1).toNat]?).getD 0).toNat : Int) == 42) = d at *; cases a <;> cases b <;> cases c <;> cases d <;> cases z8 <;> first | rfl | (simp at *; done)
                        ·
                          refine WL.off rfl rfl ?_
                          refine WL.off rfl rfl ?_
                          refine WL.off rfl rfl ?_
                          refine WL.off rfl rfl ?_
                          refine WL.off rfl rfl ?_
                          refine WL.p rfl rfl rfl (P.pickF rfl rfl) ?_
                          refine WL.p rfl rfl rfl (P.pickF rfl rfl) ?_
                          refine WL.nil_ ?_
                          refine End.atD _ ?_ rfl (Env.sub_cons rfl (Env.sub_nil)) rfl [] rfl rfl
                          · rw [okAt, ← hz8]; clear hz1 hz8 ht hk hc28 hk2 hc11 hc24 hz3 hsz; generalize isUpper (byteAt s.data.toList k) = a at *; generalize isDigit (byteAt s.data.toList k) = b at *; generalize decide ((0 : Int) < (k : Nat)) = c at *; generalize ((((s.data.toList[((k : Int) - 1).toNat]?).getD 0).toNat : Int) == 42) = d at *; cases a <;> cases b <;> cases c <;> cases d <;> cases z8 <;> first | rfl | (simp at *; done)
                      ·
                        refine WL.off rfl rfl ?_
                        refine WL.off rfl rfl ?_
                        refine WL.p rfl rfl rfl (P.pickF rfl rfl) ?_
                        refine WL.p rfl rfl rfl (P.move rfl) ?_
                        refine WL.off rfl rfl ?_
                        refine WL.off rfl rfl ?_
                        refine WL.off rfl rfl ?_
                        refine WL.off rfl rfl ?_
                        refine WL.off rfl rfl ?_
                        refine WL.p rfl rfl rfl (P.pickF rfl rfl) ?_
                        refine WL.p rfl rfl rfl (P.pickF rfl rfl) ?_
                        refine WL.nil_ ?_
                        refine End.atD _ ?_ rfl (Env.sub_cons rfl (Env.sub_nil)) rfl [] rfl rfl
                        · rw [okAt, ← hz8]; clear hz1 hz8 ht hk hc28 hk2 hc11 hc24 hz3 hsz; generalize isUpper (byteAt s.data.toList k) = a at *; generalize isDigit (byteAt s.data.toList k) = b at *; generalize decide ((0 : Int) < (k : Nat)) = c at *; generalize ((((s.data.toList[((k : Int) - 1).toNat]?).getD 0).toNat : Int) == 42) = d at *; cases a <;> cases b <;> cases c <;> cases d <;> cases z8 <;> first | rfl | (simp at *; done)
                  ·
                    refine WL.off rfl rfl ?_
                    refine WL.off rfl rfl ?_
                    refine WL.p rfl rfl rfl (P.pickF rfl rfl) ?_
                    refine WL.p rfl rfl rfl (P.move rfl) ?_
                    refine WL.p rfl rfl rfl (P.move rfl) ?_
                    refine WL.p rfl rfl rfl (P.move rfl) ?_
                    refine WL.split 56 rfl (fun hs56 => ?_) (fun hs56 => ?_)
                    ·
                      refine WL.p rfl rfl rfl (P.move rfl) ?_
                      refine WL.p rfl rfl rfl (P.cmp rfl rfl rfl) ?_
                      refine WL.p rfl rfl rfl (P.pickT rfl rfl) ?_
                      refine WL.p rfl rfl rfl (P.move rfl) ?_
                      refine WL.split 60 rfl (fun hs60 => ?_) (fun hs60 => ?_)
                      ·
                        refine WL.p rfl rfl rfl (P.move rfl) ?_
                        refine WL.p rfl rfl rfl (P.move rfl) ?_
                        refine WL.p rfl rfl rfl (P.ari64 rfl rfl rfl (by have := of_decide_eq_true hs60; omega)) ?_
                        refine WL.p rfl rfl rfl (P.byte Tryz.underlying9 rfl rfl (by have := of_decide_eq_true hs60; omega) (by omega)) ?_
                        refine WL.p rfl rfl rfl (P.cmp rfl rfl rfl) ?_
                        refine WL.p rfl rfl rfl (P.pickT rfl rfl) ?_
                        refine WL.p rfl rfl rfl (P.pickF rfl rfl) ?_
                        refine WL.nil_ ?_
                        refine End.atD _ ?_ rfl (Env.sub_cons rfl (Env.sub_nil)) rfl [] rfl rfl
                        · rw [okAt, ← hz8]; clear hz1 hz8 ht hk hc28 hk2 hc11 hc24 hz3 hsz; generalize isUpper (byteAt s.data.toList k) = a at *; generalize isDigit (byteAt s.data.toList k) = b at *; generalize decide ((0 : Int) < (k : Nat)) = c at *; generalize ((((s.data.toList[((k : Int) - 1).toNat]?).getD 0).toNat : Int) == 42) = d at *; cases a <;> cases b <;> cases c <;> cases d <;> cases z8 <;> first | rfl | (simp at *; done)
                      ·
                        refine WL.off rfl rfl ?_
                        refine WL.off rfl rfl ?_
                        refine WL.off rfl rfl ?_
                        refine WL.off rfl rfl ?_
                        refine WL.off rfl rfl ?_
                        refine WL.p rfl rfl rfl (P.pickF rfl rfl) ?_
                        refine WL.p rfl rfl rfl (P.pickF rfl rfl) ?_
                        refine WL.nil_ ?_
                        refine End.atD _ ?_ rfl (Env.sub_cons rfl (Env.sub_nil)) rfl [] rfl rfl
                        · rw [okAt, ← hz8]; clear hz1 hz8 ht hk hc28 hk2 hc11 hc24 hz3 hsz; generalize isUpper (byteAt s.data.toList k) = a at *; generalize isDigit (byteAt s.data.toList k) = b at *; generalize decide ((0 : Int) < (k : Nat)) = c at *; generalize ((((s.data.toList[((k : Int) - 1).toNat]?).getD 0).toNat : Int) == 42) = d at *; cases a <;> cases b <;> cases c <;> cases d <;> cases z8 <;> first | rfl | (simp at *; done)
                    ·
                      refine WL.off rfl rfl ?_
                      refine WL.off rfl rfl ?_
                      refine WL.p rfl rfl rfl (P.pickF rfl rfl) ?_
                      refine WL.p rfl rfl rfl (P.move rfl) ?_
                      refine WL.off rfl rfl ?_
                      refine WL.off rfl rfl ?_
                      refine WL.off rfl rfl ?_
                      refine WL.off rfl rfl ?_
                      refine WL.off rfl rfl ?_
                      refine WL.p rfl rfl rfl (P.pickF rfl rfl) ?_
                      refine WL.p rfl rfl rfl (P.pickF rfl rfl) ?_
                      refine WL.nil_ ?_
                      refine End.atD _ ?_ rfl (Env.sub_cons rfl (Env.sub_nil)) rfl [] rfl rfl
                      · rw [okAt, ← hz8]; clear hz1 hz8 ht hk hc28 hk2 hc11 hc24 hz3 hsz; generalize isUpper (byteAt s.data.toList k) = a at *; generalize isDigit (byteAt s.data.toList k) = b at *; generalize decide ((0 : Int) < (k : Nat)) = c at *; generalize ((((s.data.toList[((k : Int) - 1).toNat]?).getD 0).toNat : Int) == 42) = d at *; cases a <;> cases b <;> cases c <;> cases d <;> cases z8 <;> first | rfl | (simp at *; done)
                ·
                  refine WL.off rfl rfl ?_
                  refine WL.off rfl rfl ?_
                  refine WL.off rfl rfl ?_
                  refine WL.off rfl rfl ?_
                  refine WL.off rfl rfl ?_
                  refine WL.p rfl rfl rfl (P.pickF rfl rfl) ?_
                  refine WL.p rfl rfl rfl (P.move rfl) ?_
                  refine WL.off rfl rfl ?_
                  refine WL.off rfl rfl ?_
                  refine WL.p rfl rfl rfl (P.pickF rfl rfl) ?_
                  refine WL.p rfl rfl rfl (P.move rfl) ?_
                  refine WL.p rfl rfl rfl (P.move rfl) ?_
                  refine WL.p rfl rfl rfl (P.move rfl) ?_
                  refine WL.split 56 rfl (fun hs56 => ?_) (fun hs56 => ?_)
                  ·
                    refine WL.p rfl rfl rfl (P.move rfl) ?_
                    refine WL.p rfl rfl rfl (P.cmp rfl rfl rfl) ?_
                    refine WL.p rfl rfl rfl (P.pickT rfl rfl) ?_
                    refine WL.p rfl rfl rfl (P.move rfl) ?_
                    refine WL.split 60 rfl (fun hs60 => ?_) (fun hs60 => ?_)
                    ·
                      refine WL.p rfl rfl rfl (P.move rfl) ?_
                      refine WL.p rfl rfl rfl (P.move rfl) ?_
                      refine WL.p rfl rfl rfl (P.ari64 rfl rfl rfl (by have := of_decide_eq_true hs60; omega)) ?_
                      refine WL.p rfl rfl rfl (P.byte Tryz.underlying9 rfl rfl (by have := of_decide_eq_true hs60; omega) (by omega)) ?_
                      refine WL.p rfl rfl rfl (P.cmp rfl rfl rfl) ?_
                      refine WL.p rfl rfl rfl (P.pickT rfl rfl) ?_
                      refine WL.p rfl rfl rfl (P.pickF rfl rfl) ?_
                      refine WL.nil_ ?_
                      refine End.atD _ ?_ rfl (Env.sub_cons rfl (Env.sub_nil)) rfl [] rfl rfl
                      · rw [okAt, ← hz8]; clear hz1 hz8 ht hk hc28 hk2 hc11 hc24 hz3 hsz; generalize isUpper (byteAt s.data.toList k) = a at *; generalize isDigit (byteAt s.data.toList k) = b at *; generalize decide ((0 : Int) < (k : Nat)) = c at *; generalize ((((s.data.toList[((k : Int) - 1).toNat]?).getD 0).toNat : Int) == 42) = d at *; cases a <;> cases b <;> cases c <;> cases d <;> cases z8 <;> first | rfl | (simp at *; done)
                    ·
                      refine WL.off rfl rfl ?_
                      refine WL.off rfl rfl ?_
                      refine WL.off rfl rfl ?_
                      refine WL.off rfl rfl ?_
                      refine WL.off rfl rfl ?_
                      refine WL.p rfl rfl rfl (P.pickF rfl rfl) ?_
                      refine WL.p rfl rfl rfl (P.pickF rfl rfl) ?_
                      refine WL.nil_ ?_
                      refine End.atD _ ?_ rfl (Env.sub_cons rfl (Env.sub_nil)) rfl [] rfl rfl
                      · rw [okAt, ← hz8]; clear hz1 hz8 ht hk hc28 hk2 hc11 hc24 hz3 hsz; generalize isUpper (byteAt s.data.toList k) = a at *; generalize isDigit (byteAt s.data.toList k) = b at *; generalize decide ((0 : Int) < (k : Nat)) = c at *; generalize ((((s.data.toList[((k : Int) - 1).toNat]?).getD 0).toNat : Int) == 42) = d at *; cases a <;> cases b <;> cases c <;> cases d <;> cases z8 <;> first | rfl | (simp at *; done)
                  ·
                    refine WL.off rfl rfl ?_
                    refine WL.off rfl rfl ?_
                    refine WL.p rfl rfl rfl (P.pickF rfl rfl) ?_
                    refine WL.p rfl rfl rfl (P.move rfl) ?_
                    refine WL.off rfl rfl ?_
                    refine WL.off rfl rfl ?_
                    refine WL.off rfl rfl ?_
                    refine WL.off rfl rfl ?_
                    refine WL.off rfl rfl ?_
                    refine WL.p rfl rfl rfl (P.pickF rfl rfl) ?_
                    refine WL.p rfl rfl rfl (P.pickF rfl rfl) ?_
                    refine WL.nil_ ?_
                    refine End.atD _ ?_ rfl (Env.sub_cons rfl (Env.sub_nil)) rfl [] rfl rfl
                    · rw [okAt, ← hz8]; clear hz1 hz8 ht hk hc28 hk2 hc11 hc24 hz3 hsz; generalize isUpper (byteAt s.data.toList k) = a at *; generalize isDigit (byteAt s.data.toList k) = b at *; generalize decide ((0 : Int) < (k : Nat)) = c at *; generalize ((((s.data.toList[((k : Int) - 1).toNat]?).getD 0).toNat : Int) == 42) = d at *; cases a <;> cases b <;> cases c <;> cases d <;> cases z8 <;> first | rfl | (simp at *; done)
              ·
                refine WC.cond rfl (fun hc67 => ?_) (fun hc67 => ?_)
                ·
                  refine WC.seq ?_
                  refine WC.region ?_
                  refine WL.p rfl rfl rfl (P.assign rfl) ?_
                  refine WL.nil_ ?_
                  refine End.seq ?_
                  refine WC.ret ?_
                  refine End.blkR ?_
                  refine End.thenR ?_
                  refine End.thenR ?_
                  refine End.blkR ?_
                  refine End.thenR ?_
                  refine End.ret1 rfl rfl ?_
                  rw [hc67] at hz9
                  exact fun w' hs' => RetV.of (by rw [partB_bad (k := k) (hz1 ▸ hc11) hk2 (by simpa using hz9.symm)]) hs'
                ·
                  refine WC.skip ?_
                  refine End.blkN ?_
                  refine End.seq ?_
                  refine WC.region ?_
                  refine WL.p rfl rfl rfl (P.move rfl) ?_
                  refine WL.p rfl rfl rfl (P.ari64 rfl rfl rfl (by omega)) ?_
                  refine WL.p rfl rfl rfl (P.assign rfl) ?_
                  refine WL.nil_ ?_
                  refine End.againD (k + 1) ?_ ?_ rfl (Env.sub_cons rfl (Env.sub_nil)) rfl [] rfl rfl
                  · exact ⟨by omega, by rw [range_snoc, ht, Bool.true_and]; rw [hc67] at hz9; simpa using hz9.symm⟩
                  · omega
          ·
            have hk2 : k = s.size := by have := of_decide_eq_false hc28; omega
            refine WC.exit ?_
            refine End.thenX ?_
            refine End.thenX ?_
            refine End.blkX ?_
            refine End.seq ?_
            refine WC.seq ?_
            refine WC.region ?_
            refine WL.p rfl rfl rfl (P.assign rfl) ?_
            refine WL.nil_ ?_
            refine End.seq ?_
            refine WC.ret ?_
            refine End.ret1 rfl rfl ?_
            subst hk2
            exact fun w' hs' => RetV.of (by rw [partB_all (hz1 ▸ hc11) (hz3 ▸ hc24) ht]) hs'

/-- A name or a pattern. -/
def validB (stars : Bool) (s : ByteArray) : Bool := decide (1 ≤ s.size) && (decide (s.size ≤ 31) && (spB s.data.toList).all (partB stars))
theorem spB_all {s : ByteArray} {p : ByteArray → Bool} {k : Nat} {q : ByteArray} (hq : (spB s.data.toList)[k]? = some q) (h : p q = false) : (spB s.data.toList).all p = false := by
  rw [Bool.eq_false_iff]
  intro he
  rw [List.all_eq_true] at he
  rw [he q (List.mem_of_getElem? hq)] at h; cases h
theorem spB_pos (l : List UInt8) : 0 < (spB l).length := by
  have := List.length_pos_iff.2 (sp_ne l)
  simpa [spB] using this
theorem spB_lenle (s : ByteArray) : (spB s.data.toList).length ≤ s.size + 1 := by
  have := spB_len s.data.toList
  have e : s.size = s.data.toList.length := rfl
  simp only [spB, List.length_map]
  omega

set_option maxRecDepth 100000 in
theorem refValid1_any (s : ByteArray) (stars : Bool) (w : World) :
    Calls Tryz.prog 148 #[.string s, .bool stars] w (RetV w (.bool (validB stars s))) := by
  refine enter Tryz.func148 rfl Tryz.ntmps148 rfl ?_
  refine WC.seq ?_
  refine WC.region ?_
  refine WL.p rfl rfl rfl (P.assign rfl) ?_
  refine WL.nil_ ?_
  refine End.seq ?_
  refine WC.seq ?_
  refine WC.seq ?_
  refine WC.region ?_
  refine WL.p rfl rfl rfl (P.move rfl) ?_
  refine WL.p rfl rfl rfl (P.lenS Tryz.underlying9 rfl) ?_
  refine WL.p rfl rfl rfl (P.cmp rfl rfl rfl) ?_
  refine WL.p rfl rfl rfl (P.move rfl) ?_
  refine WL.split 10 rfl (fun hs10 => ?_) (fun hs10 => ?_)
  ·
    try simp only [decide_eq_true_eq, decide_eq_false_iff_not, beq_iff_eq, beq_eq_false_iff_ne, bne_iff_ne, bne_eq_false_iff_eq, Bool.not_eq_true', Bool.not_eq_false', ne_eq, Int.not_lt, Int.not_le] at hs10
    refine WL.off rfl rfl ?_
    refine WL.off rfl rfl ?_
    refine WL.off rfl rfl ?_
    refine WL.p rfl rfl rfl (P.pickT rfl rfl) ?_
    refine WL.nil_ ?_
    refine End.seq ?_
    refine WC.condT rfl ?_
    refine WC.seq ?_
    refine WC.region ?_
    refine WL.p rfl rfl rfl (P.assign rfl) ?_
    refine WL.nil_ ?_
    refine End.seq ?_
    refine WC.ret ?_
    refine End.thenR ?_
    refine End.ret1 rfl rfl ?_
    exact fun w' hs' => RetV.of (by rw [validB, decide_eq_false (by omega : ¬ 1 ≤ s.size)]; rfl) hs'
  ·
    try simp only [decide_eq_true_eq, decide_eq_false_iff_not, beq_iff_eq, beq_eq_false_iff_ne, bne_iff_ne, bne_eq_false_iff_eq, Bool.not_eq_true', Bool.not_eq_false', ne_eq, Int.not_lt, Int.not_le] at hs10
    refine WL.p rfl rfl rfl (P.move rfl) ?_
    refine WL.p rfl rfl rfl (P.lenS Tryz.underlying9 rfl) ?_
    refine WL.p rfl rfl rfl (P.cmp rfl rfl rfl) ?_
    refine WL.p rfl rfl rfl (P.pickF rfl rfl) ?_
    refine WL.nil_ ?_
    refine End.seq ?_
    refine WC.cond rfl (fun hc14 => ?_) (fun hc14 => ?_)
    ·
      try simp only [decide_eq_true_eq, decide_eq_false_iff_not, beq_iff_eq, beq_eq_false_iff_ne, bne_iff_ne, bne_eq_false_iff_eq, Bool.not_eq_true', Bool.not_eq_false', ne_eq, Int.not_lt, Int.not_le] at hc14
      refine WC.seq ?_
      refine WC.region ?_
      refine WL.p rfl rfl rfl (P.assign rfl) ?_
      refine WL.nil_ ?_
      refine End.seq ?_
      refine WC.ret ?_
      refine End.thenR ?_
      refine End.ret1 rfl rfl ?_
      exact fun w' hs' => RetV.of (by rw [validB, decide_eq_false (by omega : ¬ s.size ≤ 31)]; simp) hs'
    ·
      try simp only [decide_eq_true_eq, decide_eq_false_iff_not, beq_iff_eq, beq_eq_false_iff_ne, bne_iff_ne, bne_eq_false_iff_eq, Bool.not_eq_true', Bool.not_eq_false', ne_eq, Int.not_lt, Int.not_le] at hc14
      refine WC.skip ?_
      refine End.seq ?_
      refine WC.seq ?_
      refine WC.region ?_
      have hpl := spB_lenle s
      refine WL.p rfl rfl rfl (P.move rfl) ?_
      refine WL.callx (ent_of Tryz.func124 rfl rfl) rfl rfl rfl (fun w hs => refParts_any s w (by omega)) (fun p hp => ?_)
      refine WL.p rfl rfl rfl (P.assign rfl) ?_
      refine WL.nil_ ?_
      refine End.seq ?_
      refine WC.seq ?_
      refine WC.seq ?_
      refine WC.region ?_
      refine WL.p rfl rfl rfl (P.assign rfl) ?_
      refine WL.nil_ ?_
      refine End.seq ?_
      refine WC.block ?_
      refine WC.loopD (σ := Nat) (fun k => [(6, .int .i64 (k : Nat))]) (fun k => _) (fun k => k ≤ (spB s.data.toList).length ∧ ((spB s.data.toList).take k).all (partB stars) = true) (fun k => (spB s.data.toList).length - k) 0 ⟨Nat.zero_le _, rfl⟩ (Env.sub_cons rfl (Env.sub_nil)) [0] rfl rfl ?_
      rintro k ⟨hk, ht⟩
      refine WC.seq ?_
      refine WC.seq ?_
      refine WC.region ?_
      refine WL.p rfl rfl rfl (P.move rfl) ?_
      refine WL.p rfl rfl rfl (P.move rfl) ?_
      refine WL.p rfl rfl rfl (P.lenR Tryz.underlying48 rfl) ?_
      refine WL.p rfl rfl rfl (P.cmp rfl rfl rfl) ?_
      refine WL.nil_ ?_
      refine End.seq ?_
      refine WC.cond rfl (fun hc20 => ?_) (fun hc20 => ?_)
      ·
        try simp only [decide_eq_true_eq, decide_eq_false_iff_not, beq_iff_eq, beq_eq_false_iff_ne, bne_iff_ne, bne_eq_false_iff_eq, Bool.not_eq_true', Bool.not_eq_false', ne_eq, Int.not_lt, Int.not_le] at hc20
        obtain ⟨q, hq⟩ := get_of_lt (xs := spB s.data.toList) (k := k) (by omega)
        refine WC.skip ?_
        refine End.seq ?_
        refine WC.seq ?_
        refine WC.block ?_
        refine WC.seq ?_
        refine WC.region ?_
        refine WL.p rfl rfl rfl (P.move rfl) ?_
        refine WL.p rfl rfl rfl (P.move rfl) ?_
        refine WL.p rfl rfl rfl (P.elemAddr Tryz.underlying48 Tryz.sizeOf9 rfl rfl (by omega) (by omega)) ?_
        refine WL.p rfl rfl rfl (P.loadR 0 Tryz.isAgg9 rfl rfl (off := 0 + (k : Int).toNat * 1) (by simpa using strs_get hq)) ?_
        refine WL.p rfl rfl rfl (P.move rfl) ?_
        refine WL.callv (ent_of Tryz.func236 rfl rfl) rfl rfl rfl (fun w hs => refPart_any q stars w (by have := spB_el (List.mem_of_getElem? hq); have e : s.size = s.data.toList.length := rfl; omega)) ?_
        refine WL.p rfl rfl rfl (P.not_ rfl) ?_
        refine WL.nil_ ?_
        refine End.seq ?_
        refine WC.cond rfl (fun hc29 => ?_) (fun hc29 => ?_)
        ·
          try simp only [decide_eq_true_eq, decide_eq_false_iff_not, beq_iff_eq, beq_eq_false_iff_ne, bne_iff_ne, bne_eq_false_iff_eq, Bool.not_eq_true', Bool.not_eq_false', ne_eq, Int.not_lt, Int.not_le] at hc29
          refine WC.seq ?_
          refine WC.region ?_
          refine WL.p rfl rfl rfl (P.assign rfl) ?_
          refine WL.nil_ ?_
          refine End.seq ?_
          refine WC.ret ?_
          refine End.blkR ?_
          refine End.thenR ?_
          refine End.thenR ?_
          refine End.blkR ?_
          refine End.thenR ?_
          refine End.ret1 rfl rfl ?_
          exact fun w' hs' => RetV.of (by rw [validB, spB_all hq (by simpa using hc29)]; simp) hs'
        ·
          try simp only [decide_eq_true_eq, decide_eq_false_iff_not, beq_iff_eq, beq_eq_false_iff_ne, bne_iff_ne, bne_eq_false_iff_eq, Bool.not_eq_true', Bool.not_eq_false', ne_eq, Int.not_lt, Int.not_le] at hc29
          refine WC.skip ?_
          refine End.blkN ?_
          refine End.seq ?_
          refine WC.region ?_
          refine WL.p rfl rfl rfl (P.move rfl) ?_
          refine WL.p rfl rfl rfl (P.ari64 rfl rfl rfl (by omega)) ?_
          refine WL.p rfl rfl rfl (P.assign rfl) ?_
          refine WL.nil_ ?_
          refine End.againD (k + 1) ?_ ?_ rfl (Env.sub_cons rfl (Env.sub_nil)) rfl [0] rfl rfl
          · exact ⟨by omega, by rw [all_snoc hq, ht, Bool.true_and]; simpa using hc29⟩
          · omega
      ·
        try simp only [decide_eq_true_eq, decide_eq_false_iff_not, beq_iff_eq, beq_eq_false_iff_ne, bne_iff_ne, bne_eq_false_iff_eq, Bool.not_eq_true', Bool.not_eq_false', ne_eq, Int.not_lt, Int.not_le] at hc20
        refine WC.exit ?_
        refine End.thenX ?_
        refine End.thenX ?_
        refine End.blkX ?_
        refine End.seq ?_
        refine WC.seq ?_
        refine WC.region ?_
        refine WL.p rfl rfl rfl (P.assign rfl) ?_
        refine WL.nil_ ?_
        refine End.seq ?_
        refine WC.ret ?_
        refine End.ret1 rfl rfl ?_
        have e : k = (spB s.data.toList).length := by omega
        rw [e, List.take_length] at ht
        exact fun w' hs' => RetV.of (by rw [validB, ht, decide_eq_true (by omega : 1 ≤ s.size), decide_eq_true (by omega : s.size ≤ 31)]; rfl) hs'

set_option maxRecDepth 100000 in
theorem refValid_any (s : ByteArray) (w : World) :
    Calls Tryz.prog 117 #[.string s] w (RetV w (.bool (validB false s))) := by
  refine enter Tryz.func117 rfl Tryz.ntmps117 rfl ?_
  refine WC.seq ?_
  refine WC.region ?_
  refine WL.p rfl rfl rfl (P.assign rfl) ?_
  refine WL.nil_ ?_
  refine End.seq ?_
  refine WC.seq ?_
  refine WC.region ?_
  refine WL.p rfl rfl rfl (P.move rfl) ?_
  refine WL.callv (ent_of Tryz.func148 rfl rfl) rfl rfl rfl (fun w hs => refValid1_any s false w) ?_
  refine WL.p rfl rfl rfl (P.assign rfl) ?_
  refine WL.nil_ ?_
  refine End.seq ?_
  refine WC.ret ?_
  refine End.ret1 rfl rfl ?_
  exact fun w' hs' => RetV.of rfl hs'

set_option maxRecDepth 100000 in
theorem refValidPattern_any (s : ByteArray) (w : World) :
    Calls Tryz.prog 59 #[.string s] w (RetV w (.bool (validB true s))) := by
  refine enter Tryz.func59 rfl Tryz.ntmps59 rfl ?_
  refine WC.seq ?_
  refine WC.region ?_
  refine WL.p rfl rfl rfl (P.assign rfl) ?_
  refine WL.nil_ ?_
  refine End.seq ?_
  refine WC.seq ?_
  refine WC.region ?_
  refine WL.p rfl rfl rfl (P.move rfl) ?_
  refine WL.callv (ent_of Tryz.func148 rfl rfl) rfl rfl rfl (fun w hs => refValid1_any s true w) ?_
  refine WL.p rfl rfl rfl (P.assign rfl) ?_
  refine WL.nil_ ?_
  refine End.seq ?_
  refine WC.ret ?_
  refine End.ret1 rfl rfl ?_
  exact fun w' hs' => RetV.of rfl hs'

def rgroupB (s : ByteArray) : Bool := validB false s && (decide (s.size ≤ 22) && !((spB s.data.toList).any isGenQ))
theorem validB_size {stars : Bool} {s : ByteArray} (h : validB stars s = true) : 1 ≤ s.size ∧ s.size ≤ 31 := by
  unfold validB at h
  rw [Bool.and_eq_true, Bool.and_eq_true, decide_eq_true_eq, decide_eq_true_eq] at h
  exact ⟨h.1, h.2.1⟩
theorem any_hit {l : List ByteArray} {k : Nat} {x : ByteArray} {p : ByteArray → Bool} (hx : l[k]? = some x) (h : p x = true) : l.any p = true := idx_hit hx h

set_option maxRecDepth 100000 in
theorem refIsGroup_any (s : ByteArray) (w : World) :
    Calls Tryz.prog 122 #[.string s] w (RetV w (.bool (rgroupB s))) := by
  refine enter Tryz.func122 rfl Tryz.ntmps122 rfl ?_
  refine WC.seq ?_
  refine WC.region ?_
  refine WL.p rfl rfl rfl (P.assign rfl) ?_
  refine WL.nil_ ?_
  refine End.seq ?_
  refine WC.seq ?_
  refine WC.seq ?_
  refine WC.region ?_
  refine WL.p rfl rfl rfl (P.move rfl) ?_
  refine WL.callv (ent_of Tryz.func117 rfl rfl) rfl rfl rfl (fun w hs => refValid_any s w) ?_
  refine WL.p rfl rfl rfl (P.not_ rfl) ?_
  refine WL.p rfl rfl rfl (P.move rfl) ?_
  refine WL.split 8 rfl (fun hs8 => ?_) (fun hs8 => ?_)
  ·
    try simp only [decide_eq_true_eq, decide_eq_false_iff_not, beq_iff_eq, beq_eq_false_iff_ne, bne_iff_ne, bne_eq_false_iff_eq, Bool.not_eq_true', Bool.not_eq_false', ne_eq, Int.not_lt, Int.not_le] at hs8
    refine WL.off rfl rfl ?_
    refine WL.off rfl rfl ?_
    refine WL.off rfl rfl ?_
    refine WL.p rfl rfl rfl (P.pickT rfl rfl) ?_
    refine WL.nil_ ?_
    refine End.seq ?_
    refine WC.condT rfl ?_
    refine WC.seq ?_
    refine WC.region ?_
    refine WL.p rfl rfl rfl (P.assign rfl) ?_
    refine WL.nil_ ?_
    refine End.seq ?_
    refine WC.ret ?_
    refine End.thenR ?_
    refine End.ret1 rfl rfl ?_
    exact fun w' hs' => RetV.of (by rw [rgroupB, hs8]; rfl) hs'
  ·
    try simp only [decide_eq_true_eq, decide_eq_false_iff_not, beq_iff_eq, beq_eq_false_iff_ne, bne_iff_ne, bne_eq_false_iff_eq, Bool.not_eq_true', Bool.not_eq_false', ne_eq, Int.not_lt, Int.not_le] at hs8
    refine WL.p rfl rfl rfl (P.move rfl) ?_
    refine WL.p rfl rfl rfl (P.lenS Tryz.underlying9 rfl) ?_
    refine WL.p rfl rfl rfl (P.cmp rfl rfl rfl) ?_
    refine WL.p rfl rfl rfl (P.pickF rfl rfl) ?_
    refine WL.nil_ ?_
    refine End.seq ?_
    refine WC.cond rfl (fun hc12 => ?_) (fun hc12 => ?_)
    ·
      try simp only [decide_eq_true_eq, decide_eq_false_iff_not, beq_iff_eq, beq_eq_false_iff_ne, bne_iff_ne, bne_eq_false_iff_eq, Bool.not_eq_true', Bool.not_eq_false', ne_eq, Int.not_lt, Int.not_le] at hc12
      refine WC.seq ?_
      refine WC.region ?_
      refine WL.p rfl rfl rfl (P.assign rfl) ?_
      refine WL.nil_ ?_
      refine End.seq ?_
      refine WC.ret ?_
      refine End.thenR ?_
      refine End.ret1 rfl rfl ?_
      exact fun w' hs' => RetV.of (by rw [rgroupB, decide_eq_false (by omega : ¬ s.size ≤ 22)]; simp) hs'
    ·
      try simp only [decide_eq_true_eq, decide_eq_false_iff_not, beq_iff_eq, beq_eq_false_iff_ne, bne_iff_ne, bne_eq_false_iff_eq, Bool.not_eq_true', Bool.not_eq_false', ne_eq, Int.not_lt, Int.not_le] at hc12
      refine WC.skip ?_
      refine End.seq ?_
      refine WC.seq ?_
      refine WC.region ?_
      have hpl := spB_lenle s
      have hv := validB_size hs8
      refine WL.p rfl rfl rfl (P.move rfl) ?_
      refine WL.callx (ent_of Tryz.func124 rfl rfl) rfl rfl rfl (fun w hs => refParts_any s w (by omega)) (fun p hp => ?_)
      refine WL.p rfl rfl rfl (P.assign rfl) ?_
      refine WL.nil_ ?_
      refine End.seq ?_
      refine WC.seq ?_
      refine WC.seq ?_
      refine WC.region ?_
      refine WL.p rfl rfl rfl (P.assign rfl) ?_
      refine WL.nil_ ?_
      refine End.seq ?_
      refine WC.block ?_
      refine WC.loopD (σ := Nat) (fun k => [(4, .int .i64 (k : Nat))]) (fun k => _) (fun k => k ≤ (spB s.data.toList).length ∧ ((spB s.data.toList).take k).any isGenQ = false) (fun k => (spB s.data.toList).length - k) 0 ⟨Nat.zero_le _, rfl⟩ (Env.sub_cons rfl (Env.sub_nil)) [0] rfl rfl ?_
      rintro k ⟨hk, ht⟩
      refine WC.seq ?_
      refine WC.seq ?_
      refine WC.region ?_
      refine WL.p rfl rfl rfl (P.move rfl) ?_
      refine WL.p rfl rfl rfl (P.move rfl) ?_
      refine WL.p rfl rfl rfl (P.lenR Tryz.underlying48 rfl) ?_
      refine WL.p rfl rfl rfl (P.cmp rfl rfl rfl) ?_
      refine WL.nil_ ?_
      refine End.seq ?_
      refine WC.cond rfl (fun hc18 => ?_) (fun hc18 => ?_)
      ·
        try simp only [decide_eq_true_eq, decide_eq_false_iff_not, beq_iff_eq, beq_eq_false_iff_ne, bne_iff_ne, bne_eq_false_iff_eq, Bool.not_eq_true', Bool.not_eq_false', ne_eq, Int.not_lt, Int.not_le] at hc18
        obtain ⟨q, hq⟩ := get_of_lt (xs := spB s.data.toList) (k := k) (by omega)
        refine WC.skip ?_
        refine End.seq ?_
        refine WC.seq ?_
        refine WC.block ?_
        refine WC.seq ?_
        refine WC.region ?_
        refine WL.p rfl rfl rfl (P.move rfl) ?_
        refine WL.p rfl rfl rfl (P.move rfl) ?_
        refine WL.p rfl rfl rfl (P.elemAddr Tryz.underlying48 Tryz.sizeOf9 rfl rfl (by omega) (by omega)) ?_
        refine WL.p rfl rfl rfl (P.loadR 0 Tryz.isAgg9 rfl rfl (off := 0 + (k : Int).toNat * 1) (by simpa using strs_get hq)) ?_
        refine WL.callv (ent_of Tryz.func215 rfl rfl) rfl rfl rfl (fun w hs => refNumber_any q w (by have := spB_el (List.mem_of_getElem? hq); have e : s.size = s.data.toList.length := rfl; omega)) ?_
        refine WL.p rfl rfl rfl (P.cmp rfl rfl rfl) ?_
        refine WL.nil_ ?_
        refine End.seq ?_
        refine WC.cond rfl (fun hc26 => ?_) (fun hc26 => ?_)
        ·
          try simp only [decide_eq_true_eq, decide_eq_false_iff_not, beq_iff_eq, beq_eq_false_iff_ne, bne_iff_ne, bne_eq_false_iff_eq, Bool.not_eq_true', Bool.not_eq_false', ne_eq, Int.not_lt, Int.not_le] at hc26
          refine WC.seq ?_
          refine WC.region ?_
          refine WL.p rfl rfl rfl (P.assign rfl) ?_
          refine WL.nil_ ?_
          refine End.seq ?_
          refine WC.ret ?_
          refine End.blkR ?_
          refine End.thenR ?_
          refine End.thenR ?_
          refine End.blkR ?_
          refine End.thenR ?_
          refine End.ret1 rfl rfl ?_
          exact fun w' hs' => RetV.of (by rw [rgroupB, any_hit hq (decide_eq_true (by omega))]; simp) hs'
        ·
          try simp only [decide_eq_true_eq, decide_eq_false_iff_not, beq_iff_eq, beq_eq_false_iff_ne, bne_iff_ne, bne_eq_false_iff_eq, Bool.not_eq_true', Bool.not_eq_false', ne_eq, Int.not_lt, Int.not_le] at hc26
          refine WC.skip ?_
          refine End.blkN ?_
          refine End.seq ?_
          refine WC.region ?_
          refine WL.p rfl rfl rfl (P.move rfl) ?_
          refine WL.p rfl rfl rfl (P.ari64 rfl rfl rfl (by omega)) ?_
          refine WL.p rfl rfl rfl (P.assign rfl) ?_
          refine WL.nil_ ?_
          refine End.againD (k + 1) ?_ ?_ rfl (Env.sub_cons rfl (Env.sub_nil)) rfl [0] rfl rfl
          · exact ⟨by omega, by rw [any_false_snoc hq, ht, Bool.false_or]; simp only [isGenQ]; exact decide_eq_false (by omega)⟩
          · omega
      ·
        try simp only [decide_eq_true_eq, decide_eq_false_iff_not, beq_iff_eq, beq_eq_false_iff_ne, bne_iff_ne, bne_eq_false_iff_eq, Bool.not_eq_true', Bool.not_eq_false', ne_eq, Int.not_lt, Int.not_le] at hc18
        refine WC.exit ?_
        refine End.thenX ?_
        refine End.thenX ?_
        refine End.blkX ?_
        refine End.seq ?_
        refine WC.seq ?_
        refine WC.region ?_
        refine WL.p rfl rfl rfl (P.assign rfl) ?_
        refine WL.nil_ ?_
        refine End.seq ?_
        refine WC.ret ?_
        refine End.ret1 rfl rfl ?_
        have e : k = (spB s.data.toList).length := by omega
        rw [e, List.take_length] at ht
        exact fun w' hs' => RetV.of (by rw [rgroupB, ht, hs8, decide_eq_true (by omega : s.size ≤ 22)]; rfl) hs'

/-- Texts with full stops between them. -/
def joinB : List ByteArray → ByteArray
  | [] => ⟨#[]⟩
  | x :: r => r.foldl (fun s y => s ++ dot ++ y) x
theorem joinB_snoc {l : List ByteArray} (h : l ≠ []) (y : ByteArray) : joinB (l ++ [y]) = joinB l ++ dot ++ y := by
  cases l with
  | nil => exact absurd rfl h
  | cons x r => simp [joinB, List.foldl_append]
def sizes (l : List ByteArray) : Nat := (l.map (fun x => x.size + 1)).sum
theorem mkB_size (l : List UInt8) : (mkB l).size = l.length := by
  show l.toArray.size = _
  simp
theorem sizes_cons (x : ByteArray) (l : List ByteArray) : sizes (x :: l) = x.size + 1 + sizes l := by simp [sizes]
theorem sizes_app (a b : List ByteArray) : sizes (a ++ b) = sizes a + sizes b := by simp [sizes]
theorem joinB_size : ∀ (n : Nat) (l : List ByteArray), l.length = n → (joinB l).size ≤ sizes l
  | 0, l, h => by
    have : l = [] := List.length_eq_zero_iff.1 h
    subst this
    exact Nat.le_refl _
  | n + 1, l, h => by
    have hne : l ≠ [] := by intro e; subst e; cases h
    obtain ⟨a, y, rfl⟩ : ∃ a y, l = a ++ [y] := ⟨l.dropLast, l.getLast hne, (List.dropLast_concat_getLast hne).symm⟩
    have ih := joinB_size n a (by simpa using h)
    by_cases ha : a = []
    · subst ha
      simp [joinB, sizes]
    · rw [joinB_snoc ha, sizes_app, ByteArray.size_append, ByteArray.size_append]
      have e1 : (dot : ByteArray).size = 1 := rfl
      have e2 : sizes [y] = y.size + 1 := by simp [sizes]
      omega
theorem sizes_take (l : List ByteArray) (k : Nat) : sizes (l.take k) ≤ sizes l := by
  conv => rhs; rw [← List.take_append_drop k l, sizes_app]
  omega
theorem sizes_spB : ∀ l : List UInt8, sizes (spB l) = l.length + 1
  | [] => rfl
  | c :: r => by
    have ih := sizes_spB r
    unfold spB sp
    split
    · simp only [List.map_cons]
      have : sizes (mkB [] :: (sp r).map mkB) = 1 + sizes (spB r) := by rw [sizes_cons, mkB_size]; simp [spB]
      rw [this, ih]; simp; omega
    · split
      · rename_i h t e
        have h2 : sizes (spB r) = h.length + 1 + sizes (t.map mkB) := by rw [spB, e, List.map_cons, sizes_cons, mkB_size]
        have h3 : sizes (((c :: h) :: t).map mkB) = h.length + 1 + 1 + sizes (t.map mkB) := by rw [List.map_cons, sizes_cons, mkB_size]; simp
        rw [h3]; simp only [List.length_cons]; omega
      · rename_i e
        exact absurd e (sp_ne r)

set_option maxRecDepth 100000 in
theorem refJoin_any (A : Option Addr) (c : Nat) (xs : List ByteArray) (w : World) (hr : Sl encS 1 w A xs) (hz : sizes xs < 4294967290) :
    Calls Tryz.prog 214 #[.slice A xs.length c] w (RetV w (.string (joinB xs))) := by
  have hl := hr.1
  refine enter Tryz.func214 rfl Tryz.ntmps214 rfl ?_
  refine WC.seq ?_
  refine WC.region ?_
  refine WL.p rfl rfl rfl (P.assign rfl) ?_
  refine WL.nil_ ?_
  refine End.seq ?_
  refine WC.seq ?_
  refine WC.region ?_
  refine WL.p rfl rfl rfl (P.assign rfl) ?_
  refine WL.nil_ ?_
  refine End.seq ?_
  refine WC.seq ?_
  refine WC.seq ?_
  refine WC.region ?_
  refine WL.p rfl rfl rfl (P.assign rfl) ?_
  refine WL.nil_ ?_
  refine End.seq ?_
  refine WC.block ?_
  refine WC.loopD (σ := Nat) (fun k => [(4, .int .i64 (k : Nat)), (3, .string (joinB (xs.take k)))]) (fun k => []) (fun k => k ≤ xs.length) (fun k => xs.length - k) 0 (Nat.zero_le _) (Env.sub_cons rfl (Env.sub_cons rfl (Env.sub_nil))) [] rfl rfl ?_
  rintro k hk
  refine WC.seq ?_
  refine WC.seq ?_
  refine WC.region ?_
  refine WL.p rfl rfl rfl (P.move rfl) ?_
  refine WL.p rfl rfl rfl (P.move rfl) ?_
  refine WL.p rfl rfl rfl (P.lenR Tryz.underlying48 rfl) ?_
  refine WL.p rfl rfl rfl (P.cmp rfl rfl rfl) ?_
  refine WL.nil_ ?_
  refine End.seq ?_
  refine WC.cond rfl (fun hc8 => ?_) (fun hc8 => ?_)
  ·
    try simp only [decide_eq_true_eq, decide_eq_false_iff_not, beq_iff_eq, beq_eq_false_iff_ne, bne_iff_ne, bne_eq_false_iff_eq, Bool.not_eq_true', Bool.not_eq_false', ne_eq, Int.not_lt, Int.not_le] at hc8
    obtain ⟨b, off, rfl, hcx⟩ := hr.at_ (by omega)
    obtain ⟨x, hx⟩ := get_of_lt (xs := xs) (k := k) (by omega)
    have hj1 := joinB_size _ (xs.take k) rfl
    have hj2 : sizes (xs.take k) + (x.size + 1) ≤ sizes xs := by have := sizes_take xs (k + 1); rw [take_snoc hx, sizes_app] at this; have e2 : sizes [x] = x.size + 1 := (by simp [sizes]); omega
    have hdot : (dot : ByteArray).size = 1 := rfl
    refine WC.skip ?_
    refine End.seq ?_
    refine WC.seq ?_
    refine WC.block ?_
    refine WC.seq ?_
    refine WC.seq ?_
    refine WC.region ?_
    refine WL.p rfl rfl rfl (P.move rfl) ?_
    refine WL.p rfl rfl rfl (P.cmp rfl rfl rfl) ?_
    refine WL.nil_ ?_
    refine End.seq ?_
    refine WC.cond rfl (fun hc12 => ?_) (fun hc12 => ?_)
    ·
      try simp only [decide_eq_true_eq, decide_eq_false_iff_not, beq_iff_eq, beq_eq_false_iff_ne, bne_iff_ne, bne_eq_false_iff_eq, Bool.not_eq_true', Bool.not_eq_false', ne_eq, Int.not_lt, Int.not_le] at hc12
      have hj : joinB (xs.take k) ++ dot ++ x = joinB (xs.take (k + 1)) := by rw [take_snoc hx, joinB_snoc (by intro e; have := congrArg List.length e; rw [List.length_take, List.length_nil] at this; omega)]
      refine WC.region ?_
      refine WL.p rfl rfl rfl (P.move rfl) ?_
      refine WL.p rfl rfl rfl (P.cat rfl rfl (show _ + 1 ≤ 9223372036854775807 by omega)) ?_
      refine WL.p rfl rfl rfl (P.assign rfl) ?_
      refine WL.nil_ ?_
      refine End.seq ?_
      refine WC.region ?_
      refine WL.p rfl rfl rfl (P.move rfl) ?_
      refine WL.p rfl rfl rfl (P.move rfl) ?_
      refine WL.p rfl rfl rfl (P.move rfl) ?_
      refine WL.p rfl rfl rfl (P.elemAddr Tryz.underlying48 Tryz.sizeOf9 rfl rfl (by omega) (by omega)) ?_
      refine WL.p rfl rfl rfl (P.loadB Tryz.isAgg9 rfl (hcx k x hx 0 _ rfl)) ?_
      refine WL.p rfl rfl rfl (P.cat rfl rfl (by first | omega | (rw [ByteArray.size_append]; show _ + 1 + _ ≤ 9223372036854775807; omega))) ?_
      refine WL.p rfl rfl rfl (P.assign rfl) ?_
      refine WL.nil_ ?_
      refine End.blkN ?_
      refine End.seq ?_
      refine WC.region ?_
      refine WL.is 3 rfl (congrArg Value.string hj) ?_
      refine WL.p rfl rfl rfl (P.move rfl) ?_
      refine WL.p rfl rfl rfl (P.ari64 rfl rfl rfl (by omega)) ?_
      refine WL.p rfl rfl rfl (P.assign rfl) ?_
      refine WL.nil_ ?_
      refine End.againD (k + 1) ?_ ?_ rfl (Env.sub_cons rfl (Env.sub_cons rfl (Env.sub_nil))) rfl [] rfl rfl
      · exact (by omega : k + 1 ≤ xs.length)
      · omega
    ·
      try simp only [decide_eq_true_eq, decide_eq_false_iff_not, beq_iff_eq, beq_eq_false_iff_ne, bne_iff_ne, bne_eq_false_iff_eq, Bool.not_eq_true', Bool.not_eq_false', ne_eq, Int.not_lt, Int.not_le] at hc12
      have hj : joinB (xs.take k) ++ x = joinB (xs.take (k + 1)) := by have e : k = 0 := (by omega); subst e; rw [take_snoc hx]; exact ByteArray.empty_append
      refine WC.skip ?_
      refine End.seq ?_
      refine WC.region ?_
      refine WL.p rfl rfl rfl (P.move rfl) ?_
      refine WL.p rfl rfl rfl (P.move rfl) ?_
      refine WL.p rfl rfl rfl (P.move rfl) ?_
      refine WL.p rfl rfl rfl (P.elemAddr Tryz.underlying48 Tryz.sizeOf9 rfl rfl (by omega) (by omega)) ?_
      refine WL.p rfl rfl rfl (P.loadB Tryz.isAgg9 rfl (hcx k x hx 0 _ rfl)) ?_
      refine WL.p rfl rfl rfl (P.cat rfl rfl (by first | omega | (rw [ByteArray.size_append]; show _ + 1 + _ ≤ 9223372036854775807; omega))) ?_
      refine WL.p rfl rfl rfl (P.assign rfl) ?_
      refine WL.nil_ ?_
      refine End.blkN ?_
      refine End.seq ?_
      refine WC.region ?_
      refine WL.is 3 rfl (congrArg Value.string hj) ?_
      refine WL.p rfl rfl rfl (P.move rfl) ?_
      refine WL.p rfl rfl rfl (P.ari64 rfl rfl rfl (by omega)) ?_
      refine WL.p rfl rfl rfl (P.assign rfl) ?_
      refine WL.nil_ ?_
      refine End.againD (k + 1) ?_ ?_ rfl (Env.sub_cons rfl (Env.sub_cons rfl (Env.sub_nil))) rfl [] rfl rfl
      · exact (by omega : k + 1 ≤ xs.length)
      · omega
  ·
    try simp only [decide_eq_true_eq, decide_eq_false_iff_not, beq_iff_eq, beq_eq_false_iff_ne, bne_iff_ne, bne_eq_false_iff_eq, Bool.not_eq_true', Bool.not_eq_false', ne_eq, Int.not_lt, Int.not_le] at hc8
    refine WC.exit ?_
    refine End.thenX ?_
    refine End.thenX ?_
    refine End.blkX ?_
    refine End.seq ?_
    refine WC.seq ?_
    refine WC.region ?_
    refine WL.p rfl rfl rfl (P.move rfl) ?_
    refine WL.p rfl rfl rfl (P.assign rfl) ?_
    refine WL.nil_ ?_
    refine End.seq ?_
    refine WC.ret ?_
    refine End.ret1 rfl rfl ?_
    have e : k = xs.length := by omega
    rw [e, List.take_length]
    exact fun w' hs' => RetV.of rfl hs'

/-- The group and the number of a generation's name. -/
def rsplitB (s : ByteArray) : ByteArray × Int × Bool :=
  if genNum ((spB s.data.toList).getLast?.getD ⟨#[]⟩).data.toList = 0 ∨ rgroupB (joinB ((spB s.data.toList).take ((spB s.data.toList).length - 1))) = false then (⟨#[]⟩, 0, false) else (joinB ((spB s.data.toList).take ((spB s.data.toList).length - 1)), genNum ((spB s.data.toList).getLast?.getD ⟨#[]⟩).data.toList, true)
theorem last_of {l : List ByteArray} (h : 0 < l.length) : l[l.length - 1]? = some (l.getLast?.getD ⟨#[]⟩) := by
  rw [List.getLast?_eq_getElem?, List.getElem?_eq_getElem (by omega)]; rfl
set_option maxRecDepth 100000 in
theorem refSplit_any (s : ByteArray) (w : World) (hsz : s.size < 4294967281) :
    Calls Tryz.prog 118 #[.string s] w (RetV w (.tuple #[.string (rsplitB s).1, .int .i64 (rsplitB s).2.1, .bool (rsplitB s).2.2])) := by
  have hl : s.size = s.data.toList.length := rfl
  refine enter Tryz.func118 rfl Tryz.ntmps118 rfl ?_
  refine WC.seq ?_
  refine WC.region ?_
  refine WL.p rfl rfl rfl (P.assign rfl) ?_
  refine WL.p rfl rfl rfl (P.assign rfl) ?_
  refine WL.p rfl rfl rfl (P.assign rfl) ?_
  refine WL.nil_ ?_
  refine End.seq ?_
  refine WC.seq ?_
  refine WC.region ?_
  refine WL.p rfl rfl rfl (P.move rfl) ?_
  refine WL.callx (ent_of Tryz.func124 rfl rfl) rfl rfl rfl (fun w hs => refParts_any s w (by omega)) (fun p hp => ?_)
  refine WL.p rfl rfl rfl (P.assign rfl) ?_
  refine WL.nil_ ?_
  refine End.seq ?_
  refine WC.seq ?_
  refine WC.quiet (by kernel_rfl) ?_
  have hpl := spB_lenle s
  have hpos := spB_pos s.data.toList
  refine WQ.p rfl rfl rfl (P.move rfl) ?_
  refine WQ.p rfl rfl rfl (P.move rfl) ?_
  refine WQ.p rfl rfl rfl (P.lenR Tryz.underlying48 rfl) ?_
  refine WQ.p rfl rfl rfl (P.ari64 rfl rfl rfl (by omega)) ?_
  refine WQ.p rfl rfl rfl (P.cutH Tryz.underlying48 Tryz.sizeOf9 rfl rfl (by omega) (by omega)) ?_
  refine WQ.is 14 rfl (congrArg (fun q => Value.slice (some ⟨p.1, 0, none⟩) q p.2) (show _ = ((spB s.data.toList).take ((spB s.data.toList).length - 1)).length from by rw [List.length_take]; omega)) ?_
  refine WQ.callv (ent_of Tryz.func214 rfl rfl) rfl rfl rfl (fun w hs => refJoin_any _ _ _ w ((slS_item hs (j := 0) rfl (by omega)).take _) (by have := sizes_take (spB s.data.toList) ((spB s.data.toList).length - 1); rw [sizes_spB] at this; omega)) ?_
  refine WQ.p rfl rfl rfl (P.move rfl) ?_
  refine WQ.p rfl rfl rfl (P.move rfl) ?_
  refine WQ.p rfl rfl rfl (P.lenR Tryz.underlying48 rfl) ?_
  refine WQ.p rfl rfl rfl (P.ari64 rfl rfl rfl (by omega)) ?_
  refine WQ.p rfl rfl rfl (P.elemAddr Tryz.underlying48 Tryz.sizeOf9 rfl rfl (by omega) (by omega)) ?_
  refine WQ.p rfl rfl rfl (P.loadR 0 Tryz.isAgg9 rfl rfl (off := 0 + ((((spB s.data.toList).length : Nat) : Int) - 1).toNat * 1) (by rw [show 0 + ((((spB s.data.toList).length : Nat) : Int) - 1).toNat * 1 = (spB s.data.toList).length - 1 by omega]; exact strs_get (last_of hpos))) ?_
  refine WQ.callv (ent_of Tryz.func215 rfl rfl) rfl rfl rfl (fun w hs => refNumber_any _ w (by have := spB_el (List.mem_of_getElem? (last_of hpos)); omega)) ?_
  refine WQ.p rfl rfl rfl (P.assign rfl) ?_
  refine WQ.p rfl rfl rfl (P.assign rfl) ?_
  refine WQ.nil_ ?_
  refine End.seq ?_
  refine WC.seq ?_
  refine WC.seq ?_
  refine WC.region ?_
  refine WL.p rfl rfl rfl (P.move rfl) ?_
  refine WL.p rfl rfl rfl (P.cmp rfl rfl rfl) ?_
  refine WL.p rfl rfl rfl (P.move rfl) ?_
  refine WL.split 25 rfl (fun hs25 => ?_) (fun hs25 => ?_)
  ·
    try simp only [decide_eq_true_eq, decide_eq_false_iff_not, beq_iff_eq, beq_eq_false_iff_ne, bne_iff_ne, bne_eq_false_iff_eq, Bool.not_eq_true', Bool.not_eq_false', ne_eq, Int.not_lt, Int.not_le] at hs25
    refine WL.off rfl rfl ?_
    refine WL.off rfl rfl ?_
    refine WL.off rfl rfl ?_
    refine WL.p rfl rfl rfl (P.pickT rfl rfl) ?_
    refine WL.nil_ ?_
    refine End.seq ?_
    refine WC.condT rfl ?_
    refine WC.seq ?_
    refine WC.region ?_
    refine WL.p rfl rfl rfl (P.assign rfl) ?_
    refine WL.p rfl rfl rfl (P.assign rfl) ?_
    refine WL.p rfl rfl rfl (P.assign rfl) ?_
    refine WL.nil_ ?_
    refine End.seq ?_
    refine WC.ret ?_
    refine End.thenR ?_
    refine End.ret3 rfl rfl rfl rfl ?_
    exact fun w' hs' => RetV.of (by rw [rsplitB, if_pos (.inl hs25)]) hs'
  ·
    try simp only [decide_eq_true_eq, decide_eq_false_iff_not, beq_iff_eq, beq_eq_false_iff_ne, bne_iff_ne, bne_eq_false_iff_eq, Bool.not_eq_true', Bool.not_eq_false', ne_eq, Int.not_lt, Int.not_le] at hs25
    refine WL.p rfl rfl rfl (P.move rfl) ?_
    refine WL.callv (ent_of Tryz.func122 rfl rfl) rfl rfl rfl (fun w hs => refIsGroup_any (joinB ((spB s.data.toList).take ((spB s.data.toList).length - 1))) w) ?_
    refine WL.p rfl rfl rfl (P.not_ rfl) ?_
    refine WL.p rfl rfl rfl (P.pickF rfl rfl) ?_
    refine WL.nil_ ?_
    refine End.seq ?_
    refine WC.cond rfl (fun hc29 => ?_) (fun hc29 => ?_)
    ·
      try simp only [decide_eq_true_eq, decide_eq_false_iff_not, beq_iff_eq, beq_eq_false_iff_ne, bne_iff_ne, bne_eq_false_iff_eq, Bool.not_eq_true', Bool.not_eq_false', ne_eq, Int.not_lt, Int.not_le] at hc29
      refine WC.seq ?_
      refine WC.region ?_
      refine WL.p rfl rfl rfl (P.assign rfl) ?_
      refine WL.p rfl rfl rfl (P.assign rfl) ?_
      refine WL.p rfl rfl rfl (P.assign rfl) ?_
      refine WL.nil_ ?_
      refine End.seq ?_
      refine WC.ret ?_
      refine End.thenR ?_
      refine End.ret3 rfl rfl rfl rfl ?_
      exact fun w' hs' => RetV.of (by rw [rsplitB, if_pos (.inr hc29)]) hs'
    ·
      try simp only [decide_eq_true_eq, decide_eq_false_iff_not, beq_iff_eq, beq_eq_false_iff_ne, bne_iff_ne, bne_eq_false_iff_eq, Bool.not_eq_true', Bool.not_eq_false', ne_eq, Int.not_lt, Int.not_le] at hc29
      refine WC.skip ?_
      refine End.seq ?_
      refine WC.seq ?_
      refine WC.region ?_
      refine WL.p rfl rfl rfl (P.move rfl) ?_
      refine WL.p rfl rfl rfl (P.move rfl) ?_
      refine WL.p rfl rfl rfl (P.assign rfl) ?_
      refine WL.p rfl rfl rfl (P.assign rfl) ?_
      refine WL.p rfl rfl rfl (P.assign rfl) ?_
      refine WL.nil_ ?_
      refine End.seq ?_
      refine WC.ret ?_
      refine End.ret3 rfl rfl rfl rfl ?_
      exact fun w' hs' => RetV.of (by rw [rsplitB, if_neg (by rw [hc29]; simp [hs25])]) hs'

def qualR (s : ByteArray) : Bool := validB false s && decide ((spB s.data.toList).length = 1)

set_option maxRecDepth 100000 in
theorem refQualifier_any (s : ByteArray) (w : World) :
    Calls Tryz.prog 218 #[.string s] w (RetV w (.bool (qualR s))) := by
  refine enter Tryz.func218 rfl Tryz.ntmps218 rfl ?_
  refine WC.seq ?_
  refine WC.region ?_
  refine WL.p rfl rfl rfl (P.assign rfl) ?_
  refine WL.nil_ ?_
  refine End.seq ?_
  refine WC.seq ?_
  refine WC.region ?_
  refine WL.p rfl rfl rfl (P.move rfl) ?_
  refine WL.callv (ent_of Tryz.func117 rfl rfl) rfl rfl rfl (fun w hs => refValid_any s w) ?_
  refine WL.p rfl rfl rfl (P.move rfl) ?_
  refine WL.split 5 rfl (fun hs5 => ?_) (fun hs5 => ?_)
  ·
    refine WL.p rfl rfl rfl (P.move rfl) ?_
    refine WL.callx (ent_of Tryz.func124 rfl rfl) rfl rfl rfl (fun w hs => refParts_any s w (by have := validB_size hs5; omega)) (fun p hp => ?_)
    refine WL.p rfl rfl rfl (P.lenR Tryz.underlying48 rfl) ?_
    refine WL.p rfl rfl rfl (P.cmp rfl rfl rfl) ?_
    refine WL.p rfl rfl rfl (P.pickT rfl rfl) ?_
    refine WL.p rfl rfl rfl (P.assign rfl) ?_
    refine WL.nil_ ?_
    refine End.seq ?_
    refine WC.ret ?_
    refine End.ret1 rfl rfl ?_
    exact fun w' hs' => RetV.of (by rw [qualR, hs5, Bool.true_and]; congr 1; rw [Bool.eq_iff_iff]; simp; omega) hs'
  ·
    refine WL.off rfl rfl ?_
    refine WL.off rfl rfl ?_
    refine WL.off rfl rfl ?_
    refine WL.off rfl rfl ?_
    refine WL.p rfl rfl rfl (P.pickF rfl rfl) ?_
    refine WL.p rfl rfl rfl (P.assign rfl) ?_
    refine WL.nil_ ?_
    refine End.seq ?_
    refine WC.ret ?_
    refine End.ret1 rfl rfl ?_
    exact fun w' hs' => RetV.of (by rw [qualR, hs5]; rfl) hs'

def ownerR (s : ByteArray) : Bool := (s.toList == (⟨#[]⟩ : ByteArray).toList) || qualR s

set_option maxRecDepth 100000 in
theorem refOwner_any (s : ByteArray) (w : World) :
    Calls Tryz.prog 123 #[.string s] w (RetV w (.bool (ownerR s))) := by
  refine enter Tryz.func123 rfl Tryz.ntmps123 rfl ?_
  refine WC.seq ?_
  refine WC.region ?_
  refine WL.p rfl rfl rfl (P.assign rfl) ?_
  refine WL.nil_ ?_
  refine End.seq ?_
  refine WC.seq ?_
  refine WC.region ?_
  refine WL.p rfl rfl rfl (P.move rfl) ?_
  refine WL.p rfl rfl rfl (P.cmps rfl rfl rfl) ?_
  refine WL.p rfl rfl rfl (P.move rfl) ?_
  refine WL.split 5 rfl (fun hs5 => ?_) (fun hs5 => ?_)
  ·
    refine WL.off rfl rfl ?_
    refine WL.off rfl rfl ?_
    refine WL.p rfl rfl rfl (P.pickT rfl rfl) ?_
    refine WL.p rfl rfl rfl (P.assign rfl) ?_
    refine WL.nil_ ?_
    refine End.seq ?_
    refine WC.ret ?_
    refine End.ret1 rfl rfl ?_
    exact fun w' hs' => RetV.of (by rw [ownerR, hs5]; rfl) hs'
  ·
    refine WL.p rfl rfl rfl (P.move rfl) ?_
    refine WL.callv (ent_of Tryz.func218 rfl rfl) rfl rfl rfl (fun w hs => refQualifier_any s w) ?_
    refine WL.p rfl rfl rfl (P.pickF rfl rfl) ?_
    refine WL.p rfl rfl rfl (P.assign rfl) ?_
    refine WL.nil_ ?_
    refine End.seq ?_
    refine WC.ret ?_
    refine End.ret1 rfl rfl ?_
    exact fun w' hs' => RetV.of (by rw [ownerR, hs5]; rfl) hs'

end Go.Proofs.YtlkkiimmangplaaGreatDoor

/- The reference's generations. -/
namespace Go.Proofs.YtlkkiimmangplaaGreatDoor
open Go.RowKit
set_option linter.unusedVariables false
set_option linter.unusedSimpArgs false

/-- A group is valid, as the reference says it. -/
def rgroupV (e : E) : Bool := decide (e = e.uses) && (rgroupB e.name && (decide (1 ≤ e.limit) && (decide (e.limit ≤ 63) && (decide (0 ≤ e.last) && (decide (e.last ≤ 9999) && ownerR e.owner)))))

def rgenV (e : E) (xs : List Int) : Bool := decide (e.kind = 1) && (rgroupV e && fits xs e.last)
/-- How many go when one comes. -/
def cntG (limit : Int) (empty : Bool) (n : Nat) : Int := if 0 < (n : Int) + 1 - limit ∧ empty = true then (n : Int) else (n : Int) + 1 - limit
def mx0 (k : Int) : Nat := (if k > 0 then k else 0).toNat
/-- RollIn, as the reference does it: what goes. -/
def rin (e : E) (xs : List Int) (n : Int) : Except Int (List Int) :=
  if rgenV e xs = false then .error 1 else if n < 1 ∨ 9999 < n then .error 2 else if n ≤ e.last then .error 9 else .ok (xs.take (mx0 (cntG e.limit e.empty xs.length)))
/-- What RollIn of the reference hands back. -/
def RinR (w : World) (e : E) (va vg : Value) (n : Int) (r : Except Int (List Int)) : Ending → World → Prop := match r with
  | .error c => RetV w (.tuple #[.agg (E.zero.cells vnil vnil), vnil, .int .i64 c])
  | .ok gone => Ret w (fun _ : Nat × Nat => True) (fun p => .tuple #[.agg ({ e with last := n }.cells va vg), .slice (some ⟨p.1, 0, none⟩) gone.length p.2, .int .i64 0]) (fun p => [.row 3 1 (.slice (some ⟨p.1, 0, none⟩) gone.length p.2) gone.length (ints gone)])
end Go.Proofs.YtlkkiimmangplaaGreatDoor

/- Names in plain words: the program's and the reference's say the same. -/
namespace Go.Proofs.YtlkkiimmangplaaGreatDoor
open Go.RowKit
set_option linter.unusedVariables false
set_option linter.unusedSimpArgs false

theorem idx_cases (c : UInt8) : ∀ l : List UInt8, (Lib.indexByte l c = -1 ∧ c ∉ l) ∨ ∃ a r, l = a ++ c :: r ∧ c ∉ a ∧ Lib.indexByte l c = a.length
  | [] => .inl ⟨rfl, by simp⟩
  | b :: l => by
    by_cases hb : b = c
    · subst hb
      exact .inr ⟨[], l, rfl, by simp, by simp [Lib.indexByte]⟩
    · have hbc : (b == c) = false := by simpa using hb
      rcases idx_cases c l with ⟨h1, h2⟩ | ⟨a, r, rfl, h2, h3⟩
      · refine .inl ⟨by simp [Lib.indexByte, hbc, h1], by simp [h2]; exact fun e => hb e.symm⟩
      · refine .inr ⟨b :: a, r, rfl, by simp [h2]; exact fun e => hb e.symm, ?_⟩
        have hne : ¬ (Lib.indexByte (a ++ c :: r) c == -1) = true := by rw [h3]; simp
        unfold Lib.indexByte
        rw [hbc, if_neg (by simp), if_neg hne, h3]
        simp
theorem sp_dotless : ∀ l : List UInt8, (46 : UInt8) ∉ l → sp l = [l]
  | [], _ => rfl
  | c :: r, h => by
    have hc : ¬ c = 46 := fun e => h (by simp [e])
    rw [sp, if_neg hc, sp_dotless r (fun h' => h (by simp [h']))]
theorem sp_at : ∀ (a r : List UInt8), (46 : UInt8) ∉ a → sp (a ++ 46 :: r) = a :: sp r
  | [], r, _ => by simp [sp]
  | c :: a, r, h => by
    have hc : ¬ c = 46 := fun e => h (by simp [e])
    rw [List.cons_append, sp, if_neg hc, sp_at a r (fun h' => h (by simp [h']))]
theorem indexB_dot (s : ByteArray) : Lib.indexB s dot = Lib.indexByte s.data.toList 46 := by
  have h := Go.Lib.one s dot rfl
  exact h
theorem mkB_data (s : ByteArray) : mkB s.data.toList = s := by
  apply toList_inj.1
  rw [ByteArray.toList_eq]
theorem extract_data (s : ByteArray) (a b : Nat) : (s.extract a b).data.toList = (s.data.toList.take b).drop a := by
  rw [← extract_bytes, ByteArray.toList_eq]
theorem eq_of_data {s t : ByteArray} (h : s.data.toList = t.data.toList) : s = t := by
  apply toList_inj.1
  rw [ByteArray.toList_eq, ByteArray.toList_eq, h]
theorem parts_sp : ∀ (k : Nat) (s : ByteArray), s.size ≤ k → parts s = spB s.data.toList
  | k, s, hk => by
    rcases idx_cases 46 s.data.toList with ⟨h1, h2⟩ | ⟨a, r, h1, h2, h3⟩
    · have hi : Lib.indexB s dot = -1 := by rw [indexB_dot, h1]
      unfold parts
      rw [Lib.countB_miss s dot hi, Lib.splitB_zero, spB, sp_dotless _ h2]
      simp [mkB_data]
    · have hi : Lib.indexB s dot = a.length := by rw [indexB_dot, h3]
      have hs : s.size = a.length + (1 + r.length) := by
        have : s.size = s.data.toList.length := rfl
        rw [this, h1]; simp; omega
      have e1 : s.extract 0 (a.length + 0) = mkB a := by
        apply eq_of_data
        rw [extract_data, h1]
        simp
      have e2 : (s.extract (a.length + dot.size) s.size).data.toList = r := by
        rw [extract_data, List.take_of_length_le (by rw [hs, h1]; simp; omega), h1]
        rw [show dot.size = 1 from rfl, ← List.drop_drop, List.drop_append_of_le_length (Nat.le_refl _)]
        simp
      have hlen : (s.extract (a.length + dot.size) s.size).size = r.length := by
        have : (s.extract (a.length + dot.size) s.size).size = (s.extract (a.length + dot.size) s.size).data.toList.length := rfl
        rw [this, e2]
      cases k with
      | zero => omega
      | succ k =>
        have ih := parts_sp k (s.extract (a.length + dot.size) s.size) (by omega)
        unfold parts at ih ⊢
        rw [Lib.countB_hit s dot a.length (by decide) hi, Nat.add_comm, Lib.splitB_hit _ _ _ _ _ hi, ih, e2, e1, h1]
        unfold spB
        rw [sp_at a r h2]
        rfl
theorem parts_eq (s : ByteArray) : parts s = spB s.data.toList := parts_sp s.size s (Nat.le_refl _)
/-- A part without stars, both ways. -/
theorem part_eq (s : ByteArray) : partB false s = nameQ s.data.toList := by
  have hs : s.size = s.data.toList.length := rfl
  unfold partB nameQ qualB
  rw [Bool.false_and, Bool.false_or, hs]
  generalize s.data.toList = l
  by_cases h1 : 1 ≤ l.length
  · rw [decide_eq_true h1, Bool.true_and, Bool.true_and]
    congr 1
    have hrange : (List.range l.length).all (okAt false l) = l.all (fun c => isUpper (c.toNat : Int) || isDigit (c.toNat : Int)) := by
      rw [Bool.eq_iff_iff, List.all_eq_true, List.all_eq_true]
      constructor
      · intro h c hc
        obtain ⟨k, hk, rfl⟩ := List.mem_iff_getElem.1 hc
        have := h k (List.mem_range.2 hk)
        simp [okAt, byteAt, List.getElem?_eq_getElem hk] at this
        simpa using this
      · intro h k hk
        have hk := List.mem_range.1 hk
        have := h l[k] (List.getElem_mem hk)
        simp [okAt, byteAt, List.getElem?_eq_getElem hk]
        simpa using this
    rw [hrange]
    cases l with
    | nil => simp at h1
    | cons c r =>
      simp only [List.all_cons, List.drop_succ_cons, List.drop_zero, byteAt]
      show (!isDigit (c.toNat : Int) && ((isUpper (c.toNat : Int) || isDigit (c.toNat : Int)) && _)) = (isUpper (c.toNat : Int) && _)
      have hx : isUpper (c.toNat : Int) = true → isDigit (c.toNat : Int) = false := by
        unfold isUpper isDigit
        intro h
        simp at h ⊢
        omega
      cases hu : isUpper (c.toNat : Int) with
      | true => rw [hx hu]; simp
      | false => cases isDigit (c.toNat : Int) <;> simp
  · rw [decide_eq_false h1]; rfl
theorem name_eq (s : ByteArray) : nameB s = validB false s := by
  unfold nameB allB validB
  rw [parts_eq]
  have e : decide ((s.size : Int) ≤ 31) = decide (s.size ≤ 31) := by rw [Bool.eq_iff_iff, decide_eq_true_eq, decide_eq_true_eq]; omega
  have e2 : (fun q : ByteArray => nameQ q.data.toList) = partB false := by funext q; rw [part_eq]
  rw [e, e2]
theorem group_eq (s : ByteArray) : groupB s = rgroupB s := by
  unfold groupB rgroupB
  rw [name_eq, parts_eq]
  cases validB false s <;> cases decide (s.size ≤ 22) <;> rfl
theorem dotless_len {l : List UInt8} : (sp l).length = 1 ↔ (46 : UInt8) ∉ l := by
  constructor
  · intro h hm
    rcases idx_cases 46 l with ⟨_, h2⟩ | ⟨a, r, rfl, h2, _⟩
    · exact h2 hm
    · rw [sp_at a r h2] at h
      have := List.length_pos_iff.2 (sp_ne r)
      simp at h
      exact sp_ne r h
  · intro h
    rw [sp_dotless l h]; rfl
theorem word_eq (s : ByteArray) : wordB s = qualR s := by
  unfold wordB qualR
  rw [name_eq]
  congr 1
  have h : (0 ≤ Lib.indexByte s.data.toList 46) ↔ ¬ (sp s.data.toList).length = 1 := by
    rcases idx_cases 46 s.data.toList with ⟨h1, h2⟩ | ⟨a, r, h1, h2, h3⟩
    · rw [h1]
      constructor
      · intro h; omega
      · intro h; exact absurd (dotless_len.2 h2) h
    · rw [h3]
      constructor
      · intro _ h
        exact dotless_len.1 h (by rw [h1]; simp)
      · intro _; omega
  have e : (spB s.data.toList).length = (sp s.data.toList).length := by simp [spB]
  rw [e]
  by_cases hq : (sp s.data.toList).length = 1
  · rw [decide_eq_false (fun h' => h.1 h' hq), decide_eq_true hq]; rfl
  · rw [decide_eq_true (h.2 hq), decide_eq_false hq]; rfl
theorem owner_eqR (s : ByteArray) : (decide (s = bempty) || wordB s) = ownerR s := by
  unfold ownerR
  rw [word_eq, toList_beq]
end Go.Proofs.YtlkkiimmangplaaGreatDoor

/- What is read is what was written, at each kind, with anything behind it. -/
namespace Go.Proofs.YtlkkiimmangplaaGreatDoor
open Go.RowKit
set_option linter.unusedVariables false
set_option linter.unusedSimpArgs false
theorem emp_app (a : ByteArray) : bempty ++ a = a := by rw [show (bempty : ByteArray) = ByteArray.empty from rfl, ByteArray.empty_append]
theorem app_emp (a : ByteArray) : a ++ bempty = a := by rw [show (bempty : ByteArray) = ByteArray.empty from rfl, ByteArray.append_empty]
abbrev nB (x : Int) : ByteArray := strOfNums (encF 9 x)
abbrev tB (b : Bool) : ByteArray := strOfNums [if b then 1 else 0]
def nCat : List Int → ByteArray
  | [] => bempty
  | x :: r => nB x ++ nCat r
theorem numsOut_cat : ∀ (l : List Int) (out : ByteArray), numsOut out l = out ++ nCat l
  | [], out => (app_emp out).symm
  | x :: r, out => by
    show numsOut (out ++ nB x) r = out ++ (nB x ++ nCat r)
    rw [numsOut_cat r, ByteArray.append_assoc]
abbrev Num (x : Int) : Prop := 0 ≤ x ∧ x ≤ 1099511627776
theorem drop_at {α : Type} {l : List α} {k : Nat} {x : α} (h : l[k]? = some x) : l.drop k = x :: l.drop (k + 1) := by
  obtain ⟨hk, rfl⟩ := List.getElem?_eq_some_iff.1 h
  exact List.drop_eq_getElem_cons hk
theorem num_b {x : Int} (R : ByteArray) (hn : Num x) : Rd.num (nB x ++ R, 0) = (x, (R, 0)) := num_back x R hn.1 (by have := hn.2; omega)
theorem num_cat {l : List Int} {k : Nat} {x : Int} (R : ByteArray) (hx : l[k]? = some x) (hn : Num x) : Rd.num (nCat (l.drop k) ++ R, 0) = (x, (nCat (l.drop (k + 1)) ++ R, 0)) := by
  rw [drop_at hx]
  show Rd.num ((nB x ++ nCat (l.drop (k + 1))) ++ R, 0) = _
  rw [ByteArray.append_assoc, num_b _ hn]
theorem nX_back (l : List Int) (R : ByteArray) (hl : ∀ x ∈ l, Num x) : ∀ k, k ≤ l.length → nX k (nCat l ++ R, 0) = (nCat (l.drop k) ++ R, 0)
  | 0, _ => rfl
  | k + 1, h => by
    obtain ⟨x, hx⟩ := get_of_lt (show k < l.length by omega)
    rw [nX, nX_back l R hl k (by omega), num_cat R hx (hl x (List.mem_of_getElem? hx))]
theorem nX_num {l : List Int} {k : Nat} {x : Int} (R : ByteArray) (hl : ∀ x ∈ l, Num x) (hx : l[k]? = some x) : clampN (nX k (nCat l ++ R, 0)).num.1 = x := by
  have hk := (List.getElem?_eq_some_iff.1 hx).1
  have hn := hl x (List.mem_of_getElem? hx)
  rw [nX_back l R hl k (by omega), num_cat R hx hn, clampN_small hn.2]
theorem aRead_back (l : List Int) (R : ByteArray) (hl : ∀ x ∈ l, Num x) : ∀ k, k ≤ l.length → aRead (nCat l ++ R, 0) k = (l.take k, (nCat (l.drop k) ++ R, 0))
  | 0, _ => rfl
  | k + 1, h => by
    obtain ⟨x, hx⟩ := get_of_lt (show k < l.length by omega)
    have hb := hl x (List.mem_of_getElem? hx)
    rw [aRead, aRead_back l R hl k (by omega)]
    unfold aStep
    simp only
    rw [num_cat R hx hb, take_snoc hx, clampN_small hb.2]
def gB (g : Gr) : ByteArray := encText g.who ++ (tB g.group ++ nB g.level)
def gCat : List Gr → ByteArray
  | [] => bempty
  | g :: r => gB g ++ gCat r
theorem gsOut_cat : ∀ (l : List Gr) (out : ByteArray), gsOut out l = out ++ gCat l
  | [], out => (app_emp out).symm
  | g :: r, out => by
    show gsOut (gOut out g) r = out ++ (gB g ++ gCat r)
    rw [gsOut_cat r, gOut, gB]
    simp only [ByteArray.append_assoc]
theorem gStep_back {acc : List Gr} {l : List Gr} {k : Nat} {g : Gr} (R : ByteArray) (hx : l[k]? = some g) (hg : g.who.size ≤ 31 ∧ 0 ≤ g.level ∧ g.level ≤ 3) : gStep (acc, (gCat (l.drop k) ++ R, 0)) = (acc ++ [g], (gCat (l.drop (k + 1)) ++ R, 0)) := by
  have e : gCat (l.drop k) ++ R = encText g.who ++ (tB g.group ++ (nB g.level ++ (gCat (l.drop (k + 1)) ++ R))) := by
    rw [drop_at hx]
    show (gB g ++ gCat (l.drop (k + 1))) ++ R = _
    rw [gB]
    simp only [ByteArray.append_assoc]
  have h1 := text_back g.who (tB g.group ++ (nB g.level ++ (gCat (l.drop (k + 1)) ++ R))) 200 (by omega) (by decide)
  have h2 := bool_back g.group (nB g.level ++ (gCat (l.drop (k + 1)) ++ R))
  have h3 := num_b (gCat (l.drop (k + 1)) ++ R) (x := g.level) ⟨by omega, by omega⟩
  unfold gStep
  simp only
  rw [e, h1]
  simp only
  rw [h2]
  simp only
  rw [h3, clampN_small (by omega)]
theorem gRead_back (l : List Gr) (R : ByteArray) (hl : ∀ g ∈ l, g.who.size ≤ 31 ∧ 0 ≤ g.level ∧ g.level ≤ 3) : ∀ k, k ≤ l.length → gRead (gCat l ++ R, 0) k = (l.take k, (gCat (l.drop k) ++ R, 0))
  | 0, _ => rfl
  | k + 1, h => by
    obtain ⟨g, hx⟩ := get_of_lt (show k < l.length by omega)
    rw [gRead, gRead_back l R hl k (by omega), gStep_back R hx (hl g (List.mem_of_getElem? hx)), take_snoc hx]
theorem cntR_back {n most : Int} (R : ByteArray) (h0 : 0 ≤ n) (h1 : n ≤ most) (hm : most ≤ 1000) : cntR most (nB n ++ R, 0) = n := by
  unfold cntR
  rw [num_b R ⟨h0, by omega⟩]
  simp only
  rw [clampN_small (by omega), if_neg (by omega)]
/-! ### The kinds -/
theorem uses0 {e : E} (h : e.kind = 0) : e.uses = { e.bare0 with ds := e.ds, alt := e.alt, used := e.used } := by unfold E.uses E.bare0; rw [if_pos h]
theorem uses1 {e : E} (h : e.kind = 1) : e.uses = { e.bare0 with limit := e.limit, last := e.last, empty := e.empty, owner := e.owner } := by unfold E.uses E.bare0; rw [if_neg (by omega), if_pos h]
theorem uses2 {e : E} (h : e.kind = 2) : e.uses = { e.bare0 with target := e.target } := by unfold E.uses E.bare0; rw [if_neg (by omega), if_neg (by omega), if_pos h]
theorem uses3 {e : E} (h : e.kind = 3) : e.uses = { e.bare0 with catalog := e.catalog } := by unfold E.uses E.bare0; rw [if_neg (by omega), if_neg (by omega), if_neg (by omega), if_pos h]
theorem uses4 {e : E} (h : e.kind = 4) : e.uses = { e.bare0 with level := e.level, owner := e.owner, grants := e.grants } := by unfold E.uses E.bare0; rw [if_neg (by omega), if_neg (by omega), if_neg (by omega), if_neg (by omega), if_pos h]
theorem back1 {e : E} (hk : e.kind = 1) (h : groupOK e = true) (R : ByteArray) : grp.rd e.bare0 (grp.out bempty e ++ R, 0) = (e.uses, (R, 0)) := by
  obtain ⟨hb1, hb2, hb3⟩ := groupOK_own h
  have e0 : grp.out bempty e ++ R = nB e.limit ++ (nB e.last ++ (tB e.empty ++ (encText e.owner ++ R))) := by
    show grpOut bempty e.limit e.last e.empty e.owner ++ R = _
    unfold grpOut
    rw [emp_app]
    simp only [ByteArray.append_assoc]
  have h1 := num_b (nB e.last ++ (tB e.empty ++ (encText e.owner ++ R))) (x := e.limit) ⟨by omega, by omega⟩
  have h2 := num_b (tB e.empty ++ (encText e.owner ++ R)) (x := e.last) ⟨by omega, by omega⟩
  have h3 := bool_back e.empty (encText e.owner ++ R)
  have h4 := text_back e.owner R 200 (by omega) (by decide)
  rw [e0, uses1 hk]
  simp only [grp, h1, h2, h3, h4]
  rw [clampN_small (by omega), clampN_small (by omega)]
theorem back2 {e : E} (hk : e.kind = 2) (h : aliasOK e = true) (R : ByteArray) : ali.rd e.bare0 (ali.out bempty e ++ R, 0) = (e.uses, (R, 0)) := by
  have hl := aliasOK_lim h
  have e0 : ali.out bempty e ++ R = encText e.target ++ R := by
    show (bempty ++ encText e.target) ++ R = _
    rw [emp_app]
  have h4 := text_back e.target R 200 (by omega) (by decide)
  rw [e0, uses2 hk]
  simp only [ali, h4]
theorem back3 {e : E} (hk : e.kind = 3) (h : catOK e = true) (R : ByteArray) : cat.rd e.bare0 (cat.out bempty e ++ R, 0) = (e.uses, (R, 0)) := by
  have hl := inB_one h
  have e0 : cat.out bempty e ++ R = nB e.catalog ++ R := by
    show (bempty ++ nB e.catalog) ++ R = _
    rw [emp_app]
  have h1 := num_b R (x := e.catalog) ⟨by omega, by omega⟩
  rw [e0, uses3 hk]
  simp only [cat, h1]
  rw [clampN_small (by omega)]
theorem back4 {e : E} (hk : e.kind = 4) (h : profOK e = true) (R : ByteArray) : prof.rd e.bare0 (prof.out bempty e ++ R, 0) = (e.uses, (R, 0)) := by
  obtain ⟨hb1, hb2, hb3, hb4⟩ := profOK_lim h
  have e0 : prof.out bempty e ++ R = nB e.level ++ (encText e.owner ++ (nB e.grants.length ++ (gCat e.grants ++ R))) := by
    show profOut bempty e.level e.owner e.grants ++ R = _
    unfold profOut
    rw [gsOut_cat, emp_app]
    simp only [ByteArray.append_assoc]
  have h1 := num_b (encText e.owner ++ (nB e.grants.length ++ (gCat e.grants ++ R))) (x := e.level) ⟨by omega, by omega⟩
  have h2 := text_back e.owner (nB e.grants.length ++ (gCat e.grants ++ R)) 200 (by omega) (by decide)
  have h3 := num_b (gCat e.grants ++ R) (x := (e.grants.length : Int)) ⟨by omega, by omega⟩
  have h5 : cntR 8 (nB e.grants.length ++ (gCat e.grants ++ R), 0) = (e.grants.length : Int) := cntR_back _ (by omega) (by omega) (by decide)
  have h6 := gRead_back e.grants R hb4 e.grants.length (Nat.le_refl _)
  rw [List.take_length, List.drop_length] at h6
  have h7 : prX (nB e.level ++ (encText e.owner ++ (nB e.grants.length ++ (gCat e.grants ++ R))), 0) = (nB e.grants.length ++ (gCat e.grants ++ R), 0) := by
    unfold prX
    rw [h1]
    simp only
    rw [h2]
  have h8 : prG (nB e.level ++ (encText e.owner ++ (nB e.grants.length ++ (gCat e.grants ++ R))), 0) = (e.grants, (R, 0)) := by
    unfold prG prN
    rw [h7, h5, h3, Int.toNat_natCast]
    simp only
    rw [h6]
    show (e.grants, (bempty ++ R, (0 : Int))) = _
    rw [emp_app]
  rw [e0, uses4 hk]
  simp only [prof, h1, h2, h8]
  rw [clampN_small (by omega)]
theorem nX_num2 : ∀ (k : Nat) (x : Rd), nX k x.num.2 = nX (k + 1) x
  | 0, x => rfl
  | k + 1, x => by rw [nX, nX_num2 k x]; rfl
theorem insN_nX : ∀ (l : List Nat) (cs : Array Value) (x : Rd), (insN (cs, x) l).2 = nX l.length x
  | [], cs, x => rfl
  | o :: l, cs, x => by
    show (insN (cs.setIfInBounds o (.int .i64 (clampN x.num.1)), x.num.2) l).2 = _
    rw [insN_nX l, nX_num2]; rfl
theorem dY1_nX (x : Rd) : dY1 x = nX 14 x := insN_nX _ _ x
theorem back0 {e : E} (hk : e.kind = 0) (h : dataOK e = true) (R : ByteArray) : dat.rd e.bare0 (dat.out bempty e ++ R, 0) = (e.uses, (R, 0)) := by
  obtain ⟨hb1, hb2, hb3, hb4, hb5, hb6, hb7⟩ := dataOK_lim h
  have hc1 := hb6 e.ds.created (by simp)
  have hc2 := hb6 e.ds.expires (by simp)
  have hc3 := hb6 e.used (by simp)
  generalize hS9 : nB e.used ++ R = S9
  generalize hS8 : nCat e.alt ++ S9 = S8
  generalize hS7 : nB e.alt.length ++ S8 = S7
  generalize hS6 : tB e.ds.archived ++ S7 = S6
  generalize hS5 : nB e.ds.expires ++ S6 = S5
  generalize hS4 : nB e.ds.created ++ S5 = S4
  generalize hS3 : encText e.ds.owner ++ S4 = S3
  generalize hS2 : encText e.ds.volume ++ S3 = S2
  generalize hS1 : nB e.ds.cls ++ S2 = S1
  generalize hS0 : tB e.ds.unique ++ S1 = S0
  have e0 : dat.out bempty e ++ R = nCat (dsNums e) ++ S0 := by
    show dsOut bempty e ++ R = _
    subst hS0; subst hS1; subst hS2; subst hS3; subst hS4; subst hS5; subst hS6; subst hS7; subst hS8; subst hS9
    unfold dsOut dsOut2 dsOut1
    rw [numsOut_cat, numsOut_cat, numsOut_cat, emp_app]
    simp only [nCat, app_emp, ByteArray.append_assoc]
  have q0 : ∀ k, k ≤ 14 → nX k (nCat (dsNums e) ++ S0, 0) = (nCat ((dsNums e).drop k) ++ S0, 0) := fun k hk => nX_back (dsNums e) S0 hb2 k hk
  have q14 : dY1 (nCat (dsNums e) ++ S0, 0) = (S0, 0) := by
    rw [dY1_nX, q0 14 (by decide)]
    show ((bempty ++ S0, (0 : Int)) : Rd) = _
    rw [emp_app]
  have h0 : Rd.bool (S0, 0) = (e.ds.unique, (S1, 0)) := by rw [← hS0]; exact bool_back _ _
  have h1 : Rd.num (S1, 0) = (e.ds.cls, (S2, 0)) := by rw [← hS1]; exact num_b _ ⟨by omega, by omega⟩
  have h2 : Rd.text (S2, 0) 200 = (e.ds.volume, (S3, 0)) := by rw [← hS2]; exact text_back _ _ 200 (by omega) (by decide)
  have h3 : Rd.text (S3, 0) 200 = (e.ds.owner, (S4, 0)) := by rw [← hS3]; exact text_back _ _ 200 (by omega) (by decide)
  have h4 : Rd.num (S4, 0) = (e.ds.created, (S5, 0)) := by rw [← hS4]; exact num_b _ ⟨by omega, by omega⟩
  have h5 : Rd.num (S5, 0) = (e.ds.expires, (S6, 0)) := by rw [← hS5]; exact num_b _ ⟨by omega, by omega⟩
  have h6 : Rd.bool (S6, 0) = (e.ds.archived, (S7, 0)) := by rw [← hS6]; exact bool_back _ _
  have h7 : Rd.num (S7, 0) = ((e.alt.length : Int), (S8, 0)) := by rw [← hS7]; exact num_b _ ⟨by omega, by omega⟩
  have h7' : cntR 4 (S7, 0) = (e.alt.length : Int) := by rw [← hS7]; exact cntR_back _ (by omega) (by omega) (by decide)
  have h8 : aRead (S8, 0) e.alt.length = (e.alt, (S9, 0)) := by
    have := aRead_back e.alt S9 (fun x hx => by have := hb1 x hx; exact ⟨by omega, by omega⟩) e.alt.length (Nat.le_refl _)
    rw [List.take_length, List.drop_length, hS8] at this
    rw [this]
    show (e.alt, ((bempty ++ S9, (0 : Int)) : Rd)) = _
    rw [emp_app]
  have h9 : Rd.num (S9, 0) = (e.used, (R, 0)) := by rw [← hS9]; exact num_b _ ⟨by omega, by omega⟩
  have q4 : dY4 (nCat (dsNums e) ++ S0, 0) = (S4, 0) := by unfold dY4; rw [q14]; simp only [h0, h1, h2, h3]
  have q7 : dY7 (nCat (dsNums e) ++ S0, 0) = (S6, 0) := by unfold dY7; rw [q4]; simp only [h4, h5]
  have q8 : dY8 (nCat (dsNums e) ++ S0, 0) = (S7, 0) := by unfold dY8; rw [q7, h6]
  have qM : dM (nCat (dsNums e) ++ S0, 0) = e.alt.length := by unfold dM; rw [q8, h7', Int.toNat_natCast]
  have qA : dA (nCat (dsNums e) ++ S0, 0) = (e.alt, (S9, 0)) := by unfold dA; rw [qM, q8, h7]; exact h8
  have qD : dsRd (nCat (dsNums e) ++ S0, 0) = e.ds := by
    have n0 := nX_num (k := 0) S0 hb2 rfl
    have n1 := nX_num (k := 1) S0 hb2 rfl
    have n2 := nX_num (k := 2) S0 hb2 rfl
    have n3 := nX_num (k := 3) S0 hb2 rfl
    have n4 := nX_num (k := 4) S0 hb2 rfl
    have n5 := nX_num (k := 5) S0 hb2 rfl
    have n6 := nX_num (k := 6) S0 hb2 rfl
    have n7 := nX_num (k := 7) S0 hb2 rfl
    have n8 := nX_num (k := 8) S0 hb2 rfl
    have n9 := nX_num (k := 9) S0 hb2 rfl
    have n10 := nX_num (k := 10) S0 hb2 rfl
    have n11 := nX_num (k := 11) S0 hb2 rfl
    have n12 := nX_num (k := 12) S0 hb2 rfl
    have n13 := nX_num (k := 13) S0 hb2 rfl
    unfold dsRd
    rw [n0, n1, n2, n3, n4, n5, n6, n7, n8, n9, n10, n11, n12, n13, q14, q4, q7, h0]
    simp only [h1, h2, h3, h4, h5, h6]
    rw [clampN_small (by omega), clampN_small (by omega), clampN_small (by omega)]
  rw [e0, uses0 hk]
  simp only [dat, qD, qA, h9]
  rw [clampN_small (by omega)]
/-- At each kind. -/
theorem back_any {e : E} {i : Nat} (hi : i < 5) (hk : e.kind = (i : Int)) (h : (kinds i).ok e = true) (R : ByteArray) : (kinds i).rd e.bare0 ((kinds i).out bempty e ++ R, 0) = (e.uses, (R, 0)) := by
  rcases (by omega : i = 0 ∨ i = 1 ∨ i = 2 ∨ i = 3 ∨ i = 4) with rfl | rfl | rfl | rfl | rfl
  · exact back0 hk h R
  · exact back1 hk h R
  · exact back2 hk h R
  · exact back3 hk h R
  · exact back4 hk h R
theorem re_any {e : E} {i : Nat} (hi : i < 5) (hk : e.kind = (i : Int)) (h : (kinds i).ok e = true) : (kinds i).re e = (e.uses, (bempty, 0)) := by
  have := back_any hi hk h bempty
  rwa [app_emp] at this
theorem valid_uses {e : E} {i : Nat} (hi : i < 5) (hk : e.kind = (i : Int)) : (kinds i).valid e = ((kinds i).nm e.name && ((kinds i).ok e && decide (e.uses = e))) := by
  unfold KF.valid
  cases hn : (kinds i).nm e.name with
  | false => rfl
  | true =>
    cases ho : (kinds i).ok e with
    | false => rfl
    | true =>
      rw [re_any hi hk ho]
      rfl
end Go.Proofs.YtlkkiimmangplaaGreatDoor

/- Records in plain words: how long they are, and that they read as their entries. -/
namespace Go.Proofs.YtlkkiimmangplaaGreatDoor
open Go.RowKit
set_option linter.unusedVariables false
set_option linter.unusedSimpArgs false
theorem sp_mem : ∀ (l : List UInt8) (b : UInt8), b ∈ l → b = 46 ∨ ∃ p ∈ sp l, b ∈ p
  | [], b, h => by cases h
  | c :: r, b, h => by
    unfold sp
    by_cases hc : c = 46
    · rw [if_pos hc]
      rcases List.mem_cons.1 h with rfl | h
      · exact .inl hc
      · rcases sp_mem r b h with h | ⟨p, hp, hb⟩
        · exact .inl h
        · exact .inr ⟨p, List.mem_cons_of_mem _ hp, hb⟩
    · rw [if_neg hc]
      cases hs : sp r with
      | nil => exact absurd hs (sp_ne r)
      | cons x t =>
        simp only
        rcases List.mem_cons.1 h with rfl | h
        · exact .inr ⟨_, List.mem_cons_self .., List.mem_cons_self ..⟩
        · rcases sp_mem r b h with h | ⟨p, hp, hb⟩
          · exact .inl h
          · rw [hs] at hp
            rcases List.mem_cons.1 hp with rfl | hp
            · exact .inr ⟨_, List.mem_cons_self .., List.mem_cons_of_mem _ hb⟩
            · exact .inr ⟨p, List.mem_cons_of_mem _ hp, hb⟩
theorem qual_no {p1 p2 : UInt8 → Bool} (h1 : p1 32 = false) (h2 : p2 32 = false) {l : List UInt8} (h : qualB p1 p2 l = true) : (32 : UInt8) ∉ l := by
  unfold qualB at h
  simp only [Bool.and_eq_true, decide_eq_true_eq] at h
  obtain ⟨ha, hb, hc, hd⟩ := h
  intro hm
  cases l with
  | nil => cases hm
  | cons x r =>
    rcases List.mem_cons.1 hm with rfl | hm
    · simp [h1] at hc
    · have := List.all_eq_true.1 hd 32 (by simpa using hm)
      rw [h2] at this; cases this
theorem allB_no {most : Int} {p : ByteArray → Bool} {s : ByteArray} (hp : ∀ q : ByteArray, p q = true → (32 : UInt8) ∉ q.data.toList) (h : allB most p s = true) : (32 : UInt8) ∉ s.data.toList := by
  unfold allB at h
  simp only [Bool.and_eq_true] at h
  intro hm
  rcases sp_mem _ _ hm with h' | ⟨q, hq, hb⟩
  · exact absurd h' (by decide)
  · have := List.all_eq_true.1 h.2.2 (mkB q) (by rw [parts_eq, spB]; exact List.mem_map.2 ⟨q, hq, rfl⟩)
    exact hp _ this (by simpa [mkB] using hb)
theorem name_no {s : ByteArray} (h : nameB s = true) : (32 : UInt8) ∉ s.data.toList := allB_no (fun q hq => qual_no (by decide) (by decide) hq) h
theorem pat_no {s : ByteArray} (h : patB s = true) : (32 : UInt8) ∉ s.data.toList := allB_no (fun q hq => by
  unfold patQ at hq
  rw [Bool.or_eq_true, decide_eq_true_eq, Bool.and_eq_true] at hq
  rcases hq with rfl | hq
  · decide
  · exact qual_no (by decide) (by decide) hq.1) h
theorem allB_size {p : ByteArray → Bool} {s : ByteArray} (h : allB 31 p s = true) : 1 ≤ s.size ∧ s.size ≤ 31 := by
  unfold allB at h
  simp only [Bool.and_eq_true, decide_eq_true_eq] at h
  omega
theorem nm_name {i : Nat} (hi : i < 4) {s : ByteArray} (h : (kinds i).nm s = true) : nameB s = true := by
  rcases (by omega : i = 0 ∨ i = 1 ∨ i = 2 ∨ i = 3) with rfl | rfl | rfl | rfl
  · exact h
  · have h' : groupB s = true := h
    unfold groupB at h'
    simp only [Bool.and_eq_true] at h'
    exact h'.2.1
  · have h' : aliasN s = true := h
    unfold aliasN at h'
    simp only [Bool.and_eq_true] at h'
    exact h'.1
  · have h' : catN s = true := h
    unfold catN at h'
    simp only [Bool.and_eq_true] at h'
    exact h'.1
theorem nm_pat {s : ByteArray} (h : (kinds 4).nm s = true) : patB s = true := h
theorem nm_lim {i : Nat} (hi : i < 5) {s : ByteArray} (h : (kinds i).nm s = true) : (32 : UInt8) ∉ s.data.toList ∧ 1 ≤ s.size ∧ s.size ≤ 31 := by
  rcases Nat.lt_or_ge i 4 with h4 | h4
  · have h' := nm_name h4 h
    exact ⟨name_no h', allB_size h'⟩
  · obtain rfl : i = 4 := by omega
    exact ⟨pat_no h, allB_size (nm_pat h)⟩
theorem blanks_data (k : Nat) : (blanks k).data.toList = List.replicate k 32 := by
  show (Lib.repeatL [32] k).toArray.toList = _
  rw [List.toList_toArray, show [(32 : UInt8)] = List.replicate 1 32 from rfl, Lib.repeatL_replicate, Nat.mul_one]
theorem trim_name {s : ByteArray} (k : Nat) (h : (32 : UInt8) ∉ s.data.toList) : trimR (s ++ blanks k) = s := by
  apply eq_of_data
  unfold trimR
  rw [List.toList_toArray, data_append, blanks_data]
  have hl : s.data.toList.length = s.size := rfl
  rw [Lib.trimRightB_take (s.data.toList ++ List.replicate k 32) 32 s.data.toList.length (by simp) (fun j b hj hb => ?_) (fun b h0 hb => ?_)]
  · simp
  · rw [List.getElem?_append_right hj] at hb
    exact (List.mem_replicate.1 (List.mem_of_getElem? hb)).2
  · rw [List.getElem?_append_left (by omega)] at hb
    rintro rfl
    exact h (List.mem_of_getElem? hb)
/-! ### How long -/
theorem encF_le : ∀ (k f : Nat) (n : Int), n < 128 ^ (k + 1) → (encF f n).length ≤ k + 1
  | _, 0, n, _ => by simp [encF]
  | k, f + 1, n, h => by
    unfold encF
    split
    · simp
    · rename_i hn
      cases k with
      | zero => omega
      | succ k =>
        have := encF_le k f (n / 128) (by rw [Int.pow_succ] at h; omega)
        simp; omega
theorem nB_le {n : Int} (k : Nat) (h : n < 128 ^ (k + 1)) : (nB n).size ≤ k + 1 := by
  rw [strOfNums_size]
  exact encF_le k 9 n h
theorem tB_size (b : Bool) : (tB b).size = 1 := by rw [strOfNums_size]; rfl
theorem text_le {s : ByteArray} {m : Nat} (h : s.size ≤ m) (hm : m < 128) : (encText s).size ≤ m + 1 := by
  have := nB_le (n := (s.size : Int)) 0 (by omega)
  show (nB (s.size : Int) ++ s).size ≤ m + 1
  rw [size_append]
  omega
theorem word_le {s : ByteArray} (h : wordB s = true) : s.size ≤ 8 := by
  rw [word_eq] at h
  unfold qualR validB at h
  simp only [Bool.and_eq_true, decide_eq_true_eq] at h
  obtain ⟨⟨h1, h2, h3⟩, h4⟩ := h
  have h5 : (46 : UInt8) ∉ s.data.toList := dotless_len.1 (by simpa [spB] using h4)
  have h6 := List.all_eq_true.1 h3 s (by rw [spB, sp_dotless _ h5]; simp [mkB_data])
  unfold partB at h6
  simp only [Bool.false_and, Bool.false_or, Bool.and_eq_true, decide_eq_true_eq] at h6
  exact h6.2.1
theorem owner_le {s : ByteArray} (h : (decide (s = bempty) || wordB s) = true) : s.size ≤ 8 := by
  rw [Bool.or_eq_true, decide_eq_true_eq] at h
  rcases h with rfl | h
  · decide
  · exact word_le h
theorem owner_le2 {s : ByteArray} (h : (s.toList == (⟨#[]⟩ : ByteArray).toList || wordB s) = true) : s.size ≤ 8 := by
  rw [toList_beq] at h
  exact owner_le h
theorem grsOK_le : ∀ {gs : List Gr} {seen : List (ByteArray × Bool)}, grsOK gs seen = true → ∀ g ∈ gs, g.who.size ≤ 8
  | [], _, _ => by simp
  | x :: r, seen, h => fun g hg => by
    rw [grsOK, Bool.and_eq_true, Bool.and_eq_true, Bool.and_eq_true] at h
    rcases List.mem_cons.1 hg with rfl | hg
    · exact word_le h.1
    · exact grsOK_le h.2.2.2 g hg
theorem nCat_le : ∀ (l : List Int), (∀ x ∈ l, Num x) → (nCat l).size ≤ 6 * l.length
  | [], _ => by decide
  | x :: r, h => by
    have h1 := nB_le (n := x) 5 (by have := (h x (List.mem_cons_self ..)).2; omega)
    have h2 := nCat_le r (fun y hy => h y (List.mem_cons_of_mem _ hy))
    show (nB x ++ nCat r).size ≤ _
    rw [size_append, List.length_cons]
    omega
theorem gCat_le : ∀ (l : List Gr), (∀ g ∈ l, g.who.size ≤ 8 ∧ 0 ≤ g.level ∧ g.level ≤ 3) → (gCat l).size ≤ 11 * l.length
  | [], _ => by decide
  | g :: r, h => by
    have hg := h g (List.mem_cons_self ..)
    have h1 := text_le hg.1 (by decide)
    have h3 := tB_size g.group
    have h4 := nB_le (n := g.level) 0 (by omega)
    have h2 := gCat_le r (fun y hy => h y (List.mem_cons_of_mem _ hy))
    show (gB g ++ gCat r).size ≤ _
    unfold gB
    rw [size_append, size_append, size_append, List.length_cons]
    omega
theorem out_le {e : E} {i : Nat} (hi : i < 5) (h : (kinds i).ok e = true) : ((kinds i).out bempty e).size ≤ 168 := by
  rcases (by omega : i = 0 ∨ i = 1 ∨ i = 2 ∨ i = 3 ∨ i = 4) with rfl | rfl | rfl | rfl | rfl
  · have h' : dataOK e = true := h
    obtain ⟨hb1, hb2, hb3, hb4, hb5, hb6, hb7⟩ := dataOK_lim h'
    have hv : e.ds.volume.size ≤ 8 ∧ e.ds.owner.size ≤ 8 := by
      unfold dataOK at h'
      simp only [Bool.and_eq_true] at h'
      obtain ⟨_, _, _, _, _, _, h6, h7, _, _⟩ := h'
      exact ⟨owner_le2 (by simpa using h6), owner_le2 (by simpa using h7)⟩
    have z1 := nCat_le (dsNums e) hb2
    have z1' : (dsNums e).length = 14 := rfl
    have z2 := nB_le (n := e.ds.cls) 5 (by omega)
    have z3 := text_le hv.1 (by decide)
    have z4 := text_le hv.2 (by decide)
    have z5 := nCat_le [e.ds.created, e.ds.expires] (fun x hx => by have := hb6 x (by simp only [List.mem_cons, List.not_mem_nil, or_false] at hx ⊢; omega); exact ⟨by omega, by omega⟩)
    have z6 := nB_le (n := (e.alt.length : Int)) 0 (by omega)
    have z7 := nCat_le e.alt (fun x hx => by have := hb1 x hx; exact ⟨by omega, by omega⟩)
    have z8 := nB_le (n := e.used) 5 (by have := hb6 e.used (by simp); omega)
    have z9 := tB_size e.ds.unique
    have z10 := tB_size e.ds.archived
    show (dsOut bempty e).size ≤ 168
    unfold dsOut dsOut2 dsOut1
    rw [numsOut_cat, numsOut_cat, numsOut_cat, emp_app]
    simp only [size_append, List.length_cons, List.length_nil] at z5 ⊢
    simp only [nB, tB] at *
    omega
  · obtain ⟨hb1, hb2, hb3⟩ := groupOK_own h
    have z1 := nB_le (n := e.limit) 5 (by omega)
    have z2 := nB_le (n := e.last) 5 (by omega)
    have z3 := tB_size e.empty
    have z4 := text_le hb3 (by decide)
    show (grpOut bempty e.limit e.last e.empty e.owner).size ≤ 168
    unfold grpOut
    rw [emp_app]
    simp only [size_append]
    simp only [nB, tB] at *
    omega
  · have z4 := text_le (aliasOK_lim h) (by decide)
    show (bempty ++ encText e.target).size ≤ 168
    rw [emp_app]
    omega
  · have hl := inB_one (show inB 1 15 [e.catalog] = true from h)
    have z1 := nB_le (n := e.catalog) 5 (by omega)
    show (bempty ++ nB e.catalog).size ≤ 168
    rw [emp_app]
    omega
  · have h' : profOK e = true := h
    obtain ⟨hb1, hb2, hb3, hb4⟩ := profOK_lim h'
    have hg : ∀ g ∈ e.grants, g.who.size ≤ 8 := by
      unfold profOK at h'
      rw [Bool.and_eq_true] at h'
      exact grsOK_le h'.1
    have ho : e.owner.size ≤ 8 := by
      unfold profOK at h'
      simp only [Bool.and_eq_true] at h'
      exact owner_le h'.2.2.1
    have z1 := nB_le (n := e.level) 0 (by omega)
    have z2 := text_le ho (by decide)
    have z3 := nB_le (n := (e.grants.length : Int)) 0 (by omega)
    have z4 := gCat_le e.grants (fun g hx => ⟨hg g hx, (hb4 g hx).2⟩)
    show (profOut bempty e.level e.owner e.grants).size ≤ 168
    unfold profOut
    rw [gsOut_cat, emp_app]
    simp only [size_append]
    simp only [nB, tB] at *
    omega
/-! ### Records -/
theorem key_is {i : Nat} {s : ByteArray} (h : s.size ≤ 31) : (kinds i).key s = strOfNums [(kinds i).L] ++ (s ++ blanks (31 - s.size)) := by
  unfold KF.key
  rw [if_neg (by omega), ByteArray.append_assoc]
theorem key_size32 {i : Nat} {s : ByteArray} (h : s.size ≤ 31) : ((kinds i).key s).size = 32 := by
  rw [key_is h, size_append, size_append, strOfNums_size, blanks_size]
  simp; omega
theorem letters {i : Nat} (hi : i < 5) : 0 ≤ (kinds i).L ∧ (kinds i).L < 256 := (kinds_fam.law i hi).letter
theorem letters_inj {i j : Nat} (hi : i < 5) (hj : j < 5) (h : (kinds i).L = (kinds j).L) : i = j := by
  rcases (by omega : i = 0 ∨ i = 1 ∨ i = 2 ∨ i = 3 ∨ i = 4) with rfl | rfl | rfl | rfl | rfl <;> rcases (by omega : j = 0 ∨ j = 1 ∨ j = 2 ∨ j = 3 ∨ j = 4) with rfl | rfl | rfl | rfl | rfl <;> first | rfl | exact absurd h (by decide)
theorem key_data {i : Nat} {s : ByteArray} (h : s.size ≤ 31) : ((kinds i).key s).data.toList = by8 (kinds i).L :: (s.data.toList ++ List.replicate (31 - s.size) 32) := by
  rw [key_is h, data_append, data_append, blanks_data, strOfNums_data]
  rfl
theorem letter_of {i : Nat} (hi : i < 5) {s t : ByteArray} (h : s.size ≤ 31) : letterOf ((kinds i).key s ++ t) = (kinds i).L := by
  unfold letterOf
  rw [data_append, key_data h]
  exact by8_nat (letters hi).1 (letters hi).2
theorem key_name {i : Nat} {s t : ByteArray} (h : s.size ≤ 31) (hn : (32 : UInt8) ∉ s.data.toList) : trimR (((kinds i).key s ++ t).extract 1 32) = s := by
  have e : ((kinds i).key s ++ t).extract 1 32 = s ++ blanks (31 - s.size) := by
    apply eq_of_data
    rw [extract_data, data_append, key_data h, data_append, blanks_data]
    have hl : s.data.toList.length = s.size := rfl
    rw [List.take_append_of_le_length (by simp; omega), List.take_of_length_le (by simp; omega)]
    rfl
  rw [e, trim_name _ hn]
theorem key_rest {i : Nat} {s t : ByteArray} (h : s.size ≤ 31) : ((kinds i).key s ++ t).extract 32 ((kinds i).key s ++ t).size = t := extract_rest _ _ 32 (key_size32 h)
/-- What stands behind a key with more behind the fields. -/
theorem dE_more {e : E} {i : Nat} (hi : i < 5) (hk : e.kind = (i : Int)) (hn : (kinds i).nm e.name = true) (ho : (kinds i).ok e = true) (R : ByteArray) : dE kinds ((kinds i).record e ++ R) i = (e.uses, (R, 0)) := by
  obtain ⟨n1, n2, n3⟩ := nm_lim hi hn
  have e1 : (kinds i).record e ++ R = (kinds i).key e.name ++ ((kinds i).out bempty e ++ R) := by rw [KF.record, ByteArray.append_assoc]
  have e2 : dE0 i ((kinds i).key e.name ++ ((kinds i).out bempty e ++ R)) = e.bare0 := by
    unfold dE0 E.bare0
    rw [key_name n3 n1, hk]
  unfold dE
  rw [e1, e2, key_rest n3, back_any hi hk ho]
theorem rec_letter {e : E} {i : Nat} (hi : i < 5) (hn : (kinds i).nm e.name = true) (R : ByteArray) : letterOf ((kinds i).record e ++ R) = (kinds i).L := by
  obtain ⟨n1, n2, n3⟩ := nm_lim hi hn
  rw [KF.record, ByteArray.append_assoc, letter_of hi n3]
theorem rec_size {e : E} {i : Nat} (hi : i < 5) (hn : (kinds i).nm e.name = true) (ho : (kinds i).ok e = true) : 32 ≤ ((kinds i).record e).size ∧ ((kinds i).record e).size ≤ 200 := by
  obtain ⟨n1, n2, n3⟩ := nm_lim hi hn
  have h1 := key_size32 (i := i) n3
  have h2 := out_le hi ho
  rw [KF.record, size_append]
  omega
theorem valid_parts {e : E} {i : Nat} (hi : i < 5) (hk : e.kind = (i : Int)) (hv : (kinds i).valid e = true) : (kinds i).nm e.name = true ∧ (kinds i).ok e = true ∧ e.uses = e := by
  rw [valid_uses hi hk, Bool.and_eq_true, Bool.and_eq_true, decide_eq_true_eq] at hv
  exact hv
theorem dec_record {e : E} {i : Nat} (hi : i < 5) (hk : e.kind = (i : Int)) (hv : (kinds i).valid e = true) : dE kinds ((kinds i).record e) i = (e, (bempty, 0)) ∧ decI kinds ((kinds i).record e) i = true := by
  obtain ⟨hn, ho, hu⟩ := valid_parts hi hk hv
  have h1 := dE_more hi hk hn ho bempty
  rw [app_emp, hu] at h1
  have h2 := rec_letter hi hn bempty
  rw [app_emp] at h2
  refine ⟨h1, ?_⟩
  unfold decI
  rw [h1, h2]
  simp only [hv, if_true]
  simp [Rd.end_]
theorem decI_letter {s : ByteArray} {i : Nat} (h : decI kinds s i = true) : (kinds i).L = letterOf s := by
  unfold decI at h
  rw [Bool.and_eq_true, beq_iff_eq] at h
  exact h.1
end Go.Proofs.YtlkkiimmangplaaGreatDoor

/- Decode in one form; what it takes and what it refuses. -/
namespace Go.Proofs.YtlkkiimmangplaaGreatDoor
open Go.RowKit
set_option linter.unusedVariables false
set_option linter.unusedSimpArgs false
/-- The entry of a record. -/
def decOpt (s : ByteArray) : Option E := if 32 ≤ s.size ∧ s.size ≤ 200 then ([0, 1, 2, 3, 4].find? (fun i => decI kinds s i)).map (fun i => (dE kinds s i).1) else none
def decE (s : ByteArray) : E := (decOpt s).getD E.zero
def decC (s : ByteArray) : Int := if (decOpt s).isSome = true then 0 else 11
theorem in5 {i : Nat} : i ∈ [0, 1, 2, 3, 4] ↔ i < 5 := by simp; omega
theorem decOpt_at {s : ByteArray} {i : Nat} (hi : i < 5) (hs : 32 ≤ s.size ∧ s.size ≤ 200) (h : decI kinds s i = true) : decOpt s = some (dE kinds s i).1 := by
  unfold decOpt
  rw [if_pos hs]
  cases hf : [0, 1, 2, 3, 4].find? (fun i => decI kinds s i) with
  | none =>
    have := List.find?_eq_none.1 hf i (in5.2 hi)
    exact absurd h this
  | some j =>
    have h1 : decI kinds s j = true := List.find?_some hf
    have h2 : j < 5 := in5.1 (List.mem_of_find?_eq_some hf)
    obtain rfl := letters_inj h2 hi ((decI_letter h1).trans (decI_letter h).symm)
    rfl
theorem decOpt_none {s : ByteArray} (h : (s.size < 32 ∨ 200 < s.size) ∨ ∀ i, i < 5 → decI kinds s i = false) : decOpt s = none := by
  unfold decOpt
  rcases h with h | h
  · rw [if_neg (by omega)]
  · split
    · rw [List.find?_eq_none.2 (fun i hi => by rw [h i (in5.1 hi)]; simp)]
      rfl
    · rfl
theorem validE_kind {e : E} {i : Nat} (hi : i < 5) (hk : e.kind = (i : Int)) : validE e = (kinds i).valid e := by
  unfold validE kindAt isKind
  rw [hk, decide_eq_true (by omega), decide_eq_true (by omega), Int.toNat_natCast]; rfl
theorem recE_kind {e : E} {i : Nat} (hi : i < 5) (hk : e.kind = (i : Int)) (hv : validE e = true) : recE e = (kinds i).record e := by
  unfold recE kindAt
  rw [if_pos hv, hk, Int.toNat_natCast]
theorem validE_ex {e : E} (h : validE e = true) : ∃ i : Nat, i < 5 ∧ e.kind = (i : Int) ∧ (kinds i).valid e = true := by
  have h' := h
  unfold validE at h'
  rw [Bool.and_eq_true] at h'
  obtain ⟨i, hi, hk⟩ := isKind_yes h'.1
  exact ⟨i, hi, hk, by rw [← validE_kind hi hk]; exact h⟩
/-- A valid entry's record reads as it. -/
theorem dec_rec {e : E} (h : validE e = true) : decOpt (recE e) = some e := by
  obtain ⟨i, hi, hk, hv⟩ := validE_ex h
  obtain ⟨hn, ho, hu⟩ := valid_parts hi hk hv
  have h1 := dec_record hi hk hv
  rw [recE_kind hi hk h, decOpt_at hi (rec_size hi hn ho) h1.2, h1.1]
/-- The two slices of what was decoded. -/
def DecS (e : E) (p : Value × Value × It) : Prop := (p.1.oneCell' = true ∧ p.2.1.oneCell' = true) ∧ ∀ (w0 w : World) (H : List It) (j : Nat), St w0 H w → H[j]? = some p.2.2 → EntAt w e p.1 p.2.1
theorem decodeU (s : ByteArray) (w : World) (hg : Good w) (hsz : s.size < 4294967281) :
    Calls Tryz.prog 56 #[.string s] w (Ret w (DecS (decE s)) (fun p => .tuple #[.agg ((decE s).cells p.1 p.2.1), .int .i64 (decC s)]) (fun p => [p.2.2])) := by
  refine (decodeE_any kinds kinds_fam s w hg hsz).mono fun en w' h => ?_
  rcases h with ⟨i, b, hi, hs, hd, h1, h2⟩ | ⟨hno, h1, h2⟩
  · have hF := kinds_fam.law i hi
    have hD := decOpt_at hi hs hd
    have e1 : decE s = (dE kinds s i).1 := by unfold decE; rw [hD]; rfl
    have e2 : decC s = 0 := by unfold decC; rw [hD]; rfl
    refine ⟨((kinds i).va b (dE kinds s i).1, (kinds i).vg b (dE kinds s i).1, (kinds i).it b (dE kinds s i).1), ⟨hF.one _ _, fun w0 w H j hst hj => ?_⟩, by rw [h1, e1, e2], h2⟩
    rw [e1]
    exact hF.at_ b j _ (dE0 i s) (s.extract 32 s.size, 0) H w0 w rfl rfl rfl hst hj
  · have hD := decOpt_none hno
    have e1 : decE s = E.zero := by unfold decE; rw [hD]; rfl
    have e2 : decC s = 11 := by unfold decC; rw [hD]; rfl
    refine ⟨(vnil, vnil, .nil), ⟨⟨rfl, rfl⟩, fun w0 w H j hst hj => ?_⟩, by rw [h1, e1, e2], h2.nil⟩
    rw [e1]
    exact entNil rfl rfl
end Go.Proofs.YtlkkiimmangplaaGreatDoor

/- The example of the chapter on entries. -/
namespace Go.Proofs.YtlkkiimmangplaaGreatDoor
open Go.RowKit
set_option linter.unusedVariables false
set_option linter.unusedSimpArgs false

/-- The example of the chapter. -/
def awE : E := { E.zero with kind := 2, name := ⟨#[80, 65, 89]⟩, target := ⟨#[80, 65, 89, 46, 77, 65, 83, 84, 69, 82]⟩ }
def awS : ByteArray := ⟨#[65, 80, 65, 89, 32, 32, 32, 32, 32, 32, 32, 32, 32, 32, 32, 32, 32, 32, 32, 32, 32, 32, 32, 32, 32, 32, 32, 32, 32, 32, 32, 32, 10, 80, 65, 89, 46, 77, 65, 83, 84, 69, 82]⟩
theorem cmpS_eq {p q : ByteArray} (h : p = q) : cmpS .eql p q = some true := by subst h; simp [cmpS]
theorem aw_valid : validE awE = true := by kernel_rfl
theorem aw_rec : recE awE = awS := by kernel_rfl
theorem aw_dec : decOpt awS = some awE := by rw [← aw_rec]; exact dec_rec aw_valid
theorem aw_key : keyE 2 ⟨#[80, 65, 89]⟩ = awS.extract 0 32 := by kernel_rfl
theorem aw_text : (⟨#[65, 80, 65, 89]⟩ : ByteArray) ++ blanks 28 ++ ⟨#[10, 80, 65, 89, 46, 77, 65, 83, 84, 69, 82]⟩ = awS := by kernel_rfl
def awT : List ByteArray := [⟨#[97, 108, 105, 97, 115, 32, 80, 65, 89]⟩, ⟨#[32, 32, 116, 97, 114, 103, 101, 116, 32, 80, 65, 89, 46, 77, 65, 83, 84, 69, 82]⟩]
theorem aw_lines : addL [kindLine 2 awE.name] ⟨#[116, 97, 114, 103, 101, 116]⟩ awE.target = awT := by kernel_rfl
theorem encAw (w : World) (hg : Good w) : Calls Tryz.prog 54 #[.agg (awE.cells vnil vnil)] w (RetV w (.tuple #[.string awS, .int .i64 0])) := by
  have h := encodeE_any awE vnil vnil w hg (entNil rfl rfl) (by decide)
  rw [aw_valid, aw_rec, if_pos rfl] at h
  exact h
theorem decAw (w : World) (hg : Good w) : Calls Tryz.prog 56 #[.string awS] w (Ret w (DecS awE) (fun p => .tuple #[.agg (awE.cells p.1 p.2.1), .int .i64 0]) (fun p => [p.2.2])) := by
  have h := decodeU awS w hg (by decide)
  have e1 : decE awS = awE := by unfold decE; rw [aw_dec]; rfl
  have e2 : decC awS = 0 := by unfold decC; rw [aw_dec]; rfl
  rw [e1, e2] at h
  exact h
theorem validAw (w : World) (hg : Good w) : Calls Tryz.prog 47 #[.agg (awE.cells vnil vnil)] w (RetV w (.bool true)) := by
  have h := validE_any awE vnil vnil w hg (entNil rfl rfl) (by decide)
  rw [aw_valid] at h
  exact h
theorem keyAw (w : World) : Calls Tryz.prog 49 #[.int .i64 2, .string ⟨#[80, 65, 89]⟩] w (RetV w (.string (awS.extract 0 32))) := by
  have h := keyE_any 2 ⟨#[80, 65, 89]⟩ w (by decide)
  rw [aw_key] at h
  exact h
theorem textAw (w : World) (hg : Good w) : Calls Tryz.prog 52 #[.agg (awE.cells vnil vnil)] w (Ret w (fun _ : Nat × Nat => True) (fun p => .slice (some ⟨p.1, 0, none⟩) 2 p.2) (fun p => [lnR p.1 p.2 awT])) := by
  have h := textAlias_any awE vnil vnil w hg (entNil rfl rfl) rfl aw_valid (by decide) (by decide)
  rw [aw_lines] at h
  exact h

set_option maxRecDepth 100000 in
theorem awake33_any  (w : World) (hg : Good w) :
    Calls Tryz.prog 45 #[] w (RetV w (.bool true)) := by
  refine enter Tryz.func45 rfl Tryz.ntmps45 rfl ?_
  refine WC.seq ?_
  refine WC.region ?_
  refine WL.p rfl rfl rfl (P.assign rfl) ?_
  refine WL.nil_ ?_
  refine End.seq ?_
  refine WC.seq ?_
  refine WC.region ?_
  refine WL.p rfl rfl rfl (P.build rfl (fun w => bo_34 Tryz.zeroValue34 (cs := #[_, _, _, _, _, _, _, _, _, _, _, _, _, _, _, _, _, _, _, _, _, _, _, _, _, _, _, _, _, _, _, _, _]) rfl rfl w)) ?_
  refine WL.alloc Tryz.zeroValue34 rfl rfl (fun b1 => ?_)
  refine WL.storeW 0 Tryz.sizeOf34 rfl rfl rfl rfl rfl rfl rfl ?_
  refine WL.nil_ ?_
  refine End.seq ?_
  refine WC.seq ?_
  refine WC.region ?_
  refine WL.p rfl rfl rfl (P.loadW 0 Tryz.isAgg34 Tryz.sizeOf34 rfl rfl rfl) ?_
  refine WL.callv (ent_of Tryz.func54 rfl rfl) rfl rfl rfl (fun w hs => encAw w (hg.st hs)) ?_
  refine WL.p rfl rfl rfl (P.move rfl) ?_
  refine WL.p rfl rfl rfl (P.extract rfl rfl) ?_
  refine WL.p rfl rfl rfl (P.extract rfl rfl) ?_
  refine WL.p rfl rfl rfl (P.assign rfl) ?_
  refine WL.p rfl rfl rfl (P.assign rfl) ?_
  refine WL.nil_ ?_
  refine End.seq ?_
  refine WC.seq ?_
  refine WC.region ?_
  refine WL.p rfl rfl rfl (P.move rfl) ?_
  refine WL.callx (ent_of Tryz.func56 rfl rfl) rfl rfl rfl (fun w hs => decAw w (hg.st hs)) (fun p hp => ?_)
  refine WL.p rfl rfl rfl (P.move rfl) ?_
  refine WL.p rfl rfl rfl (P.extract rfl rfl) ?_
  refine WL.p rfl rfl rfl (P.extract rfl rfl) ?_
  refine WL.alloc Tryz.zeroValue34 rfl rfl (fun b4 => ?_)
  refine WL.storeW 0 Tryz.sizeOf34 rfl rfl rfl (E.one _ hp.1.1 hp.1.2) rfl rfl rfl ?_
  refine WL.p rfl rfl rfl (P.assign rfl) ?_
  refine WL.nil_ ?_
  refine End.seq ?_
  refine WC.seq ?_
  refine WC.nil1 ?_
  apply WC.draws2 (al := [24]) (vs := [_, _, _, _, _, _, _, _, _, _, _, _, _, _, _, _, _, _, _, _, _, _, _, _, fun s => .slice (some ⟨(s 24).1, 0, none⟩) 2 (s 24).2, _, _, _, _, _, _, _, _, _, _]) (Hs := fun v HH b s => (bnew (b 24) (lnR (s 24).1 (s 24).2 awT) HH 0)) (by kernel_rfl) (by kernel_rfl) (by kernel_rfl)
  case steps =>
    refine Stps2.cons (Stp.p (fun b s hd => ⟨_, ⟨rfl, P.loadW 3 Tryz.isAgg34 Tryz.sizeOf34 rfl rfl rfl⟩, rfl, rfl⟩)) ?_
    refine Stps2.cons (Stp.callv (ent_of Tryz.func47 rfl rfl) (fun b s hd => ⟨_, _, rfl, rfl, fun w hs => validAw w (hg.st hs), rfl, rfl⟩)) ?_
    refine Stps2.cons (Stp.p (fun b s hd => ⟨_, ⟨rfl, P.move rfl⟩, rfl, rfl⟩)) ?_
    refine Stps2.cons (Stp.p (fun b s hd => ⟨_, ⟨rfl, P.move rfl⟩, rfl, rfl⟩)) ?_
    refine Stps2.cons (Stp.p (fun b s hd => ⟨_, ⟨rfl, P.cmp rfl rfl rfl⟩, rfl, rfl⟩)) ?_
    refine Stps2.cons (Stp.p (fun b s hd => ⟨_, ⟨rfl, P.pickT rfl rfl⟩, rfl, rfl⟩)) ?_
    refine Stps2.cons (Stp.p (fun b s hd => ⟨_, ⟨rfl, P.move rfl⟩, rfl, rfl⟩)) ?_
    refine Stps2.cons (Stp.p (fun b s hd => ⟨_, ⟨rfl, P.move rfl⟩, rfl, rfl⟩)) ?_
    refine Stps2.cons (Stp.callv (ent_of Tryz.func61 rfl rfl) (fun b s hd => ⟨_, _, rfl, rfl, fun w hs => blanks_any 28 w (by decide), rfl, rfl⟩)) ?_
    refine Stps2.cons (Stp.p (fun b s hd => ⟨_, ⟨rfl, P.cat rfl rfl (by decide)⟩, rfl, rfl⟩)) ?_
    refine Stps2.cons (Stp.p (fun b s hd => ⟨_, ⟨rfl, P.cat rfl rfl (by decide)⟩, rfl, rfl⟩)) ?_
    refine Stps2.cons (Stp.p (fun b s hd => ⟨_, ⟨rfl, P.cmps rfl rfl (cmpS_eq aw_text.symm)⟩, rfl, rfl⟩)) ?_
    refine Stps2.cons (Stp.p (fun b s hd => ⟨_, ⟨rfl, P.pickT rfl rfl⟩, rfl, rfl⟩)) ?_
    refine Stps2.cons (Stp.p (fun b s hd => ⟨_, ⟨rfl, P.move rfl⟩, rfl, rfl⟩)) ?_
    refine Stps2.cons (Stp.p (fun b s hd => ⟨_, ⟨rfl, P.move rfl⟩, rfl, rfl⟩)) ?_
    refine Stps2.cons (Stp.p (fun b s hd => ⟨_, ⟨rfl, P.cmp rfl rfl rfl⟩, rfl, rfl⟩)) ?_
    refine Stps2.cons (Stp.p (fun b s hd => ⟨_, ⟨rfl, P.pickT rfl rfl⟩, rfl, rfl⟩)) ?_
    refine Stps2.cons (Stp.p (fun b s hd => ⟨_, ⟨rfl, P.move rfl⟩, rfl, rfl⟩)) ?_
    refine Stps2.cons (Stp.p (fun b s hd => ⟨_, ⟨rfl, P.loadW 3 Tryz.isAgg34 Tryz.sizeOf34 rfl rfl rfl⟩, rfl, rfl⟩)) ?_
    refine Stps2.cons (Stp.p (fun b s hd => ⟨_, ⟨rfl, P.loadW 1 Tryz.isAgg34 Tryz.sizeOf34 rfl rfl rfl⟩, rfl, rfl⟩)) ?_
    refine Stps2.cons (Stp.callv (ent_of Tryz.func34 rfl rfl) (fun b s hd => ⟨_, _, rfl, rfl, fun w hs => by have := same_any awE awE vnil vnil p.1 p.2.1 w (entNil rfl rfl) (hp.2 _ _ _ 2 hs rfl); rw [decide_eq_true rfl] at this; exact this, rfl, rfl⟩)) ?_
    refine Stps2.cons (Stp.p (fun b s hd => ⟨_, ⟨rfl, P.pickT rfl rfl⟩, rfl, rfl⟩)) ?_
    refine Stps2.cons (Stp.p (fun b s hd => ⟨_, ⟨rfl, P.move rfl⟩, rfl, rfl⟩)) ?_
    refine Stps2.cons (Stp.p (fun b s hd => ⟨_, ⟨rfl, P.loadW 3 Tryz.isAgg34 Tryz.sizeOf34 rfl rfl rfl⟩, rfl, rfl⟩)) ?_
    refine Stps2.cons (Stp.callx2 0 (ent_of Tryz.func52 rfl rfl) rfl (fun b s hb hd => ⟨_, _, _, _, rfl, rfl, fun w hs => textAw w (hg.st hs), fun q => rfl, ⟨_, rfl⟩, fun q => rfl⟩)) ?_
    refine Stps2.cons (Stp.p (fun b s hd => ⟨_, ⟨rfl, P.lenR Tryz.underlying48 rfl⟩, rfl, rfl⟩)) ?_
    refine Stps2.cons (Stp.p (fun b s hd => ⟨_, ⟨rfl, P.cmp rfl rfl rfl⟩, rfl, rfl⟩)) ?_
    refine Stps2.cons (Stp.p (fun b s hd => ⟨_, ⟨rfl, P.pickT rfl rfl⟩, rfl, rfl⟩)) ?_
    refine Stps2.cons (Stp.p (fun b s hd => ⟨_, ⟨rfl, P.move rfl⟩, rfl, rfl⟩)) ?_
    refine Stps2.cons (Stp.callv (ent_of Tryz.func49 rfl rfl) (fun b s hd => ⟨_, _, rfl, rfl, fun w hs => keyAw w, rfl, rfl⟩)) ?_
    refine Stps2.cons (Stp.p (fun b s hd => ⟨_, ⟨rfl, P.move rfl⟩, rfl, rfl⟩)) ?_
    refine Stps2.cons (Stp.p (fun b s hd => ⟨_, ⟨rfl, P.subH Tryz.underlying9 rfl rfl (by decide) (by decide)⟩, rfl, rfl⟩)) ?_
    refine Stps2.cons (Stp.p (fun b s hd => ⟨_, ⟨rfl, P.cmps rfl rfl (cmpS_eq rfl)⟩, rfl, rfl⟩)) ?_
    refine Stps2.cons (Stp.p (fun b s hd => ⟨_, ⟨rfl, P.pickT rfl rfl⟩, rfl, rfl⟩)) ?_
    refine Stps2.cons (Stp.p (fun b s hd => ⟨_, ⟨rfl, P.assign rfl⟩, rfl, rfl⟩)) ?_
    exact Stps2.nil
  case h0 => exact fun s => rfl
  case agree => exact AgrAll.cons (AgrL.no (fun s x => rfl) (AgrL.no (fun s x => rfl) (AgrL.no (fun s x => rfl) (AgrL.no (fun s x => rfl) (AgrL.no (fun s x => rfl) (AgrL.no (fun s x => rfl) (AgrL.no (fun s x => rfl) (AgrL.no (fun s x => rfl) (AgrL.no (fun s x => rfl) (AgrL.no (fun s x => rfl) (AgrL.no (fun s x => rfl) (AgrL.no (fun s x => rfl) (AgrL.no (fun s x => rfl) (AgrL.no (fun s x => rfl) (AgrL.no (fun s x => rfl) (AgrL.no (fun s x => rfl) (AgrL.no (fun s x => rfl) (AgrL.no (fun s x => rfl) (AgrL.no (fun s x => rfl) (AgrL.no (fun s x => rfl) (AgrL.no (fun s x => rfl) (AgrL.no (fun s x => rfl) (AgrL.no (fun s x => rfl) (AgrL.no (fun s x => rfl) (AgrL.yes (by kernel_rfl) (AgrL.yes (by kernel_rfl) (AgrL.yes (by kernel_rfl) (AgrL.yes (by kernel_rfl) (AgrL.yes (by kernel_rfl) (AgrL.yes (by kernel_rfl) (AgrL.yes (by kernel_rfl) (AgrL.yes (by kernel_rfl) (AgrL.yes (by kernel_rfl) (AgrL.yes (by kernel_rfl) (AgrL.yes (by kernel_rfl) (AgrL.nil)))))))))))))))))))))))))))))))))))) (AgrAll.nil)
  intro s4
  refine End.shapeD (by kernel_rfl) (new := [(0, _), (17, _), (18, _), (19, _), (20, _), (21, _), (22, _), (23, _), (24, _), (25, _), (26, _), (27, _), (28, _), (29, _), (30, _), (31, _), (32, _), (33, _), (34, _), (35, _), (36, _), (37, _), (38, _), (39, _), (40, _), (41, _), (42, _), (43, _), (44, _), (45, _), (46, _), (47, _), (48, _), (49, _), (50, _)]) (H' := [_, _, _, _]) (Env.sub_cons rfl (Env.sub_cons rfl (Env.sub_cons rfl (Env.sub_cons rfl (Env.sub_cons rfl (Env.sub_cons rfl (Env.sub_cons rfl (Env.sub_cons rfl (Env.sub_cons rfl (Env.sub_cons rfl (Env.sub_cons rfl (Env.sub_cons rfl (Env.sub_cons rfl (Env.sub_cons rfl (Env.sub_cons rfl (Env.sub_cons rfl (Env.sub_cons rfl (Env.sub_cons rfl (Env.sub_cons rfl (Env.sub_cons rfl (Env.sub_cons rfl (Env.sub_cons rfl (Env.sub_cons rfl (Env.sub_cons rfl (Env.sub_cons rfl (Env.sub_cons rfl (Env.sub_cons rfl (Env.sub_cons rfl (Env.sub_cons rfl (Env.sub_cons rfl (Env.sub_cons rfl (Env.sub_cons rfl (Env.sub_cons rfl (Env.sub_cons rfl (Env.sub_cons rfl (Env.sub_nil)))))))))))))))))))))))))))))))))))) rfl ?_
  refine End.seq ?_
  refine WC.ret ?_
  refine End.ret1 rfl rfl ?_
  exact fun w' hs' => RetV.of rfl hs'

end Go.Proofs.YtlkkiimmangplaaGreatDoor

/- The lift of a row with listed variables, the world's shape kept. -/
namespace Go.Proofs.YtlkkiimmangplaaGreatDoor
open Go
variable {H : Type} {enc : TypeId × Value → H}
theorem lift_and_shaped {a : Assume} {C : Checked} {os : Os} {f : FuncId} {fn : Func} {s : ChangeSpec} {conds : List PathCond} {apart fresh handsOn again : Bool} {X : World → Array Value → Prop}
    (hX : ∀ (w w' : World) (args : Array Value), w.heap = w'.heap → X w args → X w' args)
    (own : ownKnob C.prog.godebug = none) (started : os.Started) (noInit : C.prog.inits.idxOf? f = none) (hfn : C.prog.funcs[f]? = some fn)
    (witness : ∃ (w : World) (tape : Tape) (i : Input), w.os = os ∧ (w.forCall tape i).Shaped C.prog ∧ i.vars = [] ∧ Input.okWide C.prog (w.forCall tape i) .any w.heap.size f i ∧
      ((s.pre enc C.prog fn conds apart (w.forCall tape i).memory i.args ∧ X (w.forCall tape i).memory i.args) ∧ sizedMet enc C.prog fn (OpenSpec.ofChange s) apart (w.forCall tape i).memory i.args) ∧ a.holds C.prog (lone (Frame.enter C.prog f i.args .normal) [] (w.forCall tape i)))
    (contract : ∀ (W : World) (base : Nat) (args : Array Value) (ds gs : List (DataW H)) (before : List MemPlace),
      (∀ (j : Nat) t v, fn.params[j]? = some t → args[j]? = some v → Value.okWide C.prog W .any base t v) →
      DataW.Whole enc C.prog fn.params.toList s.vars apart W args.toList ds gs before →
      conds.all (PathCond.test C.prog ⟨fn.params.toList, ds, s.plain.varTypes C.prog, gs⟩) = true →
      (DataW.weightsEach C.prog (fn.params.toList ++ s.plain.varTypes C.prog) (ds ++ gs)).all (· ≤ reachBytes) = true → X W args →
      W.ShapedOpen C.prog →
      a.holds C.prog (lone (Frame.enter C.prog f args .normal) [] W) →
      Calls C.prog f args W fun e W' => ∃ v, e = .returned v ∧ s.post enc C.prog fn apart fresh handsOn again W args v W') :
    ReturnsInHanded a C os f .any (fun w args => (s.pre enc C.prog fn conds apart w args ∧ X w args) ∧ sizedMet enc C.prog fn (OpenSpec.ofChange s) apart w args) (s.post enc C.prog fn apart fresh handsOn again) := by
  refine returnsInHanded_of_calls own started noInit witness ?_
  intro w tape i _ hsh _ hok hpre hholds
  obtain ⟨_, _, _, fn', hfn', _, _, _, _, hval⟩ := hok
  have e : fn' = fn := Option.some.inj (hfn'.symm.trans hfn)
  subst e
  obtain ⟨⟨⟨ds, gs, before, hw, hc⟩, hx⟩, hz⟩ := hpre
  have hw' := DataW.Whole.of_heap (w' := w.forCall tape i) (by rfl) hw
  refine (contract (w.forCall tape i) w.heap.size i.args ds gs before hval hw' hc (hz.weights hw) (hX _ _ _ (by rfl) hx) hsh hholds).mono fun e W' ⟨v, he, hp⟩ => ?_
  subst he
  exact ChangeSpec.post_blind hp
end Go.Proofs.YtlkkiimmangplaaGreatDoor

/- Behind a call that leaves all as it was: the arguments read as before, and the row's word behind the call follows. -/
namespace Go.Proofs.YtlkkiimmangplaaGreatDoor
open Go Go.RowKit Go.ChangeShapes Go.WideShapes Go.ChangeAt
variable {H : Type} {enc : TypeId × Value → H} {P : Program} {w w' : World}
/-- The types that a type is made of. -/
def subT : TypeDesc → List TypeId
  | .pointer e | .slice e | .array _ e | .map _ e => [e]
  | .struct fs => fs.toList.map (·.type)
  | _ => []
/-- Types under which no slice has elements without cells. -/
def TClosed (P : Program) (S : TypeId → Prop) : Prop := ∀ t d, S t → P.underlying t = some d → (∀ e ∈ subT d, S e) ∧ ∀ e, d = .slice e → 0 < P.cellsOf e
theorem trod_sp {sp : Nat → Bool} {S : TypeId → Prop} (hc : TClosed P S) : ∀ (n : Nat) (t : TypeId) (cs : List Value) (x : DataW H × List MemPlace), DataW.trod enc P w 0 (fun _ => true) true n t cs = some x → (∀ p ∈ x.2, sp p.block = true) →
    S t → DataW.trod enc P w 0 sp true n t cs = some x := by
  intro n
  induction n with
  | zero => intro t cs x h; simp [DataW.trod] at h
  | succ n ih =>
    intro t cs x h hs hS
    rw [DataW.trod_step] at h ⊢
    unfold DataW.trodStep at h ⊢
    split at h
    case h_6 e a ht =>
      have hS' := (hc _ _ hS ht).1 e (by simp [subT])
      simp only [Option.map_eq_some_iff, Option.bind_eq_some_iff] at h ⊢
      obtain ⟨y, ⟨c, h1, h2⟩, rfl⟩ := h
      exact ⟨y, ⟨c, h1, ih _ _ _ h2 (fun p hp => hs p (by simp [hp])) hS'⟩, rfl⟩
    case h_8 e a len cap ht =>
      simp only at h ⊢
      split at h
      · rename_i hcond
        rw [if_pos hcond]
        simp only [Option.bind_eq_some_iff, Option.map_eq_some_iff, if_true] at h ⊢
        obtain ⟨elems, h1, rest, h2, rfl⟩ := h
        have h0 := (hc _ _ hS ht).2 e rfl
        have hS' := (hc _ _ hS ht).1 e (by simp [subT])
        have hmem : ∀ y ∈ elems ++ rest, ∀ p ∈ y.2, sp p.block = true := fun y hy p hp => hs p (by simp only [List.mem_append, List.mem_flatMap]; exact .inr ⟨y, List.mem_append.1 hy, hp⟩)
        refine ⟨elems, mapM_carry h1 (fun i y _ hy hv => ?_), rest, ?_, rfl⟩
        · simp only [Option.bind_eq_some_iff] at hv ⊢
          obtain ⟨c, g1, g2⟩ := hv
          exact ⟨c, g1, ih _ _ _ g2 (hmem y (List.mem_append_left _ hy)) hS'⟩
        · have hrest : List.mapM (fun j => (w.cells? 0 (a.add ((len + j) * P.cellsOf e)) (P.cellsOf e)).bind (DataW.trod enc P w 0 sp true n e)) (List.range (cap - len)) = some rest := mapM_carry h2 (fun i y _ hy hv => by
            simp only [Option.bind_eq_some_iff] at hv ⊢
            obtain ⟨c, g1, g2⟩ := hv
            exact ⟨c, g1, ih _ _ _ g2 (hmem y (List.mem_append_right _ hy)) hS'⟩)
          by_cases hr : rest = []
          · split
            · exact hrest
            · rw [hr]
          · have hlen : 0 < (elems.length + rest.length) * P.cellsOf e := Nat.mul_pos (by have := List.length_pos_iff.2 hr; omega) h0
            have hb : sp a.block = true := hs (.cell a.block (a.off + 0)) (by simp only [List.mem_append]; exact .inl (MemPlace.mem_row.2 ⟨0, hlen, rfl⟩))
            rw [if_pos hb]
            exact hrest
      · cases h
    case h_9 fs cs ht =>
      split at h
      · rename_i hl
        rw [if_pos hl]
        simp only [Option.map_eq_some_iff] at h ⊢
        obtain ⟨xs, h1, rfl⟩ := h
        exact ⟨xs, mapM_carry h1 (fun f y hf hy hv => ih _ _ _ hv (fun p hp => hs p (by simp only [List.mem_flatMap]; exact ⟨y, hy, hp⟩)) ((hc _ _ hS ht).1 f.type (by simp only [subT, List.mem_map]; exact ⟨f, hf, rfl⟩))), rfl⟩
      · cases h
    case h_10 cs0 m e ht =>
      split at h
      · rename_i hl
        rw [if_pos hl]
        simp only [Option.map_eq_some_iff] at h ⊢
        obtain ⟨xs, h1, rfl⟩ := h
        exact ⟨xs, mapM_carry h1 (fun f y _ hy hv => ih _ _ _ hv (fun p hp => hs p (by simp only [List.mem_flatMap]; exact ⟨y, hy, hp⟩)) ((hc _ _ hS ht).1 e (by simp [subT]))), rfl⟩
      · cases h
    case h_14 k e b ht =>
      split at h
      · rename_i es clock hbk
        split at h
        · rename_i hcond
          rw [if_pos hcond]
          simp only [Option.bind_eq_some_iff] at h ⊢
          obtain ⟨entries, he, hd⟩ := h
          split at hd
          · rename_i hris
            simp only [Option.some.injEq] at hd
            subst hd
            refine ⟨entries, mapM_carry he (fun x y _ hy hv => ?_), by simp [hris]⟩
            simp only [Option.bind_eq_some_iff] at hv ⊢
            obtain ⟨key, hk, hz⟩ := hv
            refine ⟨key, hk, ?_⟩
            split at hz
            · rename_i hf
              rw [if_pos hf]
              simp only [Option.map_eq_some_iff] at hz ⊢
              obtain ⟨q, hq, rfl⟩ := hz
              exact ⟨q, ih _ _ _ hq (fun p hp => hs p (by simp only [List.mem_cons, List.mem_flatMap]; right; exact ⟨_, hy, hp⟩)) ((hc _ _ hS ht).1 e (by simp [subT])), rfl⟩
            · cases hz
          · cases hd
        · cases h
      · cases h
    all_goals exact h

theorem trodAll_kept {sp : Nat → Bool} {S : TypeId → Prop} (hc : TClosed P S) : ∀ {ts : List TypeId} {vs : List Value} {ds : List (DataW H)} {ps : List MemPlace},
    DataW.TrodAll enc P w 0 (fun _ => true) true ts vs ds ps → (∀ p ∈ ps, w.sameAt w' p) → (∀ p ∈ ps, sp p.block = true) → (∀ t ∈ ts, S t) → DataW.TrodAll enc P w' 0 sp true ts vs ds ps
  | [], [], [], _, h, _, _, _ => h
  | _ :: _, _ :: _, _ :: _, _, ⟨p, q, ⟨n, hn⟩, hs, e⟩, h1, h2, h3 => by
    subst e
    refine ⟨p, q, ⟨n, ?_⟩, trodAll_kept hc hs (fun x hx => h1 x (List.mem_append_right _ hx)) (fun x hx => h2 x (List.mem_append_right _ hx)) (fun t ht => h3 t (List.mem_cons_of_mem _ ht)), rfl⟩
    exact trod_sp hc n _ _ _ (DataW.trod_carry n _ _ _ hn (fun x hx => h1 x (List.mem_append_left _ hx))) (fun x hx => h2 x (List.mem_append_left _ hx)) (h3 _ List.mem_cons_self)
/-- The word behind the call: it answers true, and all that there was is as it was. -/
theorem post_kept {f : Func} {s : ChangeSpec} {W W' : World} {args : Array Value} {ds : List (DataW H)} {before : List MemPlace} {S : TypeId → Prop} (hc : TClosed P S) (hS : ∀ t ∈ f.params.toList, S t) (hbool : P.underlying 4 = some .bool)
    (hv : s.vars = []) (hf : f.resultTypes = #[4]) (hs : s.fn H ds = { results := [.lit (.bool true)], args := ds })
    (hW : DataW.Whole enc P f.params.toList s.vars false W args.toList ds [] before) (hb : Below W.heap.size W W') : s.post enc P f false true false false W args (.bool true) W' := by
  have hlt := hW.lt
  have hW0 := hW
  obtain ⟨p, q, hA, hV, rfl, hz, _⟩ := hW
  rw [hv] at hV
  obtain ⟨_, rfl⟩ := trodVars_none hV
  have hold : ∀ x ∈ p ++ [], (fun b => decide (b < W.heap.size)) x.block = true := fun x hx => by simpa using hlt x hx
  have hsame : ∀ x ∈ p, W.sameAt W' x := fun x hx => hb.same (hlt x (by simpa using hx))
  refine ⟨ds, [], p ++ [], [], p, [], hW0, ?_, ?_, ?_, World.keptBut_mono (fun x hx => ⟨hx, .inr (.inl (by simpa using hx))⟩) (hb.frame (· ∈ p ++ [])), fun h => by cases h⟩
  · rw [hf, List.append_nil, hs]
    exact trodAll_mk1 (shut_bool hbool _)
  · rw [List.append_nil, hs]
    exact trodAll_kept hc hA hsame (fun x hx => hold x (by simpa using hx)) hS
  · rw [hv, List.append_nil, hs]
    exact rfl
end Go.Proofs.YtlkkiimmangplaaGreatDoor

/- What comes in, opened: numbers, texts, slices, entries. -/
namespace Go.Proofs.YtlkkiimmangplaaGreatDoor
open Go Go.RowKit
set_option linter.unusedVariables false
set_option linter.unusedSimpArgs false

set_option maxRecDepth 100000

open Go.ChangeShapes Go.WideShapes Go.ChangeAt
variable {H : Type} {enc : TypeId × Value → H} {w : World}
abbrev Wok (t : TypeId) (d : DataW H) : Prop := (d.weights Tryz.prog t).all (fun n => decide (n ≤ reachBytes)) = true
theorem wok_each : ∀ {ts : List TypeId} {ds : List (DataW H)}, (DataW.weightsEach Tryz.prog ts ds).all (fun n => decide (n ≤ reachBytes)) = true → ∀ (i : Nat) (t : TypeId) (d : DataW H), ts[i]? = some t → ds[i]? = some d → Wok t d
  | [], _, _, i, t, d, ht, _ => by simp at ht
  | _ :: _, [], _, i, t, d, _, hd => by simp at hd
  | t0 :: ts, d0 :: ds, h, i, t, d, ht, hd => by
    unfold DataW.weightsEach at h
    rw [List.all_append, Bool.and_eq_true] at h
    cases i with
    | zero => simp at ht hd; subst ht; subst hd; exact h.1
    | succ i => exact wok_each h.2 i t d (by simpa using ht) (by simpa using hd)
theorem wok_all {e : TypeId} : ∀ {ds : List (DataW H)}, (DataW.weightsAll Tryz.prog e ds).all (fun n => decide (n ≤ reachBytes)) = true → ∀ d ∈ ds, Wok e d
  | [], _, d, hd => by cases hd
  | d0 :: ds, h, d, hd => by
    unfold DataW.weightsAll at h
    rw [List.all_append, Bool.and_eq_true] at h
    rcases List.mem_cons.1 hd with rfl | hd
    · exact h.1
    · exact wok_all h.2 d hd
theorem reach_is : reachBytes = 140737488351232 := rfl
theorem wok_string {t : TypeId} {s : ByteArray} (h : Wok (H := H) t (.lit (.string s.data.toList))) : s.size ≤ 140737488351232 := by
  unfold Wok DataW.weights at h
  rw [List.all_cons, Bool.and_eq_true, decide_eq_true_eq, reach_is] at h
  exact h.1
theorem add_zero (a : Addr) : a.add 0 = a := by simp [Addr.add]
theorem cut_list (cs : List Value) (o n m : Nat) (h : o + n = m) : cs.drop o = (cs.drop o).take n ++ cs.drop m := by
  subst h
  rw [← List.drop_drop]
  exact (List.take_append_drop _ _).symm
/-- A slice whose elements read. -/
theorem open_slice_cells {t e sz : Nat} {fuel : Nat} {cs : List Value} {x : DataW H × List MemPlace} (ht : Tryz.prog.underlying t = some (.slice e)) (hsz : Tryz.prog.cellsOf e = sz) (h0 : 0 < sz) (hby : 1 ≤ Tryz.prog.bytesOf e)
    (h : DataW.trod enc Tryz.prog w 0 (fun _ => true) true fuel t cs = some x) (hw : Wok t x.1) {R : List Value → Prop} (hR : ∀ n cs y, DataW.trod enc Tryz.prog w 0 (fun _ => true) true n e cs = some y → Wok e y.1 → R cs) :
    ∃ (A : Option Addr) (len cap : Nat) (xs : List (List Value)), cs = [.slice A len cap] ∧ len ≤ cap ∧ cap ≤ 140737488351232 ∧ xs.length = len ∧ (∀ c ∈ xs, R c) ∧ (A = none → cap = 0) ∧
      (0 < len → ∃ b off, A = some ⟨b, off, none⟩ ∧ ∀ (k : Nat) (c : List Value), xs[k]? = some c → ∀ (i : Nat) (u : Value), c[i]? = some u → w.cell? ⟨b, off + (k : Int).toNat * sz + i, none⟩ = some u) := by
  rcases DataW.trod_slice ht h with ⟨rfl, rfl⟩ | ⟨a, len, cap, elems, rest, n, rfl, rfl, rfl, _, hl, hm, hlen, hel, hrest, _⟩
  · exact ⟨none, 0, 0, [], rfl, Nat.le_refl _, by decide, rfl, (fun c hc => by cases hc), (fun _ => rfl), fun h => absurd h (by decide)⟩
  · have hr := (hrest rfl).1
    have hw1 : ((elems.length + rest.length) * Tryz.prog.bytesOf e ≤ reachBytes) ∧ (DataW.weightsAll Tryz.prog e (elems.map (·.1))).all (fun n => decide (n ≤ reachBytes)) = true := by
      unfold Wok at hw
      unfold DataW.weights at hw
      rw [ht] at hw
      simp only [List.length_map, List.all_cons, List.all_append, Bool.and_eq_true, decide_eq_true_eq] at hw
      exact ⟨hw.1, hw.2.1⟩
    have hcap : cap ≤ 140737488351232 := by
      have h1 : (elems.length + rest.length) * 1 ≤ (elems.length + rest.length) * Tryz.prog.bytesOf e := Nat.mul_le_mul_left _ hby
      have := hw1.1
      rw [reach_is] at this
      omega
    have hE : ∀ i, i < len → ∃ c y, w.cells? 0 (a.add (i * sz)) sz = some c ∧ DataW.trod enc Tryz.prog w 0 (fun _ => true) true n e c = some y ∧ elems[i]? = some y := fun i hi => by
      have h1 := hel i hi
      rw [hsz, List.getElem?_eq_getElem (by omega)] at h1
      obtain ⟨c, h2, h3⟩ := Option.bind_eq_some_iff.1 h1
      exact ⟨c, _, h2, h3, List.getElem?_eq_getElem (by omega)⟩
    refine ⟨some a, len, cap, (List.range len).map (fun i => (w.cells? 0 (a.add (i * sz)) sz).getD []), rfl, hl, hcap, by simp, ?_, (fun h => by cases h), ?_⟩
    · intro c hc
      obtain ⟨i, hi, rfl⟩ := List.mem_map.1 hc
      obtain ⟨c, y, h2, h3, h4⟩ := hE i (List.mem_range.1 hi)
      rw [h2]
      exact hR n c y h3 (wok_all hw1.2 y.1 (List.mem_map.2 ⟨y, List.mem_of_getElem? h4, rfl⟩))
    · intro hp
      obtain ⟨c0, y0, h2, _, _⟩ := hE 0 hp
      obtain ⟨_, hl0, hc0⟩ := World.cells?_some h2
      have h5 := hc0 0 h0
      rw [List.getElem?_eq_getElem (by omega), Nat.zero_mul, add_zero, add_zero] at h5
      have hs := World.cell?_spot h5
      obtain ⟨b, off, sp⟩ := a
      simp only at hs
      subst hs
      refine ⟨b, off, rfl, fun k c hk i u hu => ?_⟩
      rw [List.getElem?_map] at hk
      obtain ⟨k', hk', rfl⟩ := Option.map_eq_some_iff.1 hk
      have hkl : k < len := by
        rcases Nat.lt_or_ge k len with h | h
        · exact h
        · rw [List.getElem?_eq_none (by simpa using h)] at hk'; cases hk'
      rw [List.getElem?_range hkl] at hk'
      simp at hk'
      subst hk'
      obtain ⟨c, y, h6, _, _⟩ := hE k hkl
      rw [h6] at hu
      simp only [Option.getD_some] at hu
      obtain ⟨_, hl6, hc6⟩ := World.cells?_some h6
      have hi : i < sz := by
        have := (List.getElem?_eq_some_iff.1 hu).1
        omega
      have := hc6 i hi
      rw [add0, add0, hu] at this
      simpa using this
theorem choose_list {α : Type} {E : α → List Value} {p : α → Prop} : ∀ {xs : List (List Value)}, (∀ c ∈ xs, ∃ y, c = E y ∧ p y) → ∃ ys : List α, xs = ys.map E ∧ ∀ y ∈ ys, p y
  | [], _ => ⟨[], rfl, fun y hy => by cases hy⟩
  | c :: xs, h => by
    obtain ⟨y, rfl, hy⟩ := h c (by simp)
    obtain ⟨ys, rfl, hys⟩ := choose_list (xs := xs) (fun c hc => h c (by simp [hc]))
    exact ⟨y :: ys, rfl, fun z hz => by
      rcases List.mem_cons.1 hz with rfl | hz
      · exact hy
      · exact hys z hz⟩
/-- A slice as my reading says it. -/
theorem open_sl {α : Type} (E : α → List Value) (p : α → Prop) {t e sz : Nat} {fuel : Nat} {cs : List Value} {x : DataW H × List MemPlace} (ht : Tryz.prog.underlying t = some (.slice e)) (hsz : Tryz.prog.cellsOf e = sz) (h0 : 0 < sz) (hby : 1 ≤ Tryz.prog.bytesOf e)
    (h : DataW.trod enc Tryz.prog w 0 (fun _ => true) true fuel t cs = some x) (hw : Wok t x.1) (hR : ∀ n cs y, DataW.trod enc Tryz.prog w 0 (fun _ => true) true n e cs = some y → Wok e y.1 → ∃ y, cs = E y ∧ p y) :
    ∃ (A : Option Addr) (cap : Nat) (ys : List α), cs = [.slice A ys.length cap] ∧ ys.length ≤ cap ∧ cap ≤ 140737488351232 ∧ (∀ y ∈ ys, p y) ∧ Sl E sz w A ys ∧ (A = none → cap = 0) := by
  obtain ⟨A, len, cap, xs, rfl, h1, h2, rfl, h4, h6, h5⟩ := open_slice_cells ht hsz h0 hby h hw hR
  obtain ⟨ys, rfl, hp⟩ := choose_list h4
  rw [List.length_map] at h1 h5 ⊢
  refine ⟨A, cap, ys, rfl, h1, h2, hp, ⟨by omega, fun hpos => ?_⟩, h6⟩
  obtain ⟨b, off, rfl, hc⟩ := h5 hpos
  exact ⟨b, off, rfl, fun k y hk i u hu => hc k (E y) (by rw [List.getElem?_map, hk]; rfl) i u hu⟩
abbrev I64 (n : Int) : Prop := -9223372036854775808 ≤ n ∧ n ≤ 9223372036854775807
theorem wf_i64 {n : Int} (h : (Lit.int .i64 n).wf = true) : I64 n := by
  simp [Lit.wf, IntKind.min, IntKind.max, IntKind.signed, IntKind.bits] at h
  unfold I64; omega
theorem bytes3 : 1 ≤ Tryz.prog.bytesOf 3 := by rw [show Tryz.prog.bytesOf 3 = 8 by kernel_rfl]; decide
theorem bytes51 : 1 ≤ Tryz.prog.bytesOf 51 := by rw [show Tryz.prog.bytesOf 51 = 32 by kernel_rfl]; decide
theorem cells3 : Tryz.prog.cellsOf 3 = 1 := by kernel_rfl
theorem cells4 : Tryz.prog.cellsOf 4 = 1 := by kernel_rfl
theorem cells9 : Tryz.prog.cellsOf 9 = 1 := by kernel_rfl
theorem cells22 : Tryz.prog.cellsOf 22 = 1 := by kernel_rfl
theorem cells32 : Tryz.prog.cellsOf 32 = 1 := by kernel_rfl
theorem cells31 : Tryz.prog.cellsOf 31 = 21 := by kernel_rfl
theorem cells34 : Tryz.prog.cellsOf 34 = 33 := by kernel_rfl
theorem cells51 : Tryz.prog.cellsOf 51 = 3 := by kernel_rfl
variable {n : Nat} {cs : List Value} {x : DataW H × List MemPlace}
abbrev Td (enc : TypeId × Value → H) (w : World) (n t : Nat) (cs : List Value) (x : DataW H × List MemPlace) : Prop := DataW.trod enc Tryz.prog w 0 (fun _ => true) true n t cs = some x
theorem op3 (h : Td enc w n 3 cs x) : ∃ k, cs = [.int .i64 k] ∧ I64 k := by
  obtain ⟨k, h1, _, h2⟩ := DataW.trod_int Tryz.underlying3 h
  exact ⟨k, h1, wf_i64 h2⟩
theorem op4 (h : Td enc w n 4 cs x) : ∃ b, cs = [.bool b] := by
  obtain ⟨k, h1, _⟩ := DataW.trod_bool Tryz.underlying4 h
  exact ⟨k, h1⟩
theorem op9 (h : Td enc w n 9 cs x) (hw : Wok 9 x.1) : ∃ s, cs = [.string s] ∧ s.size ≤ 140737488351232 := by
  obtain ⟨s, h1, rfl, _⟩ := DataW.trod_string Tryz.underlying9 h
  exact ⟨s, h1, wok_string hw⟩
theorem op22 (h : Td enc w n 22 cs x) (hw : Wok 22 x.1) : ∃ (A : Option Addr) (cap : Nat) (ys : List Int), cs = [.slice A ys.length cap] ∧ ys.length ≤ cap ∧ cap ≤ 140737488351232 ∧ (∀ y ∈ ys, I64 y) ∧ Sl encI 1 w A ys ∧ (A = none → cap = 0) :=
  open_sl encI I64 Tryz.underlying22 cells3 (by decide) bytes3 h hw (fun n cs y h _ => op3 h)
set_option maxRecDepth 100000 in
theorem op51 (h : Td enc w n 51 cs x) (hw : Wok 51 x.1) : ∃ g : Gr, cs = g.cells ∧ (g.who.size ≤ 140737488351232 ∧ I64 g.level) := by
  obtain ⟨xs, m, rfl, rfl, hl, hxs, hel⟩ := DataW.trod_struct Tryz.underlying51 h
  have hw' : (DataW.weightsEach Tryz.prog [9, 4, 3] (xs.map (·.1))).all (fun n => decide (n ≤ reachBytes)) = true := by
    unfold Wok at hw
    unfold DataW.weights at hw
    rw [Tryz.underlying51] at hw
    exact hw
  rw [cells51] at hl
  replace hxs : xs.length = 3 := hxs
  have g0 : Td enc w m 9 ((cs.drop 0).take 1) xs[0] := by
    have g : DataW.trod enc Tryz.prog w 0 (fun _ => true) true m 9 ((cs.drop 0).take (Tryz.prog.cellsOf 9)) = xs[0]? := hel 0 _ rfl
    rw [cells9, List.getElem?_eq_getElem (by omega)] at g
    exact g
  have q0 : Wok 9 xs[0].1 := wok_each hw' 0 _ _ rfl (by rw [List.getElem?_map, List.getElem?_eq_getElem (by omega)]; rfl)
  obtain ⟨f0, e0, b0⟩ := op9 g0 q0
  have g1 : Td enc w m 4 ((cs.drop 1).take 1) xs[1] := by
    have g : DataW.trod enc Tryz.prog w 0 (fun _ => true) true m 4 ((cs.drop 1).take (Tryz.prog.cellsOf 4)) = xs[1]? := hel 1 _ rfl
    rw [cells4, List.getElem?_eq_getElem (by omega)] at g
    exact g
  obtain ⟨f1, e1⟩ := op4 g1
  have g2 : Td enc w m 3 ((cs.drop 2).take 1) xs[2] := by
    have g : DataW.trod enc Tryz.prog w 0 (fun _ => true) true m 3 ((cs.drop 2).take (Tryz.prog.cellsOf 3)) = xs[2]? := hel 2 _ rfl
    rw [cells3, List.getElem?_eq_getElem (by omega)] at g
    exact g
  obtain ⟨f2, e2, b2⟩ := op3 g2
  have ee : cs.drop 0 = [.string f0] ++ ([.bool f1] ++ ([.int .i64 f2] ++ [])) := by
    rw [cut_list cs 0 1 1 rfl, e0, cut_list cs 1 1 2 rfl, e1, cut_list cs 2 1 3 rfl, e2, show cs.drop 3 = [] from List.drop_eq_nil_of_le (by omega)]
  rw [List.drop_zero] at ee
  exact ⟨⟨f0, f1, f2⟩, ee, b0, b2⟩

structure DSb (d : DS) : Prop where
  id : I64 d.id
  org : I64 d.org
  format : I64 d.format
  length : I64 d.length
  block : I64 d.block
  keyAt : I64 d.keyAt
  keyLength : I64 d.keyLength
  interval : I64 d.interval
  area : I64 d.area
  freeInterval : I64 d.freeInterval
  freeArea : I64 d.freeArea
  base : I64 d.base
  altAt : I64 d.altAt
  altLength : I64 d.altLength
  cls : I64 d.cls
  volume : d.volume.size ≤ 140737488351232
  owner : d.owner.size ≤ 140737488351232
  created : I64 d.created
  expires : I64 d.expires

set_option maxRecDepth 100000 in
theorem op31 (h : Td enc w n 31 cs x) (hw : Wok 31 x.1) : ∃ d : DS, cs = d.cells.toList ∧ DSb d := by
  obtain ⟨xs, m, rfl, rfl, hl, hxs, hel⟩ := DataW.trod_struct Tryz.underlying31 h
  have hw' : (DataW.weightsEach Tryz.prog [3, 3, 3, 3, 3, 3, 3, 3, 3, 3, 3, 3, 3, 3, 4, 3, 9, 9, 3, 3, 4] (xs.map (·.1))).all (fun n => decide (n ≤ reachBytes)) = true := by
    unfold Wok at hw
    unfold DataW.weights at hw
    rw [Tryz.underlying31] at hw
    exact hw
  rw [cells31] at hl
  replace hxs : xs.length = 21 := hxs
  have g0 : Td enc w m 3 ((cs.drop 0).take 1) xs[0] := by
    have g : DataW.trod enc Tryz.prog w 0 (fun _ => true) true m 3 ((cs.drop 0).take (Tryz.prog.cellsOf 3)) = xs[0]? := hel 0 _ rfl
    rw [cells3, List.getElem?_eq_getElem (by omega)] at g
    exact g
  obtain ⟨f0, e0, b0⟩ := op3 g0
  have g1 : Td enc w m 3 ((cs.drop 1).take 1) xs[1] := by
    have g : DataW.trod enc Tryz.prog w 0 (fun _ => true) true m 3 ((cs.drop 1).take (Tryz.prog.cellsOf 3)) = xs[1]? := hel 1 _ rfl
    rw [cells3, List.getElem?_eq_getElem (by omega)] at g
    exact g
  obtain ⟨f1, e1, b1⟩ := op3 g1
  have g2 : Td enc w m 3 ((cs.drop 2).take 1) xs[2] := by
    have g : DataW.trod enc Tryz.prog w 0 (fun _ => true) true m 3 ((cs.drop 2).take (Tryz.prog.cellsOf 3)) = xs[2]? := hel 2 _ rfl
    rw [cells3, List.getElem?_eq_getElem (by omega)] at g
    exact g
  obtain ⟨f2, e2, b2⟩ := op3 g2
  have g3 : Td enc w m 3 ((cs.drop 3).take 1) xs[3] := by
    have g : DataW.trod enc Tryz.prog w 0 (fun _ => true) true m 3 ((cs.drop 3).take (Tryz.prog.cellsOf 3)) = xs[3]? := hel 3 _ rfl
    rw [cells3, List.getElem?_eq_getElem (by omega)] at g
    exact g
  obtain ⟨f3, e3, b3⟩ := op3 g3
  have g4 : Td enc w m 3 ((cs.drop 4).take 1) xs[4] := by
    have g : DataW.trod enc Tryz.prog w 0 (fun _ => true) true m 3 ((cs.drop 4).take (Tryz.prog.cellsOf 3)) = xs[4]? := hel 4 _ rfl
    rw [cells3, List.getElem?_eq_getElem (by omega)] at g
    exact g
  obtain ⟨f4, e4, b4⟩ := op3 g4
  have g5 : Td enc w m 3 ((cs.drop 5).take 1) xs[5] := by
    have g : DataW.trod enc Tryz.prog w 0 (fun _ => true) true m 3 ((cs.drop 5).take (Tryz.prog.cellsOf 3)) = xs[5]? := hel 5 _ rfl
    rw [cells3, List.getElem?_eq_getElem (by omega)] at g
    exact g
  obtain ⟨f5, e5, b5⟩ := op3 g5
  have g6 : Td enc w m 3 ((cs.drop 6).take 1) xs[6] := by
    have g : DataW.trod enc Tryz.prog w 0 (fun _ => true) true m 3 ((cs.drop 6).take (Tryz.prog.cellsOf 3)) = xs[6]? := hel 6 _ rfl
    rw [cells3, List.getElem?_eq_getElem (by omega)] at g
    exact g
  obtain ⟨f6, e6, b6⟩ := op3 g6
  have g7 : Td enc w m 3 ((cs.drop 7).take 1) xs[7] := by
    have g : DataW.trod enc Tryz.prog w 0 (fun _ => true) true m 3 ((cs.drop 7).take (Tryz.prog.cellsOf 3)) = xs[7]? := hel 7 _ rfl
    rw [cells3, List.getElem?_eq_getElem (by omega)] at g
    exact g
  obtain ⟨f7, e7, b7⟩ := op3 g7
  have g8 : Td enc w m 3 ((cs.drop 8).take 1) xs[8] := by
    have g : DataW.trod enc Tryz.prog w 0 (fun _ => true) true m 3 ((cs.drop 8).take (Tryz.prog.cellsOf 3)) = xs[8]? := hel 8 _ rfl
    rw [cells3, List.getElem?_eq_getElem (by omega)] at g
    exact g
  obtain ⟨f8, e8, b8⟩ := op3 g8
  have g9 : Td enc w m 3 ((cs.drop 9).take 1) xs[9] := by
    have g : DataW.trod enc Tryz.prog w 0 (fun _ => true) true m 3 ((cs.drop 9).take (Tryz.prog.cellsOf 3)) = xs[9]? := hel 9 _ rfl
    rw [cells3, List.getElem?_eq_getElem (by omega)] at g
    exact g
  obtain ⟨f9, e9, b9⟩ := op3 g9
  have g10 : Td enc w m 3 ((cs.drop 10).take 1) xs[10] := by
    have g : DataW.trod enc Tryz.prog w 0 (fun _ => true) true m 3 ((cs.drop 10).take (Tryz.prog.cellsOf 3)) = xs[10]? := hel 10 _ rfl
    rw [cells3, List.getElem?_eq_getElem (by omega)] at g
    exact g
  obtain ⟨f10, e10, b10⟩ := op3 g10
  have g11 : Td enc w m 3 ((cs.drop 11).take 1) xs[11] := by
    have g : DataW.trod enc Tryz.prog w 0 (fun _ => true) true m 3 ((cs.drop 11).take (Tryz.prog.cellsOf 3)) = xs[11]? := hel 11 _ rfl
    rw [cells3, List.getElem?_eq_getElem (by omega)] at g
    exact g
  obtain ⟨f11, e11, b11⟩ := op3 g11
  have g12 : Td enc w m 3 ((cs.drop 12).take 1) xs[12] := by
    have g : DataW.trod enc Tryz.prog w 0 (fun _ => true) true m 3 ((cs.drop 12).take (Tryz.prog.cellsOf 3)) = xs[12]? := hel 12 _ rfl
    rw [cells3, List.getElem?_eq_getElem (by omega)] at g
    exact g
  obtain ⟨f12, e12, b12⟩ := op3 g12
  have g13 : Td enc w m 3 ((cs.drop 13).take 1) xs[13] := by
    have g : DataW.trod enc Tryz.prog w 0 (fun _ => true) true m 3 ((cs.drop 13).take (Tryz.prog.cellsOf 3)) = xs[13]? := hel 13 _ rfl
    rw [cells3, List.getElem?_eq_getElem (by omega)] at g
    exact g
  obtain ⟨f13, e13, b13⟩ := op3 g13
  have g14 : Td enc w m 4 ((cs.drop 14).take 1) xs[14] := by
    have g : DataW.trod enc Tryz.prog w 0 (fun _ => true) true m 4 ((cs.drop 14).take (Tryz.prog.cellsOf 4)) = xs[14]? := hel 14 _ rfl
    rw [cells4, List.getElem?_eq_getElem (by omega)] at g
    exact g
  obtain ⟨f14, e14⟩ := op4 g14
  have g15 : Td enc w m 3 ((cs.drop 15).take 1) xs[15] := by
    have g : DataW.trod enc Tryz.prog w 0 (fun _ => true) true m 3 ((cs.drop 15).take (Tryz.prog.cellsOf 3)) = xs[15]? := hel 15 _ rfl
    rw [cells3, List.getElem?_eq_getElem (by omega)] at g
    exact g
  obtain ⟨f15, e15, b15⟩ := op3 g15
  have g16 : Td enc w m 9 ((cs.drop 16).take 1) xs[16] := by
    have g : DataW.trod enc Tryz.prog w 0 (fun _ => true) true m 9 ((cs.drop 16).take (Tryz.prog.cellsOf 9)) = xs[16]? := hel 16 _ rfl
    rw [cells9, List.getElem?_eq_getElem (by omega)] at g
    exact g
  have q16 : Wok 9 xs[16].1 := wok_each hw' 16 _ _ rfl (by rw [List.getElem?_map, List.getElem?_eq_getElem (by omega)]; rfl)
  obtain ⟨f16, e16, b16⟩ := op9 g16 q16
  have g17 : Td enc w m 9 ((cs.drop 17).take 1) xs[17] := by
    have g : DataW.trod enc Tryz.prog w 0 (fun _ => true) true m 9 ((cs.drop 17).take (Tryz.prog.cellsOf 9)) = xs[17]? := hel 17 _ rfl
    rw [cells9, List.getElem?_eq_getElem (by omega)] at g
    exact g
  have q17 : Wok 9 xs[17].1 := wok_each hw' 17 _ _ rfl (by rw [List.getElem?_map, List.getElem?_eq_getElem (by omega)]; rfl)
  obtain ⟨f17, e17, b17⟩ := op9 g17 q17
  have g18 : Td enc w m 3 ((cs.drop 18).take 1) xs[18] := by
    have g : DataW.trod enc Tryz.prog w 0 (fun _ => true) true m 3 ((cs.drop 18).take (Tryz.prog.cellsOf 3)) = xs[18]? := hel 18 _ rfl
    rw [cells3, List.getElem?_eq_getElem (by omega)] at g
    exact g
  obtain ⟨f18, e18, b18⟩ := op3 g18
  have g19 : Td enc w m 3 ((cs.drop 19).take 1) xs[19] := by
    have g : DataW.trod enc Tryz.prog w 0 (fun _ => true) true m 3 ((cs.drop 19).take (Tryz.prog.cellsOf 3)) = xs[19]? := hel 19 _ rfl
    rw [cells3, List.getElem?_eq_getElem (by omega)] at g
    exact g
  obtain ⟨f19, e19, b19⟩ := op3 g19
  have g20 : Td enc w m 4 ((cs.drop 20).take 1) xs[20] := by
    have g : DataW.trod enc Tryz.prog w 0 (fun _ => true) true m 4 ((cs.drop 20).take (Tryz.prog.cellsOf 4)) = xs[20]? := hel 20 _ rfl
    rw [cells4, List.getElem?_eq_getElem (by omega)] at g
    exact g
  obtain ⟨f20, e20⟩ := op4 g20
  have ee : cs.drop 0 = [.int .i64 f0] ++ ([.int .i64 f1] ++ ([.int .i64 f2] ++ ([.int .i64 f3] ++ ([.int .i64 f4] ++ ([.int .i64 f5] ++ ([.int .i64 f6] ++ ([.int .i64 f7] ++ ([.int .i64 f8] ++ ([.int .i64 f9] ++ ([.int .i64 f10] ++ ([.int .i64 f11] ++ ([.int .i64 f12] ++ ([.int .i64 f13] ++ ([.bool f14] ++ ([.int .i64 f15] ++ ([.string f16] ++ ([.string f17] ++ ([.int .i64 f18] ++ ([.int .i64 f19] ++ ([.bool f20] ++ [])))))))))))))))))))) := by
    rw [cut_list cs 0 1 1 rfl, e0, cut_list cs 1 1 2 rfl, e1, cut_list cs 2 1 3 rfl, e2, cut_list cs 3 1 4 rfl, e3, cut_list cs 4 1 5 rfl, e4, cut_list cs 5 1 6 rfl, e5, cut_list cs 6 1 7 rfl, e6, cut_list cs 7 1 8 rfl, e7, cut_list cs 8 1 9 rfl, e8, cut_list cs 9 1 10 rfl, e9, cut_list cs 10 1 11 rfl, e10, cut_list cs 11 1 12 rfl, e11, cut_list cs 12 1 13 rfl, e12, cut_list cs 13 1 14 rfl, e13, cut_list cs 14 1 15 rfl, e14, cut_list cs 15 1 16 rfl, e15, cut_list cs 16 1 17 rfl, e16, cut_list cs 17 1 18 rfl, e17, cut_list cs 18 1 19 rfl, e18, cut_list cs 19 1 20 rfl, e19, cut_list cs 20 1 21 rfl, e20, show cs.drop 21 = [] from List.drop_eq_nil_of_le (by omega)]
  rw [List.drop_zero] at ee
  exact ⟨⟨f0, f1, f2, f3, f4, f5, f6, f7, f8, f9, f10, f11, f12, f13, f14, f15, f16, f17, f18, f19, f20⟩, ee, ⟨b0, b1, b2, b3, b4, b5, b6, b7, b8, b9, b10, b11, b12, b13, b15, b16, b17, b18, b19⟩⟩

theorem op32 (h : Td enc w n 32 cs x) (hw : Wok 32 x.1) : ∃ (A : Option Addr) (cap : Nat) (ys : List Gr), cs = [.slice A ys.length cap] ∧ ys.length ≤ cap ∧ cap ≤ 140737488351232 ∧ (∀ y ∈ ys, y.who.size ≤ 140737488351232 ∧ I64 y.level) ∧ Sl Gr.cells 3 w A ys ∧ (A = none → cap = 0) :=
  open_sl Gr.cells (fun g => g.who.size ≤ 140737488351232 ∧ I64 g.level) Tryz.underlying32 cells51 (by decide) bytes51 h hw (fun n cs y h hw => op51 h hw)
/-- An entry's numbers and texts are such as the machine bears. -/
structure Eb (e : E) : Prop where
  kind : I64 e.kind
  name : e.name.size ≤ 140737488351232
  ds : DSb e.ds
  altl : e.alt.length ≤ 140737488351232
  alt : ∀ y ∈ e.alt, I64 y
  used : I64 e.used
  limit : I64 e.limit
  last : I64 e.last
  owner : e.owner.size ≤ 140737488351232
  target : e.target.size ≤ 140737488351232
  catalog : I64 e.catalog
  level : I64 e.level
  grl : e.grants.length ≤ 140737488351232
  grants : ∀ y ∈ e.grants, y.who.size ≤ 140737488351232 ∧ I64 y.level

set_option maxRecDepth 100000 in
theorem op34 (h : Td enc w n 34 cs x) (hw : Wok 34 x.1) : ∃ (e : E) (va vg : Value), cs = (e.cells va vg).toList ∧ Eb e ∧ EntAt w e va vg := by
  obtain ⟨xs, m, rfl, rfl, hl, hxs, hel⟩ := DataW.trod_struct Tryz.underlying34 h
  have hw' : (DataW.weightsEach Tryz.prog [3, 9, 31, 22, 3, 3, 3, 4, 9, 9, 3, 3, 32] (xs.map (·.1))).all (fun n => decide (n ≤ reachBytes)) = true := by
    unfold Wok at hw
    unfold DataW.weights at hw
    rw [Tryz.underlying34] at hw
    exact hw
  rw [cells34] at hl
  replace hxs : xs.length = 13 := hxs
  have g0 : Td enc w m 3 ((cs.drop 0).take 1) xs[0] := by
    have g : DataW.trod enc Tryz.prog w 0 (fun _ => true) true m 3 ((cs.drop 0).take (Tryz.prog.cellsOf 3)) = xs[0]? := hel 0 _ rfl
    rw [cells3, List.getElem?_eq_getElem (by omega)] at g
    exact g
  obtain ⟨f0, e0, b0⟩ := op3 g0
  have g1 : Td enc w m 9 ((cs.drop 1).take 1) xs[1] := by
    have g : DataW.trod enc Tryz.prog w 0 (fun _ => true) true m 9 ((cs.drop 1).take (Tryz.prog.cellsOf 9)) = xs[1]? := hel 1 _ rfl
    rw [cells9, List.getElem?_eq_getElem (by omega)] at g
    exact g
  have q1 : Wok 9 xs[1].1 := wok_each hw' 1 _ _ rfl (by rw [List.getElem?_map, List.getElem?_eq_getElem (by omega)]; rfl)
  obtain ⟨f1, e1, b1⟩ := op9 g1 q1
  have g2 : Td enc w m 31 ((cs.drop 2).take 21) xs[2] := by
    have g : DataW.trod enc Tryz.prog w 0 (fun _ => true) true m 31 ((cs.drop 2).take (Tryz.prog.cellsOf 31)) = xs[2]? := hel 2 _ rfl
    rw [cells31, List.getElem?_eq_getElem (by omega)] at g
    exact g
  have q2 : Wok 31 xs[2].1 := wok_each hw' 2 _ _ rfl (by rw [List.getElem?_map, List.getElem?_eq_getElem (by omega)]; rfl)
  obtain ⟨f2, e2, b2⟩ := op31 g2 q2
  have g3 : Td enc w m 22 ((cs.drop 23).take 1) xs[3] := by
    have g : DataW.trod enc Tryz.prog w 0 (fun _ => true) true m 22 ((cs.drop 23).take (Tryz.prog.cellsOf 22)) = xs[3]? := hel 3 _ rfl
    rw [cells22, List.getElem?_eq_getElem (by omega)] at g
    exact g
  have q3 : Wok 22 xs[3].1 := wok_each hw' 3 _ _ rfl (by rw [List.getElem?_map, List.getElem?_eq_getElem (by omega)]; rfl)
  obtain ⟨A3, c3, f3, e3, le3, b3, p3, s3, z3⟩ := op22 g3 q3
  have g4 : Td enc w m 3 ((cs.drop 24).take 1) xs[4] := by
    have g : DataW.trod enc Tryz.prog w 0 (fun _ => true) true m 3 ((cs.drop 24).take (Tryz.prog.cellsOf 3)) = xs[4]? := hel 4 _ rfl
    rw [cells3, List.getElem?_eq_getElem (by omega)] at g
    exact g
  obtain ⟨f4, e4, b4⟩ := op3 g4
  have g5 : Td enc w m 3 ((cs.drop 25).take 1) xs[5] := by
    have g : DataW.trod enc Tryz.prog w 0 (fun _ => true) true m 3 ((cs.drop 25).take (Tryz.prog.cellsOf 3)) = xs[5]? := hel 5 _ rfl
    rw [cells3, List.getElem?_eq_getElem (by omega)] at g
    exact g
  obtain ⟨f5, e5, b5⟩ := op3 g5
  have g6 : Td enc w m 3 ((cs.drop 26).take 1) xs[6] := by
    have g : DataW.trod enc Tryz.prog w 0 (fun _ => true) true m 3 ((cs.drop 26).take (Tryz.prog.cellsOf 3)) = xs[6]? := hel 6 _ rfl
    rw [cells3, List.getElem?_eq_getElem (by omega)] at g
    exact g
  obtain ⟨f6, e6, b6⟩ := op3 g6
  have g7 : Td enc w m 4 ((cs.drop 27).take 1) xs[7] := by
    have g : DataW.trod enc Tryz.prog w 0 (fun _ => true) true m 4 ((cs.drop 27).take (Tryz.prog.cellsOf 4)) = xs[7]? := hel 7 _ rfl
    rw [cells4, List.getElem?_eq_getElem (by omega)] at g
    exact g
  obtain ⟨f7, e7⟩ := op4 g7
  have g8 : Td enc w m 9 ((cs.drop 28).take 1) xs[8] := by
    have g : DataW.trod enc Tryz.prog w 0 (fun _ => true) true m 9 ((cs.drop 28).take (Tryz.prog.cellsOf 9)) = xs[8]? := hel 8 _ rfl
    rw [cells9, List.getElem?_eq_getElem (by omega)] at g
    exact g
  have q8 : Wok 9 xs[8].1 := wok_each hw' 8 _ _ rfl (by rw [List.getElem?_map, List.getElem?_eq_getElem (by omega)]; rfl)
  obtain ⟨f8, e8, b8⟩ := op9 g8 q8
  have g9 : Td enc w m 9 ((cs.drop 29).take 1) xs[9] := by
    have g : DataW.trod enc Tryz.prog w 0 (fun _ => true) true m 9 ((cs.drop 29).take (Tryz.prog.cellsOf 9)) = xs[9]? := hel 9 _ rfl
    rw [cells9, List.getElem?_eq_getElem (by omega)] at g
    exact g
  have q9 : Wok 9 xs[9].1 := wok_each hw' 9 _ _ rfl (by rw [List.getElem?_map, List.getElem?_eq_getElem (by omega)]; rfl)
  obtain ⟨f9, e9, b9⟩ := op9 g9 q9
  have g10 : Td enc w m 3 ((cs.drop 30).take 1) xs[10] := by
    have g : DataW.trod enc Tryz.prog w 0 (fun _ => true) true m 3 ((cs.drop 30).take (Tryz.prog.cellsOf 3)) = xs[10]? := hel 10 _ rfl
    rw [cells3, List.getElem?_eq_getElem (by omega)] at g
    exact g
  obtain ⟨f10, e10, b10⟩ := op3 g10
  have g11 : Td enc w m 3 ((cs.drop 31).take 1) xs[11] := by
    have g : DataW.trod enc Tryz.prog w 0 (fun _ => true) true m 3 ((cs.drop 31).take (Tryz.prog.cellsOf 3)) = xs[11]? := hel 11 _ rfl
    rw [cells3, List.getElem?_eq_getElem (by omega)] at g
    exact g
  obtain ⟨f11, e11, b11⟩ := op3 g11
  have g12 : Td enc w m 32 ((cs.drop 32).take 1) xs[12] := by
    have g : DataW.trod enc Tryz.prog w 0 (fun _ => true) true m 32 ((cs.drop 32).take (Tryz.prog.cellsOf 32)) = xs[12]? := hel 12 _ rfl
    rw [cells32, List.getElem?_eq_getElem (by omega)] at g
    exact g
  have q12 : Wok 32 xs[12].1 := wok_each hw' 12 _ _ rfl (by rw [List.getElem?_map, List.getElem?_eq_getElem (by omega)]; rfl)
  obtain ⟨A12, c12, f12, e12, le12, b12, p12, s12, z12⟩ := op32 g12 q12
  have ee : cs.drop 0 = [.int .i64 f0] ++ ([.string f1] ++ (f2.cells.toList ++ ([.slice A3 f3.length c3] ++ ([.int .i64 f4] ++ ([.int .i64 f5] ++ ([.int .i64 f6] ++ ([.bool f7] ++ ([.string f8] ++ ([.string f9] ++ ([.int .i64 f10] ++ ([.int .i64 f11] ++ ([.slice A12 f12.length c12] ++ [])))))))))))) := by
    rw [cut_list cs 0 1 1 rfl, e0, cut_list cs 1 1 2 rfl, e1, cut_list cs 2 21 23 rfl, e2, cut_list cs 23 1 24 rfl, e3, cut_list cs 24 1 25 rfl, e4, cut_list cs 25 1 26 rfl, e5, cut_list cs 26 1 27 rfl, e6, cut_list cs 27 1 28 rfl, e7, cut_list cs 28 1 29 rfl, e8, cut_list cs 29 1 30 rfl, e9, cut_list cs 30 1 31 rfl, e10, cut_list cs 31 1 32 rfl, e11, cut_list cs 32 1 33 rfl, e12, show cs.drop 33 = [] from List.drop_eq_nil_of_le (by omega)]
  rw [List.drop_zero] at ee
  exact ⟨⟨f0, f1, f2, f3, f4, f5, f6, f7, f8, f9, f10, f11, f12⟩, _, _, ee, ⟨b0, b1, b2, Nat.le_trans le3 b3, p3, b4, b5, b6, b8, b9, b10, b11, Nat.le_trans le12 b12, p12⟩, ⟨⟨A3, c3, rfl, le3, s3⟩, ⟨A12, c12, rfl, le12, s12⟩⟩⟩

theorem agg_cells {cs : Array Value} {l : List Value} (h : (Value.agg cs).cells.toList = l) : cs = l.toArray := by
  subst h
  simp [Value.cells]
abbrev Own (t : TypeId) : Prop := t < 349
theorem ownClosed : TClosed Tryz.prog Own := by
  have hall : ((List.range 349).all fun t => match Tryz.prog.underlying t with | some d => (subT d).all (fun e => Nat.blt e 349) && (match d with | .slice e => Nat.blt 0 (Tryz.prog.cellsOf e) | _ => true) | _ => true) = true := by kernel_rfl
  intro t d hS ht
  have := List.all_eq_true.1 hall t (List.mem_range.2 hS)
  rw [ht] at this
  simp only [Bool.and_eq_true] at this
  refine ⟨fun e he => ?_, fun e he => ?_⟩
  · have h1 := List.all_eq_true.1 this.1 e he
    simpa [Nat.blt, Nat.succ_le_iff] using h1
  · subst he
    simpa [Nat.blt, Nat.succ_le_iff] using this.2

end Go.Proofs.YtlkkiimmangplaaGreatDoor

/- The laws on records: they return, they are strict, no part of one is one. -/
namespace Go.Proofs.YtlkkiimmangplaaGreatDoor
open Go.RowKit
set_option linter.unusedVariables false
set_option linter.unusedSimpArgs false

theorem few_lim {e : E} (h : few33 e = true) : e.name.size ≤ 60 ∧ e.owner.size + e.target.size + e.ds.volume.size + e.ds.owner.size ≤ 200 := by
  unfold few33 at h
  simp only [Bool.and_eq_true, decide_eq_true_eq] at h
  obtain ⟨_, h1, _, _, h2⟩ := h
  omega
theorem keyE_kind {k : Int} {i : Nat} (hi : i < 5) (hk : k = (i : Int)) (s : ByteArray) : keyE k s = (kinds i).key s := by
  unfold keyE kindAt isKind
  rw [hk, decide_eq_true (by omega), decide_eq_true (by omega), Int.toNat_natCast]; rfl
theorem recE_no {e : E} (h : validE e = false) : recE e = ⟨#[]⟩ := by unfold recE; rw [if_neg (by rw [h]; decide)]
end Go.Proofs.YtlkkiimmangplaaGreatDoor

/- The law on keys. -/
namespace Go.Proofs.YtlkkiimmangplaaGreatDoor
open Go.RowKit
set_option linter.unusedVariables false
set_option linter.unusedSimpArgs false

def padB (s : ByteArray) : ByteArray := s ++ blanks (31 - s.size)
end Go.Proofs.YtlkkiimmangplaaGreatDoor

/- Matching by tables: from the end and from the beginning the same. -/
namespace Go.Proofs.YtlkkiimmangplaaGreatDoor
set_option linter.unusedVariables false
set_option linter.unusedSimpArgs false
/-- Whether what is left of a pattern, p parts from i on, matches the elements from k on; by rows, the last one first. -/
def tabP (n : Nat) (star : Nat → Bool) (one : Nat → Nat → Bool) : Nat → Nat → Nat → Bool
  | 0, _, k => k == n
  | p + 1, i, k => if star i = true then (List.range (n + 1 - k)).any (fun j => tabP n star one p (i + 1) (k + j)) else decide (k < n) && (tabP n star one p (i + 1) (k + 1) && one i k)
def tblP (parts n : Nat) (star : Nat → Bool) (one : Nat → Nat → Bool) : Bool := tabP n star one parts 0 0
/-- The same from the beginning: whether the first i parts match the first k elements. -/
def fwP (star : Nat → Bool) (one : Nat → Nat → Bool) : Nat → Nat → Bool
  | 0, k => k == 0
  | i + 1, k => if star i = true then (List.range (k + 1)).any (fun j => fwP star one i j) else decide (0 < k) && (fwP star one i (k - 1) && one i (k - 1))
section
variable {star : Nat → Bool} {one : Nat → Nat → Bool} {n : Nat}
end
end Go.Proofs.YtlkkiimmangplaaGreatDoor

/- A region that draws its order, whose last operation waits for all others: these read only, the last one may change memory. -/
namespace Go.Proofs.YtlkkiimmangplaaGreatDoor
open Go.RowKit
set_option linter.unusedVariables false
set_option linter.unusedSimpArgs false
def guardsB (ops : Array Oper) : Bool := (List.range ops.size).all fun i => match ops[i]? with | some o => (match o.guard with | some (j, _) => Nat.blt j ops.size | none => true) | none => true
def lastB (init : Array Oper) (o : Oper) : Bool := (List.range init.size).all fun j => (dps o).any fun k => Nat.beq k j || reachB init 64 k j
theorem yielded_push {init : Array Oper} {o : Oper} {tmps : Array Value} {j : Nat} (h : j < init.size) : yielded (init.push o) tmps j = yielded init tmps j := by
  unfold yielded
  rw [Array.getElem?_push_lt h, Array.getElem?_eq_getElem h]
theorem wanted_push {init : Array Oper} {o p : Oper} {tmps : Array Value} {i : Nat} (hg : guardsB init = true) (hp : init[i]? = some p) : Region.wanted p (yielded (init.push o) tmps) = Region.wanted p (yielded init tmps) := by
  have hi : i < init.size := (Array.getElem?_eq_some_iff.1 hp).1
  have h1 := List.all_eq_true.1 hg i (List.mem_range.2 hi)
  rw [hp] at h1
  unfold Region.wanted
  cases hq : p.guard with
  | none => rfl
  | some jb =>
    obtain ⟨j, b⟩ := jb
    simp only [hq] at h1
    have h2 : j < init.size := by simpa [Nat.blt, Nat.succ_le_iff] using h1
    simp only
    rw [yielded_push h2]
section
variable {init : Array Oper} {o : Oper} {C : World → Prop} {Qa : Act → Prop} {Q : Exit → Act → World → Prop}
theorem ready_all {ops : Array Oper} (hac : acycB ops = true) {L : Array Bool} (hL : L.size = ops.size) (hr : Region.ready .any ops L = []) : ∀ i, i < ops.size → L.getD i false = true := by
  intro i
  induction i using Nat.strongRecOn with
  | _ i ih =>
    intro hi
    rcases hq : L.getD i false with _ | _
    · exfalso
      have hmem : i ∈ Region.ready .any ops L := by
        rw [mem_ready]
        have ho : ops[i]? = some ops[i] := by simp [hi]
        refine ⟨?_, ops[i], ho, fun e he hb => ?_⟩
        · have hlt : i < L.size := by omega
          simp only [Array.getD, hlt, dif_pos] at hq ⊢
          exact hq
        · have hlt := acyc hac ho (mem_dps he hb)
          exact ih e.on hlt (by omega)
      rw [hr] at hmem
      cases hmem
    · rfl
theorem getD_push {L : Array Bool} {i : Nat} {d : Bool} (h : i < L.size) : (L.push false).getD i d = L.getD i d := by
  simp only [Array.getD, Array.size_push, h, dif_pos, show i < L.size + 1 by omega]
  exact Array.getElem_push_lt h
theorem getD_last {L : Array Bool} {d : Bool} : (L.push false).getD L.size d = false := by
  simp [Array.getD]
theorem qOp_push {i : Nat} {K : Act → Prop} {a : Act} (hi : i < init.size) (hg : guardsB init = true) (h : qOp Tryz.prog init C i K a) : qOp Tryz.prog (init.push o) C i K a := by
  unfold qOp at h ⊢
  have ho : init[i]? = some init[i] := by simp [hi]
  have ho' : (init.push o)[i]? = some init[i] := by rw [Array.getElem?_push_lt hi]
  rw [ho] at h
  rw [ho']
  simp only at h ⊢
  rw [wanted_push hg ho]
  exact h
theorem last_turn {w : World} {a : Act} {K : Act → World → Prop} (h : wpList Tryz.prog (init.push o) Q [o] a w) (hK : ∀ a w, Q .normal a w → K a w) : wpOp Tryz.prog (init.push o) Q init.size K a w := by
  unfold wpOp
  have ho : (init.push o)[init.size]? = some o := by simp
  rw [ho]
  simp only
  unfold wpList at h
  split
  · rename_i hw
    rw [if_pos hw] at h
    exact h.imp (Oper.wp_mono (fun a w h => hK a w h)) id
  · rename_i hw
    rw [if_neg hw] at h
    exact hK _ _ h
theorem ready_push {L : Array Bool} {i : Nat} (hL : L.size = init.size) (hi : i < init.size) (hdl : acycB init = true) : i ∈ Region.ready .any (init.push o) (L.push false) ↔ i ∈ Region.ready .any init L := by
  rw [mem_ready, mem_ready, getD_push (by omega), Array.getElem?_push_lt hi, Array.getElem?_eq_getElem hi]
  constructor
  · rintro ⟨h1, p, hp, h2⟩
    cases hp
    refine ⟨h1, _, rfl, fun e he hb => ?_⟩
    have hlt := acyc hdl (show init[i]? = some init[i] by simp [hi]) (mem_dps he hb)
    have := h2 e he hb
    rwa [getD_push (by omega)] at this
  · rintro ⟨h1, p, hp, h2⟩
    cases hp
    refine ⟨h1, _, rfl, fun e he hb => ?_⟩
    have hlt := acyc hdl (show init[i]? = some init[i] by simp [hi]) (mem_dps he hb)
    rw [getD_push (by omega)]
    exact h2 e he hb
theorem setPush (L : Array Bool) (x : Bool) (i : Nat) (y : Bool) (h : i < L.size) : (L.push x).setIfInBounds i y = (L.setIfInBounds i y).push x := by
  apply Array.ext_getElem?
  intro k
  rw [Array.getElem?_push, Array.size_setIfInBounds]
  by_cases hki : i = k
  · subst hki
    rw [if_neg (by omega), Array.getElem?_setIfInBounds_self_of_lt (by simp; omega), Array.getElem?_setIfInBounds_self_of_lt h]
  · rw [Array.getElem?_setIfInBounds_ne hki, Array.getElem?_setIfInBounds_ne hki, Array.getElem?_push]
theorem over {ops : Array Oper} {L : Array Bool} (hall : ∀ i, i < ops.size → L.getD i true = true) {a : Act} {w : World} (hQ : Q .normal a w) : ∀ fuel, wpAny Tryz.prog .any ops Q fuel L a w := by
  have hr : Region.ready .any ops L = [] := by
    cases hq : Region.ready .any ops L with
    | nil => rfl
    | cons i r =>
      have hm : i ∈ Region.ready .any ops L := by rw [hq]; exact List.mem_cons_self
      rw [mem_ready] at hm
      obtain ⟨h1, p, hp, _⟩ := hm
      rw [hall i (Array.getElem?_eq_some_iff.1 hp).1] at h1
      cases h1
  intro fuel
  cases fuel with
  | zero => exact ⟨hr, hQ⟩
  | succ fuel => exact ⟨fun _ => hQ, fun i hm => by rw [hr] at hm; cases hm⟩
def depsB (m : Nat) (o : Oper) : Bool := (dps o).all fun j => Nat.blt j m
theorem done_all {L : Array Bool} (hac : acycB init = true) (hL : L.size = init.size) (hdo : depsB init.size o = true) (hall : ∀ i, i < init.size → L.getD i false = true) {w : World} {a : Act} (hq : wpList Tryz.prog (init.push o) Q [o] a w) (fuel : Nat) :
    wpAny Tryz.prog .any (init.push o) Q (fuel + 1) (L.push false) a w := by
  have hno : ∀ i, i < init.size → i ∉ Region.ready .any (init.push o) (L.push false) := fun i hi hm => by
    rw [ready_push hL hi hac, mem_ready] at hm
    have h1 := hall i hi
    have h2 := hm.1
    have hlt : i < L.size := by omega
    simp only [Array.getD, hlt, dif_pos] at h1 h2
    rw [h1] at h2; cases h2
  refine ⟨fun hr => ?_, fun i hm => ?_⟩
  · exfalso
    have hm : init.size ∈ Region.ready .any (init.push o) (L.push false) := by
      rw [mem_ready]
      refine ⟨by rw [← hL]; exact getD_last, o, by simp, fun e he hb => ?_⟩
      have hlt : e.on < init.size := by
        have := List.all_eq_true.1 hdo _ (mem_dps he hb)
        simpa [Nat.blt, Nat.succ_le_iff] using this
      rw [getD_push (by omega)]
      exact hall _ hlt
    rw [hr] at hm
    cases hm
  · have hi : i < (init.push o).size := by
      rw [mem_ready] at hm
      obtain ⟨_, p, hp, _⟩ := hm
      exact (Array.getElem?_eq_some_iff.1 hp).1
    rw [Array.size_push] at hi
    have e : i = init.size := by
      rcases Nat.lt_or_ge i init.size with h | h
      · exact absurd hm (hno i h)
      · omega
    subst e
    refine last_turn hq fun a w hQ => over (fun j hj => ?_) hQ _
    rw [Array.size_push] at hj
    have hsz : ((L.push false).setIfInBounds init.size true).size = init.size + 1 := by simp [hL]
    by_cases hji : j = init.size
    · subst hji
      simp [Array.getD, hL]
    · have hlt : j < init.size := by omega
      have h1 := hall j hlt
      have hltL : j < L.size := by omega
      simp only [Array.getD, hltL, dif_pos] at h1
      have hlt2 : j < ((L.push false).setIfInBounds init.size true).size := by omega
      simp only [Array.getD, hlt2, dif_pos]
      have h3 : ((L.push false).setIfInBounds init.size true)[j]? = some true := by
        rw [Array.getElem?_setIfInBounds_ne (by omega), Array.getElem?_push_lt hltL]
        exact congrArg some h1
      have h4 := (Array.getElem?_eq_some_iff.1 h3).2
      exact h4
theorem any_last (hac : acycB init = true) (hg : guardsB init = true) (hdo : depsB init.size o = true) (hlast : lastB init o = true) (hq : ∀ a w, C w → Qa a → wpList Tryz.prog (init.push o) Q [o] a w) :
    ∀ (fuel : Nat) (L : Array Bool) (a : Act) (w : World), L.size = init.size → Closed init (fun i => L.getD i false) → C w → wpAnyQ Tryz.prog .any init C Qa fuel L a → wpAny Tryz.prog .any (init.push o) Q (fuel + 1) (L.push false) a w
  | 0, L, a, w, hL, hcl, hC, h => done_all hac hL hdo (ready_all hac hL h.1) (hq a w hC h.2) 0
  | fuel + 1, L, a, w, hL, hcl, hC, h => by
    by_cases hr : Region.ready .any init L = []
    · exact done_all hac hL hdo (ready_all hac hL hr) (hq a w hC (h.1 hr)) (fuel + 1)
    · have hback : ∀ i, i < init.size → (i ∈ Region.ready .any (init.push o) (L.push false) ↔ i ∈ Region.ready .any init L) := fun i hi => ready_push hL hi hac
      obtain ⟨i0, hi0⟩ := List.exists_mem_of_ne_nil _ hr
      have hi0' : i0 < init.size := by
        rw [mem_ready] at hi0
        obtain ⟨_, p, hp, _⟩ := hi0
        exact (Array.getElem?_eq_some_iff.1 hp).1
      refine ⟨fun hr' => ?_, fun i hm => ?_⟩
      · have := (hback i0 hi0').2 hi0
        rw [hr'] at this
        cases this
      · have hi : i < init.size := by
          have hmm := hm
          rw [mem_ready] at hmm
          obtain ⟨_, p, hp, h2⟩ := hmm
          have hi : i < (init.push o).size := (Array.getElem?_eq_some_iff.1 hp).1
          rw [Array.size_push] at hi
          rcases Nat.lt_or_ge i init.size with h' | h'
          · exact h'
          · exfalso
            obtain rfl : i = init.size := by omega
            have ho : (init.push o)[init.size]? = some o := by simp
            rw [ho] at hp
            cases hp
            have hd := List.all_eq_true.1 hlast i0 (List.mem_range.2 hi0')
            obtain ⟨k0, hk0, hr0⟩ := List.any_eq_true.1 hd
            have hb0 : L.getD k0 false = true := by
              obtain ⟨e, he, hee⟩ := List.mem_map.1 hk0
              rw [List.mem_filter] at he
              have h5 := h2 e (by simpa using he.1) he.2
              have hk1 : k0 < init.size := by
                have := List.all_eq_true.1 hdo _ hk0
                simpa [Nat.blt, Nat.succ_le_iff] using this
              rwa [hee, getD_push (by omega)] at h5
            have h5 : L.getD i0 false = true := by
              rcases Bool.or_eq_true_iff.1 hr0 with e | e
              · rw [← Nat.eq_of_beq_eq_true e]; exact hb0
              · exact reach_closed hcl 64 k0 i0 e hb0
            rw [mem_ready] at hi0
            have h6 := hi0.1
            have hlt : i0 < L.size := by omega
            simp only [Array.getD, hlt, dif_pos] at h5 h6
            rw [h5] at h6; cases h6
        have hmi := (hback i hi).1 hm
        have h1 := qOp_push (o := o) hi hg (h.2 i hmi)
        refine wpOp_of_qOp hC (fun a' w' hC' hK => ?_) h1
        have hcl2 : Closed init (fun k => (L.setIfInBounds i true).getD k false) := fun k p hk hb j hj => by
          have hset : ∀ k, L.getD k false = true → (L.setIfInBounds i true).getD k false = true := fun k hk => by
            by_cases hik : i = k
            · subst hik
              simp [Array.getD, hL, hi]
            · have hkL : k < L.size := by
                rcases Nat.lt_or_ge k L.size with h' | h'
                · exact h'
                · simp [Array.getD, Nat.not_lt.2 h'] at hk
              simpa [Array.getElem?_setIfInBounds_ne hik] using hk
          have hk' : k < init.size := (Array.getElem?_eq_some_iff.1 hk).1
          by_cases hik : i = k
          · subst hik
            rw [mem_ready] at hmi
            obtain ⟨_, p', hp', h2⟩ := hmi
            rw [hk] at hp'
            cases hp'
            obtain ⟨e, he, hee⟩ := List.mem_map.1 hj
            rw [List.mem_filter] at he
            have := h2 e (by simpa using he.1) he.2
            rw [hee] at this
            exact hset j this
          · have hb' : L.getD k false = true := by
              simpa [Array.getElem?_setIfInBounds_ne hik] using hb
            exact hset j (hcl k p hk hb' j hj)
        have h2 := any_last hac hg hdo hlast hq fuel (L.setIfInBounds i true) a' w' (by simpa using hL) hcl2 hC' hK
        have e : (L.setIfInBounds i true).push false = (L.push false).setIfInBounds i true := by
          exact (setPush L false i true (by omega)).symm
        rw [e] at h2
        exact h2
end
/-- What is asked behind the first operations. -/
def Lastly (ops : Array Oper) (o : Oper) (Q : Exit → Act → World → Prop) : Exit → Act → World → Prop := fun e a w => match e with
  | .normal => wpList Tryz.prog ops Q [o] a w
  | _ => True
theorem popPush {α : Type} {ops : Array α} {o : α} (ho : ops.back? = some o) : ops = ops.pop.push o := by
  rw [Array.back?_eq_some_iff] at ho
  obtain ⟨xs, rfl⟩ := ho
  simp
theorem WC.last {w0 : World} {n : Nat} {Q : Exit → Act → World → Prop} {ρ : Env} {H : List It} {id : Nat} (init : Array Oper) (o : Oper) {ops : Array Oper} (he : ops = init.push o) (hB : Region.lexB .any init = true) (hac : acycB init = true) (hg : guardsB init = true) (hdo : depsB init.size o = true) (hlast : lastB init o = true)
    (h : WQ w0 n init (Lastly ops o Q) init.toList ρ H) : WC w0 n Q (.region id ops true) ρ H := fun a w hf hs => by
  subst he
  refine wp_region_any mixed ?_
  simp only [Region.lexB, Bool.and_eq_true] at hB
  have h1 := wpAnyQ_lex (C := St w0 H) (md := .any) hB.1 init.toList 0 (Array.replicate init.size false) a (by simp) (by simpa using hB.2) (h a hf)
  have h2 := any_last (C := St w0 H) (Q := Q) hac hg hdo hlast (fun a w hC hq => hq w hC) _ _ a _ (by simp) (fun k p hk hb => by exfalso; revert hb; simp [Array.getElem?_replicate]; split <;> simp) hs.drew h1
  have e : (Array.replicate init.size false).push false = Array.replicate (init.push o).size false := by
    rw [Array.size_push, Array.replicate_succ]
  rw [e] at h2
  simpa using h2
theorem WC.lastP {w0 : World} {n : Nat} {Q : Exit → Act → World → Prop} {ρ : Env} {H : List It} {id : Nat} {o : Oper} {ops : Array Oper} (ho : ops.back? = some o) (hB : Region.lexB .any ops.pop = true) (hac : acycB ops.pop = true) (hg : guardsB ops.pop = true) (hdo : depsB ops.pop.size o = true) (hlast : lastB ops.pop o = true)
    (h : WQ w0 n ops.pop (Lastly ops o Q) ops.pop.toList ρ H) : WC w0 n Q (.region id ops true) ρ H :=
  WC.last ops.pop o (popPush ho) hB hac hg hdo hlast h
end Go.Proofs.YtlkkiimmangplaaGreatDoor

/- The table of matching. -/
namespace Go.Proofs.YtlkkiimmangplaaGreatDoor
open Go.RowKit
set_option linter.unusedVariables false
set_option linter.unusedSimpArgs false

/-- A table of 40 by 40 truth values. -/
def tb (g : Nat → Bool) : Array Value := ((List.range 1600).map (fun m => Value.bool (g m))).toArray
def updB (g : Nat → Bool) (m : Nat) (v : Bool) : Nat → Bool := fun x => if x = m then v else g x
/-- A function value that answers like p at numbers below a bound. -/
structure PredT (w : World) (g : Nat) (cap : Array Value) (m : Nat) (p : Nat → Bool) : Prop where
  ent : Ent g
  at_ : ∀ (i : Int) (w' : World), Below w.heap.size w w' → 0 ≤ i → i < m → Calls Tryz.prog g (#[.int .i64 i] ++ cap) w' (RetV w' (.bool (p i.toNat)))
structure PredT2 (w : World) (g : Nat) (cap : Array Value) (m n : Nat) (p : Nat → Nat → Bool) : Prop where
  ent : Ent g
  at_ : ∀ (i k : Int) (w' : World), Below w.heap.size w w' → 0 ≤ i → i < m → 0 ≤ k → k < n → Calls Tryz.prog g (#[.int .i64 i, .int .i64 k] ++ cap) w' (RetV w' (.bool (p i.toNat k.toNat)))
/-- The rows from q on are done, and row q - 1 from column k on. -/
structure TabI (parts n : Nat) (star : Nat → Bool) (one : Nat → Nat → Bool) (q k : Nat) (g : Nat → Bool) : Prop where
  lo : 1 ≤ q
  hi : q ≤ parts
  kl : k ≤ n + 1
  done : ∀ i j, q ≤ i → i ≤ parts → j ≤ n → g (40 * i + j) = tabP n star one (parts - i) i j
  row : ∀ j, k ≤ j → j ≤ n → g (40 * (q - 1) + j) = tabP n star one (parts - (q - 1)) (q - 1) j
def TabR (parts n : Nat) (star : Nat → Bool) (one : Nat → Nat → Bool) (q : Nat) (g : Nat → Bool) : Prop := q ≤ parts ∧ ∀ i j, q ≤ i → i ≤ parts → j ≤ n → g (40 * i + j) = tabP n star one (parts - i) i j
section
variable {parts n : Nat} {star : Nat → Bool} {one : Nat → Nat → Bool} {q k : Nat} {g : Nat → Bool}
theorem TabI.step (hn : n < 40) {v : Bool} (h : TabI parts n star one q (k + 1) g) (hv : v = tabP n star one (parts - (q - 1)) (q - 1) k) : TabI parts n star one q k (updB g (40 * (q - 1) + k) v) := by
  have h1 := h.lo
  have h2 := h.hi
  have h3 := h.kl
  refine ⟨h1, h2, by omega, fun i j hi hip hj => ?_, fun j hj hjn => ?_⟩
  · unfold updB
    rw [if_neg (by omega), h.done i j hi hip hj]
  · unfold updB
    by_cases e : j = k
    · subst e; rw [if_pos rfl, hv]
    · rw [if_neg (by omega), h.row j (by omega) hjn]
theorem TabI.up (h : TabI parts n star one q 0 g) : TabR parts n star one (q - 1) g := by
  have h1 := h.lo
  have h2 := h.hi
  refine ⟨by omega, fun i j hi hip hj => ?_⟩
  by_cases e : i = q - 1
  · subst e; exact h.row j (Nat.zero_le _) hj
  · exact h.done i j (by omega) hip hj
theorem TabR.init (parts : Nat) {n : Nat} (hn : n < 40) : TabR parts n star one parts (updB (fun _ => false) (40 * parts + n) true) := by
  refine ⟨Nat.le_refl _, fun i j hi hip hj => ?_⟩
  obtain rfl : i = parts := by omega
  rw [Nat.sub_self, tabP]
  unfold updB
  by_cases e : j = n
  · subst e; rw [if_pos rfl]; simp
  · rw [if_neg (by omega)]; simp [e]
end

end Go.Proofs.YtlkkiimmangplaaGreatDoor

/- Matching. -/
namespace Go.Proofs.YtlkkiimmangplaaGreatDoor
open Go.RowKit
set_option linter.unusedVariables false
set_option linter.unusedSimpArgs false

/-- A part of a pattern that stands for any number of parts; a byte that stands for any number of bytes. -/
def starP (a : List ByteArray) (i : Nat) : Bool := (a.getD i bempty).toList == stars.toList
def byteN (s : ByteArray) (i : Nat) : Int := ((s.data.toList[i]?.getD 0).toNat : Int)
def partM (q s : ByteArray) : Bool := tblP q.size s.size (fun i => byteN q i == 42) (fun i k => byteN q i == byteN s k)
def matchB (p name : ByteArray) : Bool := patB p && (nameB name && tblP (parts p).length (parts name).length (starP (parts p)) (fun i k => partM ((parts p).getD i bempty) ((parts name).getD k bempty)))
end Go.Proofs.YtlkkiimmangplaaGreatDoor

/- The order of patterns. -/
namespace Go.Proofs.YtlkkiimmangplaaGreatDoor
open Go.RowKit
set_option linter.unusedVariables false
set_option linter.unusedSimpArgs false

/-- Joined with full stops. -/
def joinD (xs : List ByteArray) : ByteArray := ⟨(Lib.join (xs.map (·.data.toList)) [46]).toArray⟩
/-- Qualifiers that stand for any number of them are put last. -/
def rS (q : ByteArray) : ByteArray := if (q.toList == stars.toList) = true then ⟨#[255]⟩ else q
def starK (k : Nat) (l : List ByteArray) : List ByteArray := (l.take k).map rS ++ l.drop k
def ordK (s : ByteArray) : ByteArray := ⟨(Lib.replaceAll (joinD ((parts s).map rS)).data.toList [42] [254]).toArray⟩
def ordB (a b : ByteArray) : Int := if patB a = true then (if patB b = true then Lib.compareBytes (ordK a).data.toList (ordK b).data.toList else 0) else 0
/-- The qualifiers of a name; the first ones. -/
def qualsB (s : ByteArray) : List ByteArray := if nameB s = true then parts s else []
def firstB (s : ByteArray) : ByteArray := joinD ((qualsB s).take 1)
def qIt (b : Nat) (s : ByteArray) : It := if nameB s = true then .blk b 9 ((parts s).map Value.string).toArray else .nil
def qVal (b : Nat) (s : ByteArray) : Value := if nameB s = true then .slice (some ⟨b, 0, none⟩) (parts s).length (parts s).length else vnil
end Go.Proofs.YtlkkiimmangplaaGreatDoor

/- The example of the chapters on batch. -/
namespace Go.Proofs.YtlkkiimmangplaaGreatDoor
open Go.RowKit
set_option linter.unusedVariables false
set_option linter.unusedSimpArgs false

def pdB : ByteArray := ⟨#[80, 65, 89, 46, 68, 65, 89]⟩
def pgB : ByteArray := ⟨#[80, 65, 89, 46, 68, 65, 89, 46, 71, 48, 48, 48, 51, 86, 48, 48]⟩
end Go.Proofs.YtlkkiimmangplaaGreatDoor

/- Slices compared with nil; a new block of structs as a row; lists of entries that came in. -/
namespace Go.Proofs.YtlkkiimmangplaaGreatDoor
open Go.RowKit
set_option linter.unusedVariables false
set_option linter.unusedSimpArgs false
section
variable {w0 : World} {n : Nat} {ops : Array Oper} {Q : Exit → Act → World → Prop} {o : Oper} {rest : List Oper} {ρ : Env} {H : List It}
variable {d : Nat} {ty t t' : TypeId} {pos : String} {af : Array Edge} {g : Option (Nat × Bool)} {x y z : Operand} {v u : Value}
end
/-- An own row of structs, read. -/
theorem sl_rowN {α : Type} {enc : α → List Value} {sz : Nat} {w0 w : World} {H : List It} {j e n c : Nat} {A : Option Addr} {xs : List α} (hs : St w0 H w) (hj : H[j]? = some (.row e sz (.slice A n c) n (xs.flatMap enc))) (hn : n = xs.length) (hsz : ∀ x ∈ xs, (enc x).length = sz) (hl : xs.length ≤ 100000) : Sl enc sz w A xs := by
  subst hn
  refine ⟨by omega, fun hp => ?_⟩
  have hr := hs.ok j _ hj
  rcases hr.2 with ⟨h1, h2⟩ | ⟨g, cap, cur, hv, _, hg, _⟩
  · omega
  · cases hv
    refine ⟨g, 0, rfl, fun k x hx i u hu => ?_⟩
    have hown : w.ownsRow w0.heap.size e sz (.slice (some ⟨g, 0, none⟩) xs.length c) xs.length (xs.flatMap enc) := hr
    have key : ∀ (l : List α) (k : Nat), (∀ x ∈ l, (enc x).length = sz) → l[k]? = some x → (l.flatMap enc)[k * sz + i]? = some u := by
      intro l
      induction l with
      | nil => intro k _ h; cases h
      | cons y r ih =>
        intro k hz h
        have hy := hz y List.mem_cons_self
        have hi : i < (enc x).length := (List.getElem?_eq_some_iff.1 hu).1
        cases k with
        | zero =>
          simp at h
          subst h
          rw [List.flatMap_cons, Nat.zero_mul, Nat.zero_add, List.getElem?_append_left hi]
          exact hu
        | succ k =>
          rw [List.flatMap_cons, List.getElem?_append_right (by rw [hy, Nat.succ_mul]; omega), hy, show (k + 1) * sz + i - sz = k * sz + i by rw [Nat.succ_mul]; omega]
          exact ih k (fun z hz' => hz z (List.mem_cons_of_mem _ hz')) (by simpa using h)
    have := hown.cells (g := g) rfl (k * sz + i) u (key xs k hsz hx)
    rw [add0, Nat.zero_add] at this
    simpa using this
theorem slG_row {w0 w : World} {H : List It} {j n c : Nat} {A : Option Addr} {gs : List Gr} (hs : St w0 H w) (hj : H[j]? = some (.row 51 3 (.slice A n c) n (gcells gs))) (hn : n = gs.length) (hl : gs.length ≤ 100000) : Sl Gr.cells 3 w A gs := sl_rowN hs hj hn (fun _ _ => rfl) hl
end Go.Proofs.YtlkkiimmangplaaGreatDoor

/- Access in plain words. -/
namespace Go.Proofs.YtlkkiimmangplaaGreatDoor
open Go.RowKit
set_option linter.unusedVariables false
set_option linter.unusedSimpArgs false
/-- Two lists of one length, place by place. -/
inductive All2 {α β : Type} (R : α → β → Prop) : List α → List β → Prop
  | nil : All2 R [] []
  | cons {x : α} {y : β} {xs : List α} {ys : List β} (h : R x y) (t : All2 R xs ys) : All2 R (x :: xs) (y :: ys)
/-- An entry with the values of its slices. -/
abbrev EV := E × Value × Value
section
variable (mat : ByteArray → ByteArray → Bool) (ord : ByteArray → ByteArray → Int)
def bestOn (name : ByteArray) (b : Option EV) (x : EV) : Bool := decide (x.1.kind = 4) && (validE x.1 && (mat x.1.name name && (match b with | none => true | some y => decide (ord x.1.name y.1.name < 0))))
def bestStep (name : ByteArray) (b : Option EV) (x : EV) : Option EV := if bestOn mat ord name b x = true then some x else b
def bestX (name : ByteArray) (xs : List EV) : Option EV := xs.foldl (bestStep mat ord name) none
def granted (p : Gr → Bool) (s : Int × Bool) (g : Gr) : Int × Bool := if p g = true then (if s.1 < g.level then g.level else s.1, true) else s
def grantedX (p : Gr → Bool) (gs : List Gr) : Int × Bool := gs.foldl (granted p) (0, false)
def userG (user : ByteArray) (g : Gr) : Bool := !g.group && decide (g.who = user)
def groupG (groups : List ByteArray) (g : Gr) : Bool := g.group && groups.any (fun x => decide (x = g.who))
def levelOf (e : E) (user : ByteArray) (groups : List ByteArray) : Int :=
  if !decide (user = bempty) && decide (e.owner = user) then 3 else
  if (grantedX (userG user) e.grants).2 = true then (grantedX (userG user) e.grants).1 else
  if (grantedX (groupG groups) e.grants).2 = true then (grantedX (groupG groups) e.grants).1 else e.level
def levelX (first : ByteArray) (xs : List EV) (user : ByteArray) (groups : List ByteArray) (name : ByteArray) : Int :=
  if nameB name = true then (if first = user then 3 else match bestX mat ord name xs with | none => 0 | some x => levelOf x.1 user groups) else 0
/-! ### What rises -/
def GrUp (g g' : Gr) : Prop := g'.who = g.who ∧ g'.group = g.group ∧ g.level ≤ g'.level
structure EUp (e e' : E) : Prop where
  kind : e'.kind = e.kind
  name : e'.name = e.name
  owner : e'.owner = e.owner
  valid : validE e' = validE e
  level : e.level ≤ e'.level
  grants : All2 GrUp e.grants e'.grants
end
end Go.Proofs.YtlkkiimmangplaaGreatDoor
namespace Go.Proofs.YtlkkiimmangplaaGreatDoor
/-! ### Rising keeps what is valid -/
def upL (a b : Int) : Prop := a ≤ b ∧ (inB 0 3 [b] = inB 0 3 [a])
def GrRise (g g' : Gr) : Prop := g'.who = g.who ∧ g'.group = g.group ∧ upL g.level g'.level
theorem GrUp.refl (g : Gr) : GrUp g g := ⟨rfl, rfl, Int.le_refl _⟩
theorem All2.refl {α : Type} {R : α → α → Prop} (h : ∀ x, R x x) : ∀ l : List α, All2 R l l
  | [] => .nil
  | x :: l => .cons (h x) (All2.refl h l)
theorem EUp.refl (e : E) : EUp e e := ⟨rfl, rfl, rfl, rfl, Int.le_refl _, All2.refl GrUp.refl _⟩
/-- How TopAccess raises a level. -/
def riseP (rise : List Int) (level n : Int) : Int :=
  if rise.length = 0 ∨ level < 0 ∨ 3 < level then level else if 3 < level + (rise.getD (n % rise.length).toNat 0) % 4 then 3 else level + (rise.getD (n % rise.length).toNat 0) % 4
end Go.Proofs.YtlkkiimmangplaaGreatDoor

/- The profile of a data set. -/
namespace Go.Proofs.YtlkkiimmangplaaGreatDoor
open Go.RowKit
set_option linter.unusedVariables false
set_option linter.unusedSimpArgs false

/-- A slice of grants, read from now on. -/
def GrS (gs : List Gr) (p : Value × It) : Prop := p.1.oneCell' = true ∧ ∀ (w0 w : World) (H : List It) (j : Nat), St w0 H w → H[j]? = some p.2 → ∃ A c, p.1 = .slice A gs.length c ∧ gs.length ≤ c ∧ Sl Gr.cells 3 w A gs
theorem GrS.none : GrS [] (vnil, .nil) := ⟨rfl, fun _ _ _ _ _ _ => ⟨Option.none, 0, rfl, Nat.le_refl _, Sl.nil _ _ _⟩⟩
theorem GrS.row {w w' : World} {v : Value} {gs : List Gr} {n : Nat} {cs : List Value} (hn : n = gs.length) (hcs : cs = gcells gs) (hs : St w [.row 51 3 v n cs] w') (hl : gs.length ≤ 100000) : GrS gs (v, .row 51 3 v n cs) := by
  subst hn hcs
  refine ⟨?_, fun w0 w H j hst hj => ?_⟩
  · rcases (hs.ok 0 _ rfl).2 with ⟨h, _⟩ | ⟨g, cap, cur, h, _⟩ <;> (show v.oneCell' = true; rw [h]; rfl)
  · have hj' : H[j]? = some (.row 51 3 v gs.length (gcells gs)) := hj
    rcases (hst.ok j _ hj').2 with ⟨h, h2⟩ | ⟨g, cap, cur, h, _, _, h3, _⟩
    · subst h
      have : gs = [] := List.length_eq_zero_iff.1 h2
      subst this
      exact ⟨Option.none, 0, rfl, Nat.le_refl _, Sl.nil _ _ _⟩
    · subst h
      exact ⟨_, cap, rfl, h3, slG_row hst hj' rfl hl⟩

def encEV (x : EV) : List Value := (x.1.cells x.2.1 x.2.2).toList
/-- Entries that came in, as a slice. -/
structure Evs (w : World) (A : Option Addr) (xs : List EV) : Prop where
  sl : Sl encEV 33 w A xs
  ent : ∀ x ∈ xs, EntAt w x.1 x.2.1 x.2.2
  nm : ∀ x ∈ xs, x.1.name.size ≤ 1000
  gl : ∀ x ∈ xs, x.1.grants.length ≤ 1000
  gz : ∀ x ∈ xs, ∀ m c, x.2.2 = .slice none m c → m = 0
theorem Evs.st {w0 w : World} {H : List It} {A : Option Addr} {xs : List EV} (h : Evs w0 A xs) (hs : St w0 H w) : Evs w A xs := ⟨h.sl.st hs, fun x hx => (h.ent x hx).st hs, h.nm, h.gl, h.gz⟩
theorem EntAt.one {w : World} {e : E} {va vg : Value} (h : EntAt w e va vg) : va.oneCell' = true ∧ vg.oneCell' = true := by
  obtain ⟨⟨_, _, rfl, _⟩, ⟨_, _, rfl, _⟩⟩ := h
  exact ⟨rfl, rfl⟩
/-- The index of the best one so far. -/
def BI (name : ByteArray) (xs : List EV) (k : Nat) (bi : Int) : Prop := (bi = -1 ∧ (xs.take k).foldl (bestStep matchB ordB name) none = none) ∨ ∃ (j : Nat) (x : EV), bi = (j : Int) ∧ xs[j]? = some x ∧ (xs.take k).foldl (bestStep matchB ordB name) none = some x
theorem BI.step {name : ByteArray} {xs : List EV} {k : Nat} {x : EV} (hx : xs[k]? = some x) : (xs.take (k + 1)).foldl (bestStep matchB ordB name) none = bestStep matchB ordB name ((xs.take k).foldl (bestStep matchB ordB name) none) x := by
  rw [take_snoc hx, List.foldl_append]; rfl
theorem BI.on {name : ByteArray} {xs : List EV} {k : Nat} {x : EV} (hx : xs[k]? = some x) (h : bestOn matchB ordB name ((xs.take k).foldl (bestStep matchB ordB name) none) x = true) : BI name xs (k + 1) (k : Int) := .inr ⟨k, x, rfl, hx, by rw [BI.step hx, bestStep, if_pos h]⟩
theorem BI.off {name : ByteArray} {xs : List EV} {k : Nat} {x : EV} {bi : Int} (hx : xs[k]? = some x) (hb : BI name xs k bi) (h : bestOn matchB ordB name ((xs.take k).foldl (bestStep matchB ordB name) none) x = false) : BI name xs (k + 1) bi := by
  have e := BI.step (name := name) hx
  rw [bestStep, if_neg (by rw [h]; decide)] at e
  unfold BI
  rw [e]
  exact hb
section
variable {mat : ByteArray → ByteArray → Bool} {ord : ByteArray → ByteArray → Int} {name : ByteArray} {b : Option EV} {x y : EV}
end
def bE (r : Option EV) : E := (r.map (·.1)).getD E.zero
def bVa (r : Option EV) : Value := (r.map (·.2.1)).getD vnil
end Go.Proofs.YtlkkiimmangplaaGreatDoor

/- The rules of access. -/
namespace Go.Proofs.YtlkkiimmangplaaGreatDoor
open Go.RowKit
set_option linter.unusedVariables false
set_option linter.unusedSimpArgs false

/-- A function value that answers like p at grants. -/
structure PredG (w : World) (g : Nat) (cap : Array Value) (p : Gr → Bool) : Prop where
  ent : Ent g
  at_ : ∀ (x : Gr) (w' : World), Below w.heap.size w w' → Calls Tryz.prog g (#[.agg x.cells.toArray] ++ cap) w' (RetV w' (.bool (p x)))
end Go.Proofs.YtlkkiimmangplaaGreatDoor

/- The level of a user. -/
namespace Go.Proofs.YtlkkiimmangplaaGreatDoor
open Go.RowKit
set_option linter.unusedVariables false
set_option linter.unusedSimpArgs false

/-- The first rules do not decide. -/
def RO (k : Nat) (c0 c1 c2 c3 c4 : Bool) : Prop := k ≤ 5 ∧ (0 < k → c0 = false) ∧ (1 < k → c1 = false) ∧ (2 < k → c2 = false) ∧ (3 < k → c3 = false) ∧ (4 < k → c4 = false)
end Go.Proofs.YtlkkiimmangplaaGreatDoor
