/- Parts: V14, V15, P57, P58, P59, L9, P60, P61, P62, P63, X5, J0. -/
import Derived.Test.YtlkkiimmangplaaGreatDoorRA5
import Derived.Lib.IndexMore
import Derived.Test.YtlkkiimmangplaaGreatDoorRows
import Derived.Lib.LaidTab
import Derived.MakeChecks
import Derived.JoinedOf
import Derived.KernelRfl
import Derived.SevenTiedAt
/- Own blocks in another order; remainders of any kind; a call through a value in a region that draws. -/
namespace Go.Proofs.YtlkkiimmangplaaGreatDoor
open Go.RowKit
set_option linter.unusedVariables false
set_option linter.unusedSimpArgs false
section
variable {w0 : World} {n : Nat} {ops : Array Oper} {Q : Exit → Act → World → Prop} {o : Oper} {rest : List Oper} {ρ : Env} {H : List It}
variable {d : Nat} {ty t t' : TypeId} {pos : String} {af : Array Edge} {g : Option (Nat × Bool)} {x y z : Operand} {v u : Value}
end
abbrev encB (x : Int) : List Value := [.int .u8 x]
end Go.Proofs.YtlkkiimmangplaaGreatDoor

/- Own blocks of which some are told one by one and others as a list; append of a block of the same drawing region. -/
namespace Go.Proofs.YtlkkiimmangplaaGreatDoor
open Go.RowKit
set_option linter.unusedVariables false
set_option linter.unusedSimpArgs false
theorem St.pick {w0 w : World} {H H' : List It} (hs : St w0 H w) (f : Nat → Nat) (hf : ∀ (i : Nat) x, H'[i]? = some x → H[f i]? = some x) (hi : ∀ i j, i < H'.length → j < H'.length → i ≠ j → f i ≠ f j) : St w0 H' w :=
  ⟨hs.below, fun i x hx => hs.ok _ x (hf i x hx), fun i j x y hx hy hij k hk hk' => hs.apart _ _ x y (hf i x hx) (hf j y hy) (hi i j (List.getElem?_eq_some_iff.1 hx).1 (List.getElem?_eq_some_iff.1 hy).1 hij) k hk hk'⟩
/-- Some of the first t blocks, in a given order, and all that stand behind them. -/
def selT (H : List It) (l : List Nat) (t : Nat) : List It := l.map (fun i => H.getD i .nil) ++ H.drop t
def selTok (H : List It) (l : List Nat) (t : Nat) : Bool := l.all (fun i => Nat.blt i t) && (decide l.Nodup && Nat.ble t H.length)
theorem St.selT {w0 w : World} {H : List It} (hs : St w0 H w) {l : List Nat} {t : Nat} (h : selTok H l t = true) : St w0 (selT H l t) w := by
  unfold selTok at h
  rw [Bool.and_eq_true, Bool.and_eq_true, List.all_eq_true, decide_eq_true_eq] at h
  obtain ⟨h1, h2, h3⟩ := h
  have h3' : t ≤ H.length := by simpa using h3
  have hlt : ∀ i (hi : i < l.length), l[i] < t := fun i hi => by simpa [Nat.blt, Nat.succ_le_iff] using h1 l[i] (List.getElem_mem hi)
  refine hs.pick (fun i => if i < l.length then l.getD i 0 else t + (i - l.length)) (fun i x hx => ?_) (fun i j hi hj hij => ?_)
  · unfold YtlkkiimmangplaaGreatDoor.selT at hx
    by_cases hl : i < l.length
    · rw [if_pos hl]
      rw [List.getElem?_append_left (by simpa using hl), List.getElem?_map, List.getElem?_eq_getElem hl] at hx
      have e : l.getD i 0 = l[i] := by rw [List.getD_eq_getElem?_getD, List.getElem?_eq_getElem hl]; rfl
      have hlH : l[i] < H.length := by have := hlt i hl; omega
      rw [e]
      simp only [Option.map_some, List.getD_eq_getElem?_getD, List.getElem?_eq_getElem hlH, Option.getD_some] at hx
      rw [List.getElem?_eq_getElem hlH]
      exact hx
    · rw [if_neg hl]
      rw [List.getElem?_append_right (by simp; omega), List.length_map, List.getElem?_drop] at hx
      exact hx
  · by_cases hl : i < l.length <;> by_cases hl' : j < l.length
    · rw [if_pos hl, if_pos hl']
      have e : l.getD i 0 = l[i] := by rw [List.getD_eq_getElem?_getD, List.getElem?_eq_getElem hl]; rfl
      have e' : l.getD j 0 = l[j] := by rw [List.getD_eq_getElem?_getD, List.getElem?_eq_getElem hl']; rfl
      rw [e, e']
      exact fun h => hij ((List.getElem_inj h2).1 h)
    · rw [if_pos hl, if_neg hl']
      have e : l.getD i 0 = l[i] := by rw [List.getD_eq_getElem?_getD, List.getElem?_eq_getElem hl]; rfl
      have := hlt i hl
      rw [e]; omega
    · rw [if_neg hl, if_pos hl']
      have e' : l.getD j 0 = l[j] := by rw [List.getD_eq_getElem?_getD, List.getElem?_eq_getElem hl']; rfl
      have := hlt j hl'
      rw [e']; omega
    · rw [if_neg hl, if_neg hl']; omega
section
variable {w0 : World} {n : Nat} {ops : Array Oper} {Q : Exit → Act → World → Prop} {o : Oper} {rest : List Oper} {ρ : Env} {H : List It}
variable {d : Nat} {ty t t' : TypeId} {pos : String} {af : Array Edge} {g : Option (Nat × Bool)} {x y z : Operand} {v u : Value}
variable {vs : List (Lt → Value)} {Hs : (Nat → Bool) → Lt → List It} {al : List Nat} {i : Nat}
end
/-- What a list of own rows bears: these entries read, wherever the rows are among what is own. -/
def Held (w0 : World) (its : List It) (ys : List EV) : Prop := ∀ (w : World) (H : List It), St w0 H w → (∀ i ∈ its, i ∈ H) → ∀ y ∈ ys, EntAt w y.1 y.2.1 y.2.2
theorem Held.nil (w0 : World) : Held w0 [] [] := fun _ _ _ _ y hy => by cases hy
theorem Held.new {w0 : World} {its : List It} {ys : List EV} {e : E} {va v : Value} {it : It} (h : Held w0 its ys) (ha : ∃ A c, va = .slice A e.alt.length c ∧ e.alt.length ≤ c ∧ Sl encI 1 w0 A e.alt) (hg : GrS e.grants (v, it)) : Held w0 (it :: its) (ys ++ [(e, va, v)]) := fun w H hs hi y hy => by
  rcases List.mem_append.1 hy with hy | hy
  · exact h w H hs (fun i hm => hi i (List.mem_cons_of_mem _ hm)) y hy
  · rw [List.mem_singleton.1 hy]
    obtain ⟨j, hj⟩ := List.mem_iff_getElem?.1 (hi it List.mem_cons_self)
    obtain ⟨A, c, h1, h2, h3⟩ := ha
    exact ⟨⟨A, c, h1, h2, h3.st hs⟩, hg.2 w0 w H j hs hj⟩
theorem EntAt.gz {w : World} {e : E} {va vg : Value} (h : EntAt w e va vg) (m c : Nat) (hv : vg = .slice none m c) : m = 0 := by
  obtain ⟨_, ⟨A, c', h1, _, h3⟩⟩ := h
  rw [hv] at h1
  cases h1
  rcases Nat.eq_zero_or_pos e.grants.length with h0 | hp
  · exact h0
  · obtain ⟨_, _, h4, _⟩ := h3.at_ hp
    cases h4
end Go.Proofs.YtlkkiimmangplaaGreatDoor

/- The law on access through the layers. -/
namespace Go.Proofs.YtlkkiimmangplaaGreatDoor
open Go.RowKit
set_option linter.unusedVariables false
set_option linter.unusedSimpArgs false

theorem GrS.of {v : Value} {gs : List Gr} {n : Nat} {cs : List Value} (hn : n = gs.length) (hcs : cs = gcells gs) (h1 : v.oneCell' = true) (hl : gs.length ≤ 100000) : GrS gs (v, .row 51 3 v n cs) := by
  subst hn hcs
  refine ⟨h1, fun w0 w H j hst hj => ?_⟩
  have hj' : H[j]? = some (.row 51 3 v gs.length (gcells gs)) := hj
  rcases (hst.ok j _ hj').2 with ⟨h, h2⟩ | ⟨g, cap, cur, h, _, _, h3, _⟩
  · subst h
    have : gs = [] := List.length_eq_zero_iff.1 h2
    subst this
    exact ⟨Option.none, 0, rfl, Nat.le_refl _, Sl.nil _ _ _⟩
  · subst h
    exact ⟨_, cap, rfl, h3, slG_row hst hj' rfl hl⟩
end Go.Proofs.YtlkkiimmangplaaGreatDoor

/- The reference's checks of an entry's fields. -/
namespace Go.Proofs.YtlkkiimmangplaaGreatDoor
open Go.RowKit
set_option linter.unusedVariables false
set_option linter.unusedSimpArgs false

def dsNumsD (d : DS) : List Int := [d.id, d.org, d.format, d.length, d.block, d.keyAt, d.keyLength, d.interval, d.area, d.freeInterval, d.freeArea, d.base, d.altAt, d.altLength]
theorem dsNums_D (e : E) : dsNums e = dsNumsD e.ds := rfl
def storedB (n : Int) : Bool := decide (0 ≤ n) && decide (n ≤ 1099511627776)
def levelB (n : Int) : Bool := decide (0 ≤ n) && decide (n ≤ 3)
def setR (d : DS) : Bool := (dsNumsD d).all storedB && (decide (1 ≤ d.id) && (decide (d.org ≤ 3) && (decide (d.format ≤ 2) && (decide (0 ≤ d.cls) && (decide (d.cls ≤ 3) && (ownerR d.volume && (ownerR d.owner && (dayB d.created && dayB d.expires))))))))
def altR (l : List Int) : Bool := altOK l && decide ((l.length : Int) ≤ 4)
def g0 : Gr := ⟨⟨#[]⟩, false, 0⟩
def sameKey (a b : Gr) : Bool := (a.who.toList == b.who.toList) && (a.group == b.group)
def grE (gs : List Gr) (i : Nat) : Bool := qualR (gs.getD i g0).who && (levelB (gs.getD i g0).level && !((List.range i).any (fun k => sameKey (gs.getD k g0) (gs.getD i g0))))
def grantsR (gs : List Gr) : Bool := (List.range gs.length).all (grE gs) && decide ((gs.length : Int) ≤ 8)
theorem getD_gr {gs : List Gr} {k : Nat} {g : Gr} (h : gs[k]? = some g) : gs.getD k g0 = g := by rw [List.getD_eq_getElem?_getD, h]; rfl
theorem all_noI {l : List Int} {k : Nat} {x : Int} {p : Int → Bool} (h : l[k]? = some x) (hp : p x = false) : l.all p = false := by
  rw [Bool.eq_false_iff]
  intro he
  rw [List.all_eq_true.1 he x (List.mem_of_getElem? h)] at hp
  cases hp
theorem range_no {p : Nat → Bool} {k n : Nat} (hk : k < n) (h : p k = false) : (List.range n).all p = false := by
  rw [Bool.eq_false_iff]
  intro he
  rw [List.all_eq_true.1 he k (List.mem_range.2 hk)] at h
  cases h
theorem any_snocR (p : Nat → Bool) (k : Nat) : (List.range (k + 1)).any p = ((List.range k).any p || p k) := by rw [List.range_succ]; simp
theorem altR_no {l : List Int} {k : Nat} (hk : k < l.length) (h : altE l k = false) : altR l = false := by rw [altR, altOK, range_no hk h]; rfl
theorem grantsR_no {gs : List Gr} {k : Nat} (hk : k < gs.length) (h : grE gs k = false) : grantsR gs = false := by rw [grantsR, range_no hk h]; rfl
theorem allI_snoc {l : List Int} {p : Int → Bool} {k : Nat} {x : Int} (h : l[k]? = some x) : (l.take (k + 1)).all p = ((l.take k).all p && p x) := by rw [take_snoc h]; simp

set_option maxRecDepth 100000 in
theorem stored_any (n : Int) (w : World) :
    Calls Tryz.prog 217 #[.int .i64 n] w (RetV w (.bool (storedB n))) := by
  refine enter Tryz.func217 rfl Tryz.ntmps217 rfl ?_
  refine WC.seq ?_
  refine WC.region ?_
  refine WL.p rfl rfl rfl (P.assign rfl) ?_
  refine WL.nil_ ?_
  refine End.seq ?_
  refine WC.seq ?_
  refine WC.region ?_
  refine WL.p rfl rfl rfl (P.move rfl) ?_
  refine WL.p rfl rfl rfl (P.cmp rfl rfl rfl) ?_
  refine WL.p rfl rfl rfl (P.move rfl) ?_
  refine WL.split 5 rfl (fun hs5 => ?_) (fun hs5 => ?_)
  ·
    refine WL.p rfl rfl rfl (P.move rfl) ?_
    refine WL.p rfl rfl rfl (P.cmp rfl rfl rfl) ?_
    refine WL.p rfl rfl rfl (P.pickT rfl rfl) ?_
    refine WL.p rfl rfl rfl (P.assign rfl) ?_
    refine WL.nil_ ?_
    refine End.seq ?_
    refine WC.ret ?_
    refine End.ret1 rfl rfl ?_
    exact fun w' hs' => RetV.of (by simp [storedB, hs5]) hs'
  ·
    refine WL.off rfl rfl ?_
    refine WL.off rfl rfl ?_
    refine WL.p rfl rfl rfl (P.pickF rfl rfl) ?_
    refine WL.p rfl rfl rfl (P.assign rfl) ?_
    refine WL.nil_ ?_
    refine End.seq ?_
    refine WC.ret ?_
    refine End.ret1 rfl rfl ?_
    exact fun w' hs' => RetV.of (by simp [storedB, hs5]) hs'

set_option maxRecDepth 100000 in
theorem refLevel_any (n : Int) (w : World) :
    Calls Tryz.prog 125 #[.int .i64 n] w (RetV w (.bool (levelB n))) := by
  refine enter Tryz.func125 rfl Tryz.ntmps125 rfl ?_
  refine WC.seq ?_
  refine WC.region ?_
  refine WL.p rfl rfl rfl (P.assign rfl) ?_
  refine WL.nil_ ?_
  refine End.seq ?_
  refine WC.seq ?_
  refine WC.region ?_
  refine WL.p rfl rfl rfl (P.move rfl) ?_
  refine WL.p rfl rfl rfl (P.cmp rfl rfl rfl) ?_
  refine WL.p rfl rfl rfl (P.move rfl) ?_
  refine WL.split 5 rfl (fun hs5 => ?_) (fun hs5 => ?_)
  ·
    refine WL.p rfl rfl rfl (P.move rfl) ?_
    refine WL.p rfl rfl rfl (P.cmp rfl rfl rfl) ?_
    refine WL.p rfl rfl rfl (P.pickT rfl rfl) ?_
    refine WL.p rfl rfl rfl (P.assign rfl) ?_
    refine WL.nil_ ?_
    refine End.seq ?_
    refine WC.ret ?_
    refine End.ret1 rfl rfl ?_
    exact fun w' hs' => RetV.of (by simp [levelB, hs5]) hs'
  ·
    refine WL.off rfl rfl ?_
    refine WL.off rfl rfl ?_
    refine WL.p rfl rfl rfl (P.pickF rfl rfl) ?_
    refine WL.p rfl rfl rfl (P.assign rfl) ?_
    refine WL.nil_ ?_
    refine End.seq ?_
    refine WC.ret ?_
    refine End.ret1 rfl rfl ?_
    exact fun w' hs' => RetV.of (by simp [levelB, hs5]) hs'

set_option maxRecDepth 100000 in
theorem refIsDay_any (n : Int) (w : World) :
    Calls Tryz.prog 121 #[.int .i64 n] w (RetV w (.bool (dayB n))) := by
  refine enter Tryz.func121 rfl Tryz.ntmps121 rfl ?_
  refine WC.seq ?_
  refine WC.region ?_
  refine WL.p rfl rfl rfl (P.assign rfl) ?_
  refine WL.nil_ ?_
  refine End.seq ?_
  refine WC.seq ?_
  refine WC.region ?_
  refine WL.p rfl rfl rfl (P.move rfl) ?_
  refine WL.p rfl rfl rfl (P.cmp rfl rfl rfl) ?_
  refine WL.p rfl rfl rfl (P.move rfl) ?_
  refine WL.split 5 rfl (fun hs5 => ?_) (fun hs5 => ?_)
  ·
    refine WL.p rfl rfl rfl (P.move rfl) ?_
    refine WL.p rfl rfl rfl (P.cmp rfl rfl rfl) ?_
    refine WL.p rfl rfl rfl (P.pickT rfl rfl) ?_
    refine WL.p rfl rfl rfl (P.assign rfl) ?_
    refine WL.nil_ ?_
    refine End.seq ?_
    refine WC.ret ?_
    refine End.ret1 rfl rfl ?_
    exact fun w' hs' => RetV.of (by simp [dayB, hs5]) hs'
  ·
    refine WL.off rfl rfl ?_
    refine WL.off rfl rfl ?_
    refine WL.p rfl rfl rfl (P.pickF rfl rfl) ?_
    refine WL.p rfl rfl rfl (P.assign rfl) ?_
    refine WL.nil_ ?_
    refine End.seq ?_
    refine WC.ret ?_
    refine End.ret1 rfl rfl ?_
    exact fun w' hs' => RetV.of (by simp [dayB, hs5]) hs'

set_option maxRecDepth 100000 in
theorem refNumbers_any (d : DS) (w : World) :
    Calls Tryz.prog 216 #[.agg d.cells] w (Ret w (fun _ : Nat => True) (fun b => .slice (some ⟨b, 0, none⟩) 14 14) (fun b => [.blk b 3 ((dsNumsD d).map (Value.int .i64)).toArray])) := by
  refine enter Tryz.func216 rfl Tryz.ntmps216 rfl ?_
  refine WC.seq ?_
  refine WC.region ?_
  refine WL.box rfl rfl rfl (fun b1 => ?_)
  refine WL.p rfl rfl rfl (P.assign rfl) ?_
  refine WL.nil_ ?_
  refine End.seq ?_
  refine WC.seq ?_
  refine WC.region ?_
  refine WL.p rfl rfl rfl (P.fieldAddr fa_31_0 rfl) ?_
  refine WL.p rfl rfl rfl (P.loadO 0 Tryz.isAgg3 rfl rfl rfl) ?_
  refine WL.p rfl rfl rfl (P.fieldAddr fa_31_1 rfl) ?_
  refine WL.p rfl rfl rfl (P.loadO 0 Tryz.isAgg3 rfl rfl rfl) ?_
  refine WL.p rfl rfl rfl (P.fieldAddr fa_31_2 rfl) ?_
  refine WL.p rfl rfl rfl (P.loadO 0 Tryz.isAgg3 rfl rfl rfl) ?_
  refine WL.p rfl rfl rfl (P.fieldAddr fa_31_3 rfl) ?_
  refine WL.p rfl rfl rfl (P.loadO 0 Tryz.isAgg3 rfl rfl rfl) ?_
  refine WL.p rfl rfl rfl (P.fieldAddr fa_31_4 rfl) ?_
  refine WL.p rfl rfl rfl (P.loadO 0 Tryz.isAgg3 rfl rfl rfl) ?_
  refine WL.p rfl rfl rfl (P.fieldAddr fa_31_5 rfl) ?_
  refine WL.p rfl rfl rfl (P.loadO 0 Tryz.isAgg3 rfl rfl rfl) ?_
  refine WL.p rfl rfl rfl (P.fieldAddr fa_31_6 rfl) ?_
  refine WL.p rfl rfl rfl (P.loadO 0 Tryz.isAgg3 rfl rfl rfl) ?_
  refine WL.p rfl rfl rfl (P.fieldAddr fa_31_7 rfl) ?_
  refine WL.p rfl rfl rfl (P.loadO 0 Tryz.isAgg3 rfl rfl rfl) ?_
  refine WL.p rfl rfl rfl (P.fieldAddr fa_31_8 rfl) ?_
  refine WL.p rfl rfl rfl (P.loadO 0 Tryz.isAgg3 rfl rfl rfl) ?_
  refine WL.p rfl rfl rfl (P.fieldAddr fa_31_9 rfl) ?_
  refine WL.p rfl rfl rfl (P.loadO 0 Tryz.isAgg3 rfl rfl rfl) ?_
  refine WL.p rfl rfl rfl (P.fieldAddr fa_31_10 rfl) ?_
  refine WL.p rfl rfl rfl (P.loadO 0 Tryz.isAgg3 rfl rfl rfl) ?_
  refine WL.p rfl rfl rfl (P.fieldAddr fa_31_11 rfl) ?_
  refine WL.p rfl rfl rfl (P.loadO 0 Tryz.isAgg3 rfl rfl rfl) ?_
  refine WL.p rfl rfl rfl (P.fieldAddr fa_31_12 rfl) ?_
  refine WL.p rfl rfl rfl (P.loadO 0 Tryz.isAgg3 rfl rfl rfl) ?_
  refine WL.p rfl rfl rfl (P.fieldAddr fa_31_13 rfl) ?_
  refine WL.p rfl rfl rfl (P.loadO 0 Tryz.isAgg3 rfl rfl rfl) ?_
  refine WL.row Tryz.underlying22 Tryz.sizeOf3 Tryz.zeroValue3 rfl rfl rfl rfl rfl rfl rfl rfl rfl (fun b31 => ?_)
  refine WL.p rfl rfl rfl (P.assign rfl) ?_
  refine WL.nil_ ?_
  refine End.seq ?_
  refine WC.ret ?_
  refine End.ret1 rfl rfl ?_
  exact fun w' hs' => ⟨b31, trivial, rfl, hs'.sel [0] rfl⟩

set_option maxRecDepth 100000 in
theorem set_any (d : DS) (w : World) :
    Calls Tryz.prog 119 #[.agg d.cells] w (RetV w (.bool (setR d))) := by
  have hl14 : (dsNumsD d).length = 14 := rfl
  refine enter Tryz.func119 rfl Tryz.ntmps119 rfl ?_
  refine WC.seq ?_
  refine WC.region ?_
  refine WL.box rfl rfl rfl (fun b1 => ?_)
  refine WL.p rfl rfl rfl (P.assign rfl) ?_
  refine WL.nil_ ?_
  refine End.seq ?_
  refine WC.seq ?_
  refine WC.region ?_
  refine WL.p rfl rfl rfl (P.loadW 0 Tryz.isAgg31 Tryz.sizeOf31 rfl rfl rfl) ?_
  refine WL.callx (ent_of Tryz.func216 rfl rfl) rfl rfl rfl (fun w hs => refNumbers_any d w) (fun bn _ => ?_)
  refine WL.p rfl rfl rfl (P.assign rfl) ?_
  refine WL.nil_ ?_
  refine End.seq ?_
  refine WC.seq ?_
  refine WC.seq ?_
  refine WC.region ?_
  refine WL.p rfl rfl rfl (P.assign rfl) ?_
  refine WL.nil_ ?_
  refine End.seq ?_
  refine WC.block ?_
  refine WC.loopD (σ := Nat) (fun k => [(4, .int .i64 (k : Nat))]) (fun k => [.blk bn 3 ((dsNumsD d).map (Value.int .i64)).toArray, .blk b1 31 d.cells]) (fun k => k ≤ 14 ∧ ((dsNumsD d).take k).all storedB = true) (fun k => 14 - k) 0 ⟨Nat.zero_le _, rfl⟩ (Env.sub_cons rfl (Env.sub_nil)) [0, 1] rfl rfl ?_
  rintro k ⟨hk, hok⟩
  refine WC.seq ?_
  refine WC.seq ?_
  refine WC.region ?_
  refine WL.p rfl rfl rfl (P.move rfl) ?_
  refine WL.p rfl rfl rfl (P.move rfl) ?_
  refine WL.p rfl rfl rfl (P.lenR Tryz.underlying22 rfl) ?_
  refine WL.p rfl rfl rfl (P.cmp rfl rfl rfl) ?_
  refine WL.nil_ ?_
  refine End.seq ?_
  refine WC.cond rfl (fun hc10 => ?_) (fun hc10 => ?_)
  ·
    have hkl : k < 14 := by have := of_decide_eq_true hc10; omega
    obtain ⟨x, hx⟩ := get_of_lt (xs := dsNumsD d) (k := k) (by omega)
    refine WC.skip ?_
    refine End.seq ?_
    refine WC.seq ?_
    refine WC.block ?_
    refine WC.seq ?_
    refine WC.region ?_
    refine WL.p rfl rfl rfl (P.move rfl) ?_
    refine WL.p rfl rfl rfl (P.move rfl) ?_
    refine WL.p rfl rfl rfl (P.elemAddr Tryz.underlying22 Tryz.sizeOf3 rfl rfl (by omega) (by omega)) ?_
    refine WL.p rfl rfl rfl (P.loadO 0 Tryz.isAgg3 rfl rfl (show ((dsNumsD d).map (Value.int .i64)).toArray[0 + (k : Int).toNat * 1]? = some (.int .i64 x) by simp [hx])) ?_
    refine WL.callv (ent_of Tryz.func217 rfl rfl) rfl rfl rfl (fun w hs => stored_any x w) ?_
    refine WL.p rfl rfl rfl (P.not_ rfl) ?_
    refine WL.nil_ ?_
    refine End.seq ?_
    refine WC.cond rfl (fun hc18 => ?_) (fun hc18 => ?_)
    ·
      refine WC.seq ?_
      refine WC.region ?_
      refine WL.p rfl rfl rfl (P.assign rfl) ?_
      refine WL.nil_ ?_
      refine End.seq ?_
      refine WC.ret ?_
      refine End.blkR ?_
      refine End.thenR ?_
      refine End.thenR ?_
      refine End.blkR ?_
      refine End.thenR ?_
      refine End.ret1 rfl rfl ?_
      exact fun w' hs' => RetV.of (by rw [setR, all_noI hx (show storedB x = false by simpa using hc18)]; rfl) hs'
    ·
      refine WC.skip ?_
      refine End.blkN ?_
      refine End.seq ?_
      refine WC.region ?_
      refine WL.p rfl rfl rfl (P.move rfl) ?_
      refine WL.p rfl rfl rfl (P.ari64 rfl rfl rfl (by omega)) ?_
      refine WL.p rfl rfl rfl (P.assign rfl) ?_
      refine WL.nil_ ?_
      refine End.againD (k + 1) ?_ ?_ rfl (Env.sub_cons rfl (Env.sub_nil)) rfl [0, 1] rfl rfl
      · exact ⟨by omega, by rw [allI_snoc hx, hok, show storedB x = true by simpa using hc18]; rfl⟩
      · show 14 - (k + 1) < 14 - k; omega
  ·
    have ek : k = 14 := by have := of_decide_eq_false hc10; omega
    have hall : (dsNumsD d).all storedB = true := by rw [ek] at hok; exact hok
    refine WC.exit ?_
    refine End.thenX ?_
    refine End.thenX ?_
    refine End.blkX ?_
    refine End.seq ?_
    refine WC.seq ?_
    refine WC.region ?_
    refine WL.p rfl rfl rfl (P.fieldAddr fa_31_0 rfl) ?_
    refine WL.p rfl rfl rfl (P.loadO 1 Tryz.isAgg3 rfl rfl rfl) ?_
    refine WL.p rfl rfl rfl (P.cmp rfl rfl rfl) ?_
    refine WL.p rfl rfl rfl (P.move rfl) ?_
    refine WL.split 22 rfl (fun hs22 => ?_) (fun hs22 => ?_)
    ·
      refine WL.p rfl rfl rfl (P.fieldAddr fa_31_1 rfl) ?_
      refine WL.p rfl rfl rfl (P.loadO 1 Tryz.isAgg3 rfl rfl rfl) ?_
      refine WL.p rfl rfl rfl (P.cmp rfl rfl rfl) ?_
      refine WL.p rfl rfl rfl (P.pickT rfl rfl) ?_
      refine WL.p rfl rfl rfl (P.move rfl) ?_
      refine WL.split 27 rfl (fun hs27 => ?_) (fun hs27 => ?_)
      ·
        refine WL.p rfl rfl rfl (P.fieldAddr fa_31_2 rfl) ?_
        refine WL.p rfl rfl rfl (P.loadO 1 Tryz.isAgg3 rfl rfl rfl) ?_
        refine WL.p rfl rfl rfl (P.cmp rfl rfl rfl) ?_
        refine WL.p rfl rfl rfl (P.pickT rfl rfl) ?_
        refine WL.p rfl rfl rfl (P.move rfl) ?_
        refine WL.split 32 rfl (fun hs32 => ?_) (fun hs32 => ?_)
        ·
          refine WL.p rfl rfl rfl (P.fieldAddr fa_31_15 rfl) ?_
          refine WL.p rfl rfl rfl (P.loadO 1 Tryz.isAgg3 rfl rfl rfl) ?_
          refine WL.p rfl rfl rfl (P.cmp rfl rfl rfl) ?_
          refine WL.p rfl rfl rfl (P.pickT rfl rfl) ?_
          refine WL.p rfl rfl rfl (P.move rfl) ?_
          refine WL.split 37 rfl (fun hs37 => ?_) (fun hs37 => ?_)
          ·
            refine WL.p rfl rfl rfl (P.fieldAddr fa_31_15 rfl) ?_
            refine WL.p rfl rfl rfl (P.loadO 1 Tryz.isAgg3 rfl rfl rfl) ?_
            refine WL.p rfl rfl rfl (P.cmp rfl rfl rfl) ?_
            refine WL.p rfl rfl rfl (P.pickT rfl rfl) ?_
            refine WL.p rfl rfl rfl (P.move rfl) ?_
            refine WL.split 42 rfl (fun hs42 => ?_) (fun hs42 => ?_)
            ·
              refine WL.p rfl rfl rfl (P.fieldAddr fa_31_16 rfl) ?_
              refine WL.p rfl rfl rfl (P.loadO 1 Tryz.isAgg9 rfl rfl rfl) ?_
              refine WL.callv (ent_of Tryz.func123 rfl rfl) rfl rfl rfl (fun w hs => refOwner_any _ w) ?_
              refine WL.p rfl rfl rfl (P.pickT rfl rfl) ?_
              refine WL.p rfl rfl rfl (P.move rfl) ?_
              refine WL.split 47 rfl (fun hs47 => ?_) (fun hs47 => ?_)
              ·
                refine WL.p rfl rfl rfl (P.fieldAddr fa_31_17 rfl) ?_
                refine WL.p rfl rfl rfl (P.loadO 1 Tryz.isAgg9 rfl rfl rfl) ?_
                refine WL.callv (ent_of Tryz.func123 rfl rfl) rfl rfl rfl (fun w hs => refOwner_any _ w) ?_
                refine WL.p rfl rfl rfl (P.pickT rfl rfl) ?_
                refine WL.p rfl rfl rfl (P.move rfl) ?_
                refine WL.split 52 rfl (fun hs52 => ?_) (fun hs52 => ?_)
                ·
                  refine WL.p rfl rfl rfl (P.fieldAddr fa_31_18 rfl) ?_
                  refine WL.p rfl rfl rfl (P.loadO 1 Tryz.isAgg3 rfl rfl rfl) ?_
                  refine WL.callv (ent_of Tryz.func121 rfl rfl) rfl rfl rfl (fun w hs => refIsDay_any _ w) ?_
                  refine WL.p rfl rfl rfl (P.pickT rfl rfl) ?_
                  refine WL.p rfl rfl rfl (P.move rfl) ?_
                  refine WL.split 57 rfl (fun hs57 => ?_) (fun hs57 => ?_)
                  ·
                    refine WL.p rfl rfl rfl (P.fieldAddr fa_31_19 rfl) ?_
                    refine WL.p rfl rfl rfl (P.loadO 1 Tryz.isAgg3 rfl rfl rfl) ?_
                    refine WL.callv (ent_of Tryz.func121 rfl rfl) rfl rfl rfl (fun w hs => refIsDay_any _ w) ?_
                    refine WL.p rfl rfl rfl (P.pickT rfl rfl) ?_
                    refine WL.p rfl rfl rfl (P.assign rfl) ?_
                    refine WL.nil_ ?_
                    refine End.seq ?_
                    refine WC.ret ?_
                    refine End.ret1 rfl rfl ?_
                    exact fun w' hs' => RetV.of (by rw [setR, hall]; simp only [*, Bool.true_and, Bool.false_and]) hs'
                  ·
                    refine WL.off rfl rfl ?_
                    refine WL.off rfl rfl ?_
                    refine WL.off rfl rfl ?_
                    refine WL.p rfl rfl rfl (P.pickF rfl rfl) ?_
                    refine WL.p rfl rfl rfl (P.assign rfl) ?_
                    refine WL.nil_ ?_
                    refine End.seq ?_
                    refine WC.ret ?_
                    refine End.ret1 rfl rfl ?_
                    exact fun w' hs' => RetV.of (by rw [setR, hall]; simp only [*, Bool.true_and, Bool.false_and]) hs'
                ·
                  refine WL.off rfl rfl ?_
                  refine WL.off rfl rfl ?_
                  refine WL.off rfl rfl ?_
                  refine WL.p rfl rfl rfl (P.pickF rfl rfl) ?_
                  refine WL.p rfl rfl rfl (P.move rfl) ?_
                  refine WL.off rfl rfl ?_
                  refine WL.off rfl rfl ?_
                  refine WL.off rfl rfl ?_
                  refine WL.p rfl rfl rfl (P.pickF rfl rfl) ?_
                  refine WL.p rfl rfl rfl (P.assign rfl) ?_
                  refine WL.nil_ ?_
                  refine End.seq ?_
                  refine WC.ret ?_
                  refine End.ret1 rfl rfl ?_
                  exact fun w' hs' => RetV.of (by rw [setR, hall]; simp only [*, Bool.true_and, Bool.false_and]) hs'
              ·
                refine WL.off rfl rfl ?_
                refine WL.off rfl rfl ?_
                refine WL.off rfl rfl ?_
                refine WL.p rfl rfl rfl (P.pickF rfl rfl) ?_
                refine WL.p rfl rfl rfl (P.move rfl) ?_
                refine WL.off rfl rfl ?_
                refine WL.off rfl rfl ?_
                refine WL.off rfl rfl ?_
                refine WL.p rfl rfl rfl (P.pickF rfl rfl) ?_
                refine WL.p rfl rfl rfl (P.move rfl) ?_
                refine WL.off rfl rfl ?_
                refine WL.off rfl rfl ?_
                refine WL.off rfl rfl ?_
                refine WL.p rfl rfl rfl (P.pickF rfl rfl) ?_
                refine WL.p rfl rfl rfl (P.assign rfl) ?_
                refine WL.nil_ ?_
                refine End.seq ?_
                refine WC.ret ?_
                refine End.ret1 rfl rfl ?_
                exact fun w' hs' => RetV.of (by rw [setR, hall]; simp only [*, Bool.true_and, Bool.false_and]) hs'
            ·
              refine WL.off rfl rfl ?_
              refine WL.off rfl rfl ?_
              refine WL.off rfl rfl ?_
              refine WL.p rfl rfl rfl (P.pickF rfl rfl) ?_
              refine WL.p rfl rfl rfl (P.move rfl) ?_
              refine WL.off rfl rfl ?_
              refine WL.off rfl rfl ?_
              refine WL.off rfl rfl ?_
              refine WL.p rfl rfl rfl (P.pickF rfl rfl) ?_
              refine WL.p rfl rfl rfl (P.move rfl) ?_
              refine WL.off rfl rfl ?_
              refine WL.off rfl rfl ?_
              refine WL.off rfl rfl ?_
              refine WL.p rfl rfl rfl (P.pickF rfl rfl) ?_
              refine WL.p rfl rfl rfl (P.move rfl) ?_
              refine WL.off rfl rfl ?_
              refine WL.off rfl rfl ?_
              refine WL.off rfl rfl ?_
              refine WL.p rfl rfl rfl (P.pickF rfl rfl) ?_
              refine WL.p rfl rfl rfl (P.assign rfl) ?_
              refine WL.nil_ ?_
              refine End.seq ?_
              refine WC.ret ?_
              refine End.ret1 rfl rfl ?_
              exact fun w' hs' => RetV.of (by rw [setR, hall]; simp only [*, Bool.true_and, Bool.false_and]) hs'
          ·
            refine WL.off rfl rfl ?_
            refine WL.off rfl rfl ?_
            refine WL.off rfl rfl ?_
            refine WL.p rfl rfl rfl (P.pickF rfl rfl) ?_
            refine WL.p rfl rfl rfl (P.move rfl) ?_
            refine WL.off rfl rfl ?_
            refine WL.off rfl rfl ?_
            refine WL.off rfl rfl ?_
            refine WL.p rfl rfl rfl (P.pickF rfl rfl) ?_
            refine WL.p rfl rfl rfl (P.move rfl) ?_
            refine WL.off rfl rfl ?_
            refine WL.off rfl rfl ?_
            refine WL.off rfl rfl ?_
            refine WL.p rfl rfl rfl (P.pickF rfl rfl) ?_
            refine WL.p rfl rfl rfl (P.move rfl) ?_
            refine WL.off rfl rfl ?_
            refine WL.off rfl rfl ?_
            refine WL.off rfl rfl ?_
            refine WL.p rfl rfl rfl (P.pickF rfl rfl) ?_
            refine WL.p rfl rfl rfl (P.move rfl) ?_
            refine WL.off rfl rfl ?_
            refine WL.off rfl rfl ?_
            refine WL.off rfl rfl ?_
            refine WL.p rfl rfl rfl (P.pickF rfl rfl) ?_
            refine WL.p rfl rfl rfl (P.assign rfl) ?_
            refine WL.nil_ ?_
            refine End.seq ?_
            refine WC.ret ?_
            refine End.ret1 rfl rfl ?_
            exact fun w' hs' => RetV.of (by rw [setR, hall]; simp only [*, Bool.true_and, Bool.false_and]) hs'
        ·
          refine WL.off rfl rfl ?_
          refine WL.off rfl rfl ?_
          refine WL.off rfl rfl ?_
          refine WL.p rfl rfl rfl (P.pickF rfl rfl) ?_
          refine WL.p rfl rfl rfl (P.move rfl) ?_
          refine WL.off rfl rfl ?_
          refine WL.off rfl rfl ?_
          refine WL.off rfl rfl ?_
          refine WL.p rfl rfl rfl (P.pickF rfl rfl) ?_
          refine WL.p rfl rfl rfl (P.move rfl) ?_
          refine WL.off rfl rfl ?_
          refine WL.off rfl rfl ?_
          refine WL.off rfl rfl ?_
          refine WL.p rfl rfl rfl (P.pickF rfl rfl) ?_
          refine WL.p rfl rfl rfl (P.move rfl) ?_
          refine WL.off rfl rfl ?_
          refine WL.off rfl rfl ?_
          refine WL.off rfl rfl ?_
          refine WL.p rfl rfl rfl (P.pickF rfl rfl) ?_
          refine WL.p rfl rfl rfl (P.move rfl) ?_
          refine WL.off rfl rfl ?_
          refine WL.off rfl rfl ?_
          refine WL.off rfl rfl ?_
          refine WL.p rfl rfl rfl (P.pickF rfl rfl) ?_
          refine WL.p rfl rfl rfl (P.move rfl) ?_
          refine WL.off rfl rfl ?_
          refine WL.off rfl rfl ?_
          refine WL.off rfl rfl ?_
          refine WL.p rfl rfl rfl (P.pickF rfl rfl) ?_
          refine WL.p rfl rfl rfl (P.assign rfl) ?_
          refine WL.nil_ ?_
          refine End.seq ?_
          refine WC.ret ?_
          refine End.ret1 rfl rfl ?_
          exact fun w' hs' => RetV.of (by rw [setR, hall]; simp only [*, Bool.true_and, Bool.false_and]) hs'
      ·
        refine WL.off rfl rfl ?_
        refine WL.off rfl rfl ?_
        refine WL.off rfl rfl ?_
        refine WL.p rfl rfl rfl (P.pickF rfl rfl) ?_
        refine WL.p rfl rfl rfl (P.move rfl) ?_
        refine WL.off rfl rfl ?_
        refine WL.off rfl rfl ?_
        refine WL.off rfl rfl ?_
        refine WL.p rfl rfl rfl (P.pickF rfl rfl) ?_
        refine WL.p rfl rfl rfl (P.move rfl) ?_
        refine WL.off rfl rfl ?_
        refine WL.off rfl rfl ?_
        refine WL.off rfl rfl ?_
        refine WL.p rfl rfl rfl (P.pickF rfl rfl) ?_
        refine WL.p rfl rfl rfl (P.move rfl) ?_
        refine WL.off rfl rfl ?_
        refine WL.off rfl rfl ?_
        refine WL.off rfl rfl ?_
        refine WL.p rfl rfl rfl (P.pickF rfl rfl) ?_
        refine WL.p rfl rfl rfl (P.move rfl) ?_
        refine WL.off rfl rfl ?_
        refine WL.off rfl rfl ?_
        refine WL.off rfl rfl ?_
        refine WL.p rfl rfl rfl (P.pickF rfl rfl) ?_
        refine WL.p rfl rfl rfl (P.move rfl) ?_
        refine WL.off rfl rfl ?_
        refine WL.off rfl rfl ?_
        refine WL.off rfl rfl ?_
        refine WL.p rfl rfl rfl (P.pickF rfl rfl) ?_
        refine WL.p rfl rfl rfl (P.move rfl) ?_
        refine WL.off rfl rfl ?_
        refine WL.off rfl rfl ?_
        refine WL.off rfl rfl ?_
        refine WL.p rfl rfl rfl (P.pickF rfl rfl) ?_
        refine WL.p rfl rfl rfl (P.assign rfl) ?_
        refine WL.nil_ ?_
        refine End.seq ?_
        refine WC.ret ?_
        refine End.ret1 rfl rfl ?_
        exact fun w' hs' => RetV.of (by rw [setR, hall]; simp only [*, Bool.true_and, Bool.false_and]) hs'
    ·
      refine WL.off rfl rfl ?_
      refine WL.off rfl rfl ?_
      refine WL.off rfl rfl ?_
      refine WL.p rfl rfl rfl (P.pickF rfl rfl) ?_
      refine WL.p rfl rfl rfl (P.move rfl) ?_
      refine WL.off rfl rfl ?_
      refine WL.off rfl rfl ?_
      refine WL.off rfl rfl ?_
      refine WL.p rfl rfl rfl (P.pickF rfl rfl) ?_
      refine WL.p rfl rfl rfl (P.move rfl) ?_
      refine WL.off rfl rfl ?_
      refine WL.off rfl rfl ?_
      refine WL.off rfl rfl ?_
      refine WL.p rfl rfl rfl (P.pickF rfl rfl) ?_
      refine WL.p rfl rfl rfl (P.move rfl) ?_
      refine WL.off rfl rfl ?_
      refine WL.off rfl rfl ?_
      refine WL.off rfl rfl ?_
      refine WL.p rfl rfl rfl (P.pickF rfl rfl) ?_
      refine WL.p rfl rfl rfl (P.move rfl) ?_
      refine WL.off rfl rfl ?_
      refine WL.off rfl rfl ?_
      refine WL.off rfl rfl ?_
      refine WL.p rfl rfl rfl (P.pickF rfl rfl) ?_
      refine WL.p rfl rfl rfl (P.move rfl) ?_
      refine WL.off rfl rfl ?_
      refine WL.off rfl rfl ?_
      refine WL.off rfl rfl ?_
      refine WL.p rfl rfl rfl (P.pickF rfl rfl) ?_
      refine WL.p rfl rfl rfl (P.move rfl) ?_
      refine WL.off rfl rfl ?_
      refine WL.off rfl rfl ?_
      refine WL.off rfl rfl ?_
      refine WL.p rfl rfl rfl (P.pickF rfl rfl) ?_
      refine WL.p rfl rfl rfl (P.move rfl) ?_
      refine WL.off rfl rfl ?_
      refine WL.off rfl rfl ?_
      refine WL.off rfl rfl ?_
      refine WL.p rfl rfl rfl (P.pickF rfl rfl) ?_
      refine WL.p rfl rfl rfl (P.assign rfl) ?_
      refine WL.nil_ ?_
      refine End.seq ?_
      refine WC.ret ?_
      refine End.ret1 rfl rfl ?_
      exact fun w' hs' => RetV.of (by rw [setR, hall]; simp only [*, Bool.true_and, Bool.false_and]) hs'

set_option maxRecDepth 100000 in
theorem alternates_any (A : Option Addr) (c : Nat) (l : List Int) (w : World) (hr : Sl encI 1 w A l) :
    Calls Tryz.prog 120 #[.slice A l.length c] w (RetV w (.bool (altR l))) := by
  refine enter Tryz.func120 rfl Tryz.ntmps120 rfl ?_
  refine WC.seq ?_
  refine WC.region ?_
  refine WL.p rfl rfl rfl (P.assign rfl) ?_
  refine WL.nil_ ?_
  refine End.seq ?_
  refine WC.seq ?_
  refine WC.seq ?_
  refine WC.region ?_
  refine WL.p rfl rfl rfl (P.assign rfl) ?_
  refine WL.nil_ ?_
  refine End.seq ?_
  refine WC.block ?_
  refine WC.loopD (σ := Nat) (fun k => [(3, .int .i64 (k : Nat))]) (fun k => []) (fun k => k ≤ l.length ∧ (List.range k).all (altE l) = true) (fun k => l.length - k) 0 ⟨Nat.zero_le _, rfl⟩ (Env.sub_cons rfl (Env.sub_nil)) [] rfl rfl ?_
  rintro k ⟨hk, hok⟩
  refine WC.seq ?_
  refine WC.seq ?_
  refine WC.region ?_
  refine WL.p rfl rfl rfl (P.move rfl) ?_
  refine WL.p rfl rfl rfl (P.move rfl) ?_
  refine WL.p rfl rfl rfl (P.lenR Tryz.underlying22 rfl) ?_
  refine WL.p rfl rfl rfl (P.cmp rfl rfl rfl) ?_
  refine WL.nil_ ?_
  refine End.seq ?_
  refine WC.cond rfl (fun hc7 => ?_) (fun hc7 => ?_)
  ·
    have hkl : k < l.length := by have := of_decide_eq_true hc7; omega
    have hl1 := hr.1
    obtain ⟨b, off, rfl, hcx⟩ := hr.at_ (by omega)
    obtain ⟨n, hx⟩ := get_of_lt (xs := l) (k := k) hkl
    have hgn := getD_ofI hx
    refine WC.skip ?_
    refine End.seq ?_
    refine WC.seq ?_
    refine WC.block ?_
    refine WC.seq ?_
    refine WC.quiet (by kernel_rfl) ?_
    refine WQ.p rfl rfl rfl (P.move rfl) ?_
    refine WQ.p rfl rfl rfl (P.move rfl) ?_
    refine WQ.p rfl rfl rfl (P.elemAddr Tryz.underlying22 Tryz.sizeOf3 rfl rfl (by omega) (by omega)) ?_
    refine WQ.p rfl rfl rfl (P.loadB Tryz.isAgg3 rfl (hcx k n hx 0 _ rfl)) ?_
    refine WQ.p rfl rfl rfl (P.cmp rfl rfl rfl) ?_
    refine WQ.p rfl rfl rfl (P.move rfl) ?_
    refine WQ.split 15 rfl (fun hs15 => ?_) (fun hs15 => ?_)
    ·
      refine WQ.off rfl rfl ?_
      refine WQ.off rfl rfl ?_
      refine WQ.off rfl rfl ?_
      refine WQ.off rfl rfl ?_
      refine WQ.off rfl rfl ?_
      refine WQ.p rfl rfl rfl (P.pickT rfl rfl) ?_
      refine WQ.p rfl rfl rfl (P.move rfl) ?_
      refine WQ.off rfl rfl ?_
      refine WQ.off rfl rfl ?_
      refine WQ.off rfl rfl ?_
      refine WQ.offU rfl rfl ?_
      refine WQ.offU rfl rfl ?_
      refine WQ.offU rfl rfl ?_
      refine WQ.offU rfl rfl ?_
      refine WQ.offU rfl rfl ?_
      refine WQ.offU rfl rfl ?_
      refine WQ.offU rfl rfl ?_
      refine WQ.offU rfl rfl ?_
      refine WQ.offU rfl rfl ?_
      refine WQ.offU rfl rfl ?_
      refine WQ.off rfl rfl ?_
      refine WQ.p rfl rfl rfl (P.pickT rfl rfl) ?_
      refine WQ.nil_ ?_
      refine End.seq ?_
      refine WC.condT rfl ?_
      refine WC.seq ?_
      refine WC.region ?_
      refine WL.p rfl rfl rfl (P.assign rfl) ?_
      refine WL.nil_ ?_
      refine End.seq ?_
      refine WC.ret ?_
      refine End.blkR ?_
      refine End.thenR ?_
      refine End.thenR ?_
      refine End.blkR ?_
      refine End.thenR ?_
      refine End.ret1 rfl rfl ?_
      exact fun w' hs' => RetV.of (by rw [altR_no hkl (by rw [altE, hgn, hs15]; rfl)]) hs'
    ·
      refine WQ.p rfl rfl rfl (P.move rfl) ?_
      refine WQ.p rfl rfl rfl (P.move rfl) ?_
      refine WQ.p rfl rfl rfl (P.elemAddr Tryz.underlying22 Tryz.sizeOf3 rfl rfl (by omega) (by omega)) ?_
      refine WQ.p rfl rfl rfl (P.loadB Tryz.isAgg3 rfl (hcx k n hx 0 _ rfl)) ?_
      refine WQ.p rfl rfl rfl (P.cmp rfl rfl rfl) ?_
      refine WQ.p rfl rfl rfl (P.pickF rfl rfl) ?_
      refine WQ.p rfl rfl rfl (P.move rfl) ?_
      refine WQ.split 22 rfl (fun hs22 => ?_) (fun hs22 => ?_)
      ·
        refine WQ.off rfl rfl ?_
        refine WQ.off rfl rfl ?_
        refine WQ.off rfl rfl ?_
        refine WQ.offU rfl rfl ?_
        refine WQ.offU rfl rfl ?_
        refine WQ.offU rfl rfl ?_
        refine WQ.offU rfl rfl ?_
        refine WQ.offU rfl rfl ?_
        refine WQ.offU rfl rfl ?_
        refine WQ.offU rfl rfl ?_
        refine WQ.offU rfl rfl ?_
        refine WQ.offU rfl rfl ?_
        refine WQ.offU rfl rfl ?_
        refine WQ.off rfl rfl ?_
        refine WQ.p rfl rfl rfl (P.pickT rfl rfl) ?_
        refine WQ.nil_ ?_
        refine End.seq ?_
        refine WC.condT rfl ?_
        refine WC.seq ?_
        refine WC.region ?_
        refine WL.p rfl rfl rfl (P.assign rfl) ?_
        refine WL.nil_ ?_
        refine End.seq ?_
        refine WC.ret ?_
        refine End.blkR ?_
        refine End.thenR ?_
        refine End.thenR ?_
        refine End.blkR ?_
        refine End.thenR ?_
        refine End.ret1 rfl rfl ?_
        exact fun w' hs' => RetV.of (by rw [altR_no hkl (by rw [altE, hgn, hs15, hs22]; rfl)]) hs'
      ·
        refine WQ.p rfl rfl rfl (P.move rfl) ?_
        refine WQ.p rfl rfl rfl (P.cmp rfl rfl rfl) ?_
        refine WQ.p rfl rfl rfl (P.move rfl) ?_
        refine WQ.split 25 rfl (fun hs25 => ?_) (fun hs25 => ?_)
        ·
          have hk0 := of_decide_eq_true hs25
          obtain ⟨m, hm⟩ := get_of_lt (xs := l) (k := k - 1) (by omega)
          have hgm := getD_ofI hm
          refine WQ.p rfl rfl rfl (P.move rfl) ?_
          refine WQ.p rfl rfl rfl (P.move rfl) ?_
          refine WQ.p rfl rfl rfl (P.ari64 rfl rfl rfl (by omega)) ?_
          refine WQ.p rfl rfl rfl (P.elemAddr Tryz.underlying22 Tryz.sizeOf3 rfl rfl (by omega) (by omega)) ?_
          refine WQ.p rfl rfl rfl (P.loadB Tryz.isAgg3 rfl (by have h9 := hcx (k - 1) m hm 0 _ rfl; rw [Int.toNat_natCast] at h9; rw [show (((k : Nat) : Int) - 1).toNat = k - 1 by omega]; exact h9)) ?_
          refine WQ.p rfl rfl rfl (P.move rfl) ?_
          refine WQ.p rfl rfl rfl (P.move rfl) ?_
          refine WQ.p rfl rfl rfl (P.elemAddr Tryz.underlying22 Tryz.sizeOf3 rfl rfl (by omega) (by omega)) ?_
          refine WQ.p rfl rfl rfl (P.loadB Tryz.isAgg3 rfl (hcx k n hx 0 _ rfl)) ?_
          refine WQ.p rfl rfl rfl (P.cmp rfl rfl rfl) ?_
          refine WQ.p rfl rfl rfl (P.pickT rfl rfl) ?_
          refine WQ.p rfl rfl rfl (P.pickF rfl rfl) ?_
          refine WQ.nil_ ?_
          refine End.seq ?_
          refine WC.cond rfl (fun hc37 => ?_) (fun hc37 => ?_)
          ·
            refine WC.seq ?_
            refine WC.region ?_
            refine WL.p rfl rfl rfl (P.assign rfl) ?_
            refine WL.nil_ ?_
            refine End.seq ?_
            refine WC.ret ?_
            refine End.blkR ?_
            refine End.thenR ?_
            refine End.thenR ?_
            refine End.blkR ?_
            refine End.thenR ?_
            refine End.ret1 rfl rfl ?_
            exact fun w' hs' => RetV.of (by rw [altR_no hkl (by rw [altE, hgn, hgm, hs15, hs22, hs25, hc37]; rfl)]) hs'
          ·
            refine WC.skip ?_
            refine End.blkN ?_
            refine End.seq ?_
            refine WC.region ?_
            refine WL.p rfl rfl rfl (P.move rfl) ?_
            refine WL.p rfl rfl rfl (P.ari64 rfl rfl rfl (by omega)) ?_
            refine WL.p rfl rfl rfl (P.assign rfl) ?_
            refine WL.nil_ ?_
            refine End.againD (k + 1) ?_ ?_ rfl (Env.sub_cons rfl (Env.sub_nil)) rfl [] rfl rfl
            · exact ⟨by omega, by rw [range_snoc, hok, altE, hgn, hgm, hs15, hs22, hs25, hc37]; rfl⟩
            · show l.length - (k + 1) < l.length - k; omega
        ·
          refine WQ.off rfl rfl ?_
          refine WQ.off rfl rfl ?_
          refine WQ.off rfl rfl ?_
          refine WQ.off rfl rfl ?_
          refine WQ.off rfl rfl ?_
          refine WQ.off rfl rfl ?_
          refine WQ.off rfl rfl ?_
          refine WQ.off rfl rfl ?_
          refine WQ.off rfl rfl ?_
          refine WQ.off rfl rfl ?_
          refine WQ.p rfl rfl rfl (P.pickF rfl rfl) ?_
          refine WQ.p rfl rfl rfl (P.pickF rfl rfl) ?_
          refine WQ.nil_ ?_
          refine End.seq ?_
          refine WC.condF rfl ?_
          refine WC.skip ?_
          refine End.blkN ?_
          refine End.seq ?_
          refine WC.region ?_
          refine WL.p rfl rfl rfl (P.move rfl) ?_
          refine WL.p rfl rfl rfl (P.ari64 rfl rfl rfl (by omega)) ?_
          refine WL.p rfl rfl rfl (P.assign rfl) ?_
          refine WL.nil_ ?_
          refine End.againD (k + 1) ?_ ?_ rfl (Env.sub_cons rfl (Env.sub_nil)) rfl [] rfl rfl
          · exact ⟨by omega, by rw [range_snoc, hok, altE, hgn, hs15, hs22, hs25]; rfl⟩
          · show l.length - (k + 1) < l.length - k; omega
  ·
    have ek : k = l.length := by have := of_decide_eq_false hc7; omega
    have hokF : altOK l = true := by rw [altOK, ← ek]; exact hok
    refine WC.exit ?_
    refine End.thenX ?_
    refine End.thenX ?_
    refine End.blkX ?_
    refine End.seq ?_
    refine WC.seq ?_
    refine WC.region ?_
    refine WL.p rfl rfl rfl (P.move rfl) ?_
    refine WL.p rfl rfl rfl (P.lenR Tryz.underlying22 rfl) ?_
    refine WL.p rfl rfl rfl (P.cmp rfl rfl rfl) ?_
    refine WL.p rfl rfl rfl (P.assign rfl) ?_
    refine WL.nil_ ?_
    refine End.seq ?_
    refine WC.ret ?_
    refine End.ret1 rfl rfl ?_
    exact fun w' hs' => RetV.of (by rw [altR, hokF]; rfl) hs'

end Go.Proofs.YtlkkiimmangplaaGreatDoor

/- The reference's Valid. -/
namespace Go.Proofs.YtlkkiimmangplaaGreatDoor
open Go.RowKit
set_option linter.unusedVariables false
set_option linter.unusedSimpArgs false

set_option maxRecDepth 100000 in
theorem grantsR_any (A : Option Addr) (c : Nat) (gs : List Gr) (w : World) (hr : Sl Gr.cells 3 w A gs) :
    Calls Tryz.prog 126 #[.slice A gs.length c] w (RetV w (.bool (grantsR gs))) := by
  refine enter Tryz.func126 rfl Tryz.ntmps126 rfl ?_
  refine WC.seq ?_
  refine WC.region ?_
  refine WL.p rfl rfl rfl (P.assign rfl) ?_
  refine WL.nil_ ?_
  refine End.seq ?_
  refine WC.seq ?_
  refine WC.seq ?_
  refine WC.region ?_
  refine WL.p rfl rfl rfl (P.assign rfl) ?_
  refine WL.nil_ ?_
  refine End.seq ?_
  refine WC.block ?_
  refine WC.loopD (σ := Nat) (fun k => [(3, .int .i64 (k : Nat))]) (fun k => []) (fun k => k ≤ gs.length ∧ (List.range k).all (grE gs) = true) (fun k => gs.length - k) 0 ⟨Nat.zero_le _, rfl⟩ (Env.sub_cons rfl (Env.sub_nil)) [] rfl rfl ?_
  rintro k ⟨hk, hok⟩
  refine WC.seq ?_
  refine WC.seq ?_
  refine WC.region ?_
  refine WL.p rfl rfl rfl (P.move rfl) ?_
  refine WL.p rfl rfl rfl (P.move rfl) ?_
  refine WL.p rfl rfl rfl (P.lenR Tryz.underlying32 rfl) ?_
  refine WL.p rfl rfl rfl (P.cmp rfl rfl rfl) ?_
  refine WL.nil_ ?_
  refine End.seq ?_
  refine WC.cond rfl (fun hc8 => ?_) (fun hc8 => ?_)
  ·
    have hkl : k < gs.length := by have := of_decide_eq_true hc8; omega
    have hl2 := hr.1
    obtain ⟨b, off, rfl, hcx⟩ := hr.at_ (by omega)
    obtain ⟨g, hx⟩ := get_of_lt (xs := gs) (k := k) hkl
    have hgg := getD_gr hx
    refine WC.skip ?_
    refine End.seq ?_
    refine WC.seq ?_
    refine WC.block ?_
    refine WC.seq ?_
    refine WC.seq ?_
    refine WC.region ?_
    refine WL.p rfl rfl rfl (P.move rfl) ?_
    refine WL.p rfl rfl rfl (P.move rfl) ?_
    refine WL.p rfl rfl rfl (P.elemAddr Tryz.underlying32 Tryz.sizeOf51 rfl rfl (by omega) (by omega)) ?_
    refine WL.p rfl rfl rfl (P.fieldAddr fa_51_0 rfl) ?_
    refine WL.p rfl rfl rfl (P.loadB Tryz.isAgg9 rfl (hcx k g hx 0 _ rfl)) ?_
    refine WL.callv (ent_of Tryz.func218 rfl rfl) rfl rfl rfl (fun w hs => refQualifier_any g.who w) ?_
    refine WL.p rfl rfl rfl (P.not_ rfl) ?_
    refine WL.p rfl rfl rfl (P.move rfl) ?_
    refine WL.split 18 rfl (fun hs18 => ?_) (fun hs18 => ?_)
    ·
      refine WL.off rfl rfl ?_
      refine WL.off rfl rfl ?_
      refine WL.off rfl rfl ?_
      refine WL.off rfl rfl ?_
      refine WL.off rfl rfl ?_
      refine WL.off rfl rfl ?_
      refine WL.off rfl rfl ?_
      refine WL.p rfl rfl rfl (P.pickT rfl rfl) ?_
      refine WL.nil_ ?_
      refine End.seq ?_
      refine WC.condT rfl ?_
      refine WC.seq ?_
      refine WC.region ?_
      refine WL.p rfl rfl rfl (P.assign rfl) ?_
      refine WL.nil_ ?_
      refine End.seq ?_
      refine WC.ret ?_
      refine End.thenR ?_
      refine End.blkR ?_
      refine End.thenR ?_
      refine End.thenR ?_
      refine End.blkR ?_
      refine End.thenR ?_
      refine End.ret1 rfl rfl ?_
      exact fun w' hs' => RetV.of (by rw [grantsR_no hkl (by rw [grE, hgg, show qualR g.who = false by simpa using hs18]; rfl)]) hs'
    ·
      refine WL.p rfl rfl rfl (P.move rfl) ?_
      refine WL.p rfl rfl rfl (P.move rfl) ?_
      refine WL.p rfl rfl rfl (P.elemAddr Tryz.underlying32 Tryz.sizeOf51 rfl rfl (by omega) (by omega)) ?_
      refine WL.p rfl rfl rfl (P.fieldAddr fa_51_2 rfl) ?_
      refine WL.p rfl rfl rfl (P.loadB Tryz.isAgg3 rfl (hcx k g hx 2 _ rfl)) ?_
      refine WL.callv (ent_of Tryz.func125 rfl rfl) rfl rfl rfl (fun w hs => refLevel_any g.level w) ?_
      refine WL.p rfl rfl rfl (P.not_ rfl) ?_
      refine WL.p rfl rfl rfl (P.pickF rfl rfl) ?_
      refine WL.nil_ ?_
      refine End.seq ?_
      refine WC.cond rfl (fun hc26 => ?_) (fun hc26 => ?_)
      ·
        refine WC.seq ?_
        refine WC.region ?_
        refine WL.p rfl rfl rfl (P.assign rfl) ?_
        refine WL.nil_ ?_
        refine End.seq ?_
        refine WC.ret ?_
        refine End.thenR ?_
        refine End.blkR ?_
        refine End.thenR ?_
        refine End.thenR ?_
        refine End.blkR ?_
        refine End.thenR ?_
        refine End.ret1 rfl rfl ?_
        exact fun w' hs' => RetV.of (by rw [grantsR_no hkl (by rw [grE, hgg, show levelB g.level = false by simpa using hc26]; simp)]) hs'
      ·
        refine WC.skip ?_
        refine End.seq ?_
        refine WC.seq ?_
        refine WC.region ?_
        refine WL.p rfl rfl rfl (P.assign rfl) ?_
        refine WL.nil_ ?_
        refine End.seq ?_
        refine WC.block ?_
        refine WC.loopD (σ := Nat) (fun i => [(4, .int .i64 (i : Nat))]) (fun i => []) (fun i => i ≤ k ∧ (List.range i).any (fun j => sameKey (gs.getD j g0) (gs.getD k g0)) = false) (fun i => k - i) 0 ⟨Nat.zero_le _, rfl⟩ (Env.sub_cons rfl (Env.sub_nil)) [] rfl rfl ?_
        rintro i ⟨hi0, hno⟩
        refine WC.seq ?_
        refine WC.seq ?_
        refine WC.region ?_
        refine WL.p rfl rfl rfl (P.move rfl) ?_
        refine WL.p rfl rfl rfl (P.move rfl) ?_
        refine WL.p rfl rfl rfl (P.cmp rfl rfl rfl) ?_
        refine WL.nil_ ?_
        refine End.seq ?_
        refine WC.cond rfl (fun hc29 => ?_) (fun hc29 => ?_)
        ·
          have hil : i < k := by have := of_decide_eq_true hc29; omega
          obtain ⟨gi, hi⟩ := get_of_lt (xs := gs) (k := i) (by omega)
          have hgi := getD_gr hi
          refine WC.skip ?_
          refine End.seq ?_
          refine WC.seq ?_
          refine WC.block ?_
          refine WC.seq ?_
          refine WC.quiet (by kernel_rfl) ?_
          refine WQ.p rfl rfl rfl (P.move rfl) ?_
          refine WQ.p rfl rfl rfl (P.move rfl) ?_
          refine WQ.p rfl rfl rfl (P.elemAddr Tryz.underlying32 Tryz.sizeOf51 rfl rfl (by omega) (by omega)) ?_
          refine WQ.p rfl rfl rfl (P.fieldAddr fa_51_0 rfl) ?_
          refine WQ.p rfl rfl rfl (P.loadB Tryz.isAgg9 rfl (hcx i gi hi 0 _ rfl)) ?_
          refine WQ.p rfl rfl rfl (P.move rfl) ?_
          refine WQ.p rfl rfl rfl (P.move rfl) ?_
          refine WQ.p rfl rfl rfl (P.elemAddr Tryz.underlying32 Tryz.sizeOf51 rfl rfl (by omega) (by omega)) ?_
          refine WQ.p rfl rfl rfl (P.fieldAddr fa_51_0 rfl) ?_
          refine WQ.p rfl rfl rfl (P.loadB Tryz.isAgg9 rfl (hcx k g hx 0 _ rfl)) ?_
          refine WQ.p rfl rfl rfl (P.cmps rfl rfl rfl) ?_
          refine WQ.p rfl rfl rfl (P.move rfl) ?_
          refine WQ.split 43 rfl (fun hs43 => ?_) (fun hs43 => ?_)
          ·
            refine WQ.p rfl rfl rfl (P.move rfl) ?_
            refine WQ.p rfl rfl rfl (P.move rfl) ?_
            refine WQ.p rfl rfl rfl (P.elemAddr Tryz.underlying32 Tryz.sizeOf51 rfl rfl (by omega) (by omega)) ?_
            refine WQ.p rfl rfl rfl (P.fieldAddr fa_51_1 rfl) ?_
            refine WQ.p rfl rfl rfl (P.loadB Tryz.isAgg4 rfl (hcx i gi hi 1 _ rfl)) ?_
            refine WQ.p rfl rfl rfl (P.move rfl) ?_
            refine WQ.p rfl rfl rfl (P.move rfl) ?_
            refine WQ.p rfl rfl rfl (P.elemAddr Tryz.underlying32 Tryz.sizeOf51 rfl rfl (by omega) (by omega)) ?_
            refine WQ.p rfl rfl rfl (P.fieldAddr fa_51_1 rfl) ?_
            refine WQ.p rfl rfl rfl (P.loadB Tryz.isAgg4 rfl (hcx k g hx 1 _ rfl)) ?_
            refine WQ.p rfl rfl rfl (P.eqB Tryz.underlying4 rfl rfl) ?_
            refine WQ.p rfl rfl rfl (P.pickT rfl rfl) ?_
            refine WQ.nil_ ?_
            refine End.seq ?_
            refine WC.cond rfl (fun hc55 => ?_) (fun hc55 => ?_)
            ·
              refine WC.seq ?_
              refine WC.region ?_
              refine WL.p rfl rfl rfl (P.assign rfl) ?_
              refine WL.nil_ ?_
              refine End.seq ?_
              refine WC.ret ?_
              refine End.blkR ?_
              refine End.thenR ?_
              refine End.thenR ?_
              refine End.blkR ?_
              refine End.blkR ?_
              refine End.thenR ?_
              refine End.thenR ?_
              refine End.blkR ?_
              refine End.thenR ?_
              refine End.ret1 rfl rfl ?_
              exact fun w' hs' => RetV.of (by rw [grantsR_no hkl (by rw [grE, show (List.range k).any (fun j => sameKey (gs.getD j g0) (gs.getD k g0)) = true from List.any_eq_true.2 ⟨i, List.mem_range.2 hil, by rw [hgi, hgg, sameKey, hs43, show (gi.group == g.group) = true from hc55]; rfl⟩]; simp)]) hs'
            ·
              refine WC.skip ?_
              refine End.blkN ?_
              refine End.seq ?_
              refine WC.region ?_
              refine WL.p rfl rfl rfl (P.move rfl) ?_
              refine WL.p rfl rfl rfl (P.ari64 rfl rfl rfl (by omega)) ?_
              refine WL.p rfl rfl rfl (P.assign rfl) ?_
              refine WL.nil_ ?_
              refine End.againD (i + 1) ?_ ?_ rfl (Env.sub_cons rfl (Env.sub_nil)) rfl [] rfl rfl
              · exact ⟨by omega, by rw [any_snocR, hno, hgi, hgg, sameKey, hs43, show (gi.group == g.group) = false from hc55]; rfl⟩
              · show k - (i + 1) < k - i; omega
          ·
            refine WQ.off rfl rfl ?_
            refine WQ.off rfl rfl ?_
            refine WQ.off rfl rfl ?_
            refine WQ.off rfl rfl ?_
            refine WQ.off rfl rfl ?_
            refine WQ.off rfl rfl ?_
            refine WQ.off rfl rfl ?_
            refine WQ.off rfl rfl ?_
            refine WQ.off rfl rfl ?_
            refine WQ.off rfl rfl ?_
            refine WQ.off rfl rfl ?_
            refine WQ.p rfl rfl rfl (P.pickF rfl rfl) ?_
            refine WQ.nil_ ?_
            refine End.seq ?_
            refine WC.condF rfl ?_
            refine WC.skip ?_
            refine End.blkN ?_
            refine End.seq ?_
            refine WC.region ?_
            refine WL.p rfl rfl rfl (P.move rfl) ?_
            refine WL.p rfl rfl rfl (P.ari64 rfl rfl rfl (by omega)) ?_
            refine WL.p rfl rfl rfl (P.assign rfl) ?_
            refine WL.nil_ ?_
            refine End.againD (i + 1) ?_ ?_ rfl (Env.sub_cons rfl (Env.sub_nil)) rfl [] rfl rfl
            · exact ⟨by omega, by rw [any_snocR, hno, hgi, hgg, sameKey, hs43]; rfl⟩
            · show k - (i + 1) < k - i; omega
        ·
          have ei : i = k := by have := of_decide_eq_false hc29; omega
          rw [ei] at hno
          have hgk : grE gs k = true := by rw [grE, hgg, show qualR g.who = true by simpa using hs18, show levelB g.level = true by simpa using hc26, ← hgg, hno]; rfl
          refine WC.exit ?_
          refine End.thenX ?_
          refine End.thenX ?_
          refine End.blkX ?_
          refine End.blkN ?_
          refine End.seq ?_
          refine WC.region ?_
          refine WL.p rfl rfl rfl (P.move rfl) ?_
          refine WL.p rfl rfl rfl (P.ari64 rfl rfl rfl (by omega)) ?_
          refine WL.p rfl rfl rfl (P.assign rfl) ?_
          refine WL.nil_ ?_
          refine End.againD (k + 1) ?_ ?_ rfl (Env.sub_cons rfl (Env.sub_nil)) rfl [] rfl rfl
          · exact ⟨by omega, by rw [range_snoc, hok, hgk]; rfl⟩
          · show gs.length - (k + 1) < gs.length - k; omega
  ·
    have ek : k = gs.length := by have := of_decide_eq_false hc8; omega
    rw [ek] at hok
    refine WC.exit ?_
    refine End.thenX ?_
    refine End.thenX ?_
    refine End.blkX ?_
    refine End.seq ?_
    refine WC.seq ?_
    refine WC.region ?_
    refine WL.p rfl rfl rfl (P.move rfl) ?_
    refine WL.p rfl rfl rfl (P.lenR Tryz.underlying32 rfl) ?_
    refine WL.p rfl rfl rfl (P.cmp rfl rfl rfl) ?_
    refine WL.p rfl rfl rfl (P.assign rfl) ?_
    refine WL.nil_ ?_
    refine End.seq ?_
    refine WC.ret ?_
    refine End.ret1 rfl rfl ?_
    exact fun w' hs' => RetV.of (by rw [grantsR, hok]; rfl) hs'

theorem uses_ent {w : World} {e : E} {va vg : Value} (h : EntAt w e va vg) : EntAt w e.uses (if e.kind = 0 then va else vnil) (if e.kind = 4 then vg else vnil) := by
  have key : (e.kind = 0 ∧ e.uses.alt = e.alt ∨ ¬ e.kind = 0 ∧ e.uses.alt = []) ∧ (e.kind = 4 ∧ e.uses.grants = e.grants ∨ ¬ e.kind = 4 ∧ e.uses.grants = []) := by
    unfold E.uses
    by_cases h0 : e.kind = 0
    · rw [if_pos h0]; exact ⟨.inl ⟨h0, rfl⟩, .inr ⟨by omega, rfl⟩⟩
    · rw [if_neg h0]
      by_cases h1 : e.kind = 1
      · rw [if_pos h1]; exact ⟨.inr ⟨h0, rfl⟩, .inr ⟨by omega, rfl⟩⟩
      · rw [if_neg h1]
        by_cases h2 : e.kind = 2
        · rw [if_pos h2]; exact ⟨.inr ⟨h0, rfl⟩, .inr ⟨by omega, rfl⟩⟩
        · rw [if_neg h2]
          by_cases h3 : e.kind = 3
          · rw [if_pos h3]; exact ⟨.inr ⟨h0, rfl⟩, .inr ⟨by omega, rfl⟩⟩
          · rw [if_neg h3]
            by_cases h4 : e.kind = 4
            · rw [if_pos h4]; exact ⟨.inr ⟨h0, rfl⟩, .inl ⟨h4, rfl⟩⟩
            · rw [if_neg h4]; exact ⟨.inr ⟨h0, rfl⟩, .inr ⟨h4, rfl⟩⟩
  have ha := h.alt
  have hg := h.gr
  refine ⟨?_, ?_⟩
  · rcases key.1 with ⟨h0, he⟩ | ⟨h0, he⟩
    · rw [if_pos h0, he]; exact ha
    · rw [if_neg h0, he]; exact ⟨none, 0, rfl, Nat.le_refl _, Sl.nil _ _ _⟩
  · rcases key.2 with ⟨h0, he⟩ | ⟨h0, he⟩
    · rw [if_pos h0, he]; exact hg
    · rw [if_neg h0, he]; exact ⟨none, 0, rfl, Nat.le_refl _, Sl.nil _ _ _⟩
/-- Valid, as the reference says it, behind the look at what the kind uses. -/
def vR0 (e : E) : Bool := validB false e.name && (setR e.ds && (altR e.alt && dayB e.used))
def vR1 (e : E) : Bool := rgroupB e.name && (decide (1 ≤ e.limit) && (decide (e.limit ≤ 63) && (decide (0 ≤ e.last) && (decide (e.last ≤ 9999) && ownerR e.owner))))
def vR2 (e : E) : Bool := validB false e.name && (!(rsplitB e.name).2.2 && (validB false e.target && !(e.target.toList == e.name.toList)))
def vR3 (e : E) : Bool := validB false e.name && (decide (((spB e.name.data.toList).length : Int) ≤ 2) && (decide (1 ≤ e.catalog) && decide (e.catalog ≤ 15)))
def vR4 (e : E) : Bool := validB true e.name && (levelB e.level && (ownerR e.owner && grantsR e.grants))
def vRk (e : E) : Bool := if e.kind = 0 then vR0 e else if e.kind = 1 then vR1 e else if e.kind = 2 then vR2 e else if e.kind = 3 then vR3 e else if e.kind = 4 then vR4 e else false
def validR (e : E) : Bool := decide (e = e.uses) && vRk e

set_option maxRecDepth 100000 in
theorem refValidE_any (e : E) (va vg : Value) (w : World) (ha : EntAt w e va vg) (hsz : e.name.size < 4294967281) :
    Calls Tryz.prog 48 #[.agg (e.cells va vg)] w (RetV w (.bool (validR e))) := by
  have ha0 := ha
  obtain ⟨⟨A1, c1, rfl, hc1, hr1⟩, ⟨A2, c2, rfl, hc2, hr2⟩⟩ := ha
  refine enter Tryz.func48 rfl Tryz.ntmps48 rfl ?_
  refine WC.seq ?_
  refine WC.region ?_
  refine WL.box rfl rfl rfl (fun b1 => ?_)
  refine WL.p rfl rfl rfl (P.assign rfl) ?_
  refine WL.nil_ ?_
  refine End.seq ?_
  refine WC.seq ?_
  refine WC.seq ?_
  refine WC.quiet (by kernel_rfl) ?_
  refine WQ.p rfl rfl rfl (P.loadW 0 Tryz.isAgg34 Tryz.sizeOf34 rfl rfl rfl) ?_
  refine WQ.p rfl rfl rfl (P.loadW 0 Tryz.isAgg34 Tryz.sizeOf34 rfl rfl rfl) ?_
  refine WQ.callv (ent_of Tryz.func116 rfl rfl) rfl rfl rfl (fun w hs => used_any e A1 A2 _ _ _ _ w) ?_
  refine WQ.callv (ent_of Tryz.func32 rfl rfl) rfl rfl rfl (fun w hs => refSame_any e e.uses _ _ _ _ w (ha0.st hs) (uses_ent (ha0.st hs))) ?_
  refine WQ.p rfl rfl rfl (P.not_ rfl) ?_
  refine WQ.nil_ ?_
  refine End.seq ?_
  refine WC.cond rfl (fun hc11 => ?_) (fun hc11 => ?_)
  ·
    refine WC.seq ?_
    refine WC.region ?_
    refine WL.p rfl rfl rfl (P.assign rfl) ?_
    refine WL.nil_ ?_
    refine End.seq ?_
    refine WC.ret ?_
    refine End.thenR ?_
    refine End.ret1 rfl rfl ?_
    exact fun w' hs' => RetV.of (by rw [validR, show decide (e = e.uses) = false by simpa using hc11]; rfl) hs'
  ·
    refine WC.skip ?_
    refine End.seq ?_
    refine WC.seq ?_
    refine WC.region ?_
    refine WL.p rfl rfl rfl (P.fieldAddr fa_34_1 rfl) ?_
    refine WL.p rfl rfl rfl (P.loadO 0 Tryz.isAgg9 rfl rfl rfl) ?_
    refine WL.callv (ent_of Tryz.func117 rfl rfl) rfl rfl rfl (fun w hs => refValid_any e.name w) ?_
    refine WL.p rfl rfl rfl (P.assign rfl) ?_
    refine WL.nil_ ?_
    refine End.seq ?_
    refine WC.seq ?_
    refine WC.region ?_
    refine WL.p rfl rfl rfl (P.fieldAddr fa_34_1 rfl) ?_
    refine WL.p rfl rfl rfl (P.loadO 0 Tryz.isAgg9 rfl rfl rfl) ?_
    refine WL.callv (ent_of Tryz.func118 rfl rfl) rfl rfl rfl (fun w hs => refSplit_any e.name w hsz) ?_
    refine WL.p rfl rfl rfl (P.move rfl) ?_
    refine WL.p rfl rfl rfl (P.extract rfl rfl) ?_
    refine WL.p rfl rfl rfl (P.extract rfl rfl) ?_
    refine WL.p rfl rfl rfl (P.extract rfl rfl) ?_
    refine WL.p rfl rfl rfl (P.assign rfl) ?_
    refine WL.p rfl rfl rfl (P.assign rfl) ?_
    refine WL.p rfl rfl rfl (P.assign rfl) ?_
    refine WL.nil_ ?_
    refine End.seq ?_
    refine WC.seq ?_
    refine WC.seq ?_
    refine WC.region ?_
    refine WL.p rfl rfl rfl (P.fieldAddr fa_34_0 rfl) ?_
    refine WL.p rfl rfl rfl (P.loadO 0 Tryz.isAgg3 rfl rfl rfl) ?_
    refine WL.nil_ ?_
    refine End.seq ?_
    refine WC.block ?_
    refine WC.seq ?_
    refine WC.region ?_
    refine WL.p rfl rfl rfl (P.cmp rfl rfl rfl) ?_
    refine WL.p rfl rfl rfl (P.assign rfl) ?_
    refine WL.nil_ ?_
    refine End.seq ?_
    refine WC.cond rfl (fun hc24 => ?_) (fun hc24 => ?_)
    ·
      refine WC.seq ?_
      refine WC.region ?_
      refine WL.p rfl rfl rfl (P.move rfl) ?_
      refine WL.p rfl rfl rfl (P.move rfl) ?_
      refine WL.split 27 rfl (fun hs27 => ?_) (fun hs27 => ?_)
      ·
        refine WL.p rfl rfl rfl (P.fieldAddr fa_34_2 rfl) ?_
        refine WL.p rfl rfl rfl (P.loadA 0 (vs := e.ds.cells) Tryz.isAgg31 Tryz.sizeOf31 rfl rfl rfl (E.ds_get e _ _)) ?_
        refine WL.callv (ent_of Tryz.func119 rfl rfl) rfl rfl rfl (fun w hs => set_any e.ds w) ?_
        refine WL.p rfl rfl rfl (P.pickT rfl rfl) ?_
        refine WL.p rfl rfl rfl (P.move rfl) ?_
        refine WL.split 32 rfl (fun hs32 => ?_) (fun hs32 => ?_)
        ·
          refine WL.p rfl rfl rfl (P.fieldAddr fa_34_3 rfl) ?_
          refine WL.p rfl rfl rfl (P.loadO 0 Tryz.isAgg22 rfl rfl rfl) ?_
          refine WL.callv (ent_of Tryz.func120 rfl rfl) rfl rfl rfl (fun w hs => alternates_any A1 c1 e.alt w (hr1.st hs)) ?_
          refine WL.p rfl rfl rfl (P.pickT rfl rfl) ?_
          refine WL.p rfl rfl rfl (P.move rfl) ?_
          refine WL.split 37 rfl (fun hs37 => ?_) (fun hs37 => ?_)
          ·
            refine WL.p rfl rfl rfl (P.fieldAddr fa_34_4 rfl) ?_
            refine WL.p rfl rfl rfl (P.loadO 0 Tryz.isAgg3 rfl rfl rfl) ?_
            refine WL.callv (ent_of Tryz.func121 rfl rfl) rfl rfl rfl (fun w hs => refIsDay_any e.used w) ?_
            refine WL.p rfl rfl rfl (P.pickT rfl rfl) ?_
            refine WL.p rfl rfl rfl (P.assign rfl) ?_
            refine WL.nil_ ?_
            refine End.seq ?_
            refine WC.ret ?_
            refine End.blkR ?_
            refine End.thenR ?_
            refine End.ret1 rfl rfl ?_
            exact fun w' hs' => RetV.of (by rw [validR, show decide (e = e.uses) = true by simpa using hc11, vRk, if_pos (show e.kind = 0 by simpa using hc24), vR0]; simp only [*, Bool.true_and, Bool.false_and]) hs'
          ·
            refine WL.off rfl rfl ?_
            refine WL.off rfl rfl ?_
            refine WL.off rfl rfl ?_
            refine WL.p rfl rfl rfl (P.pickF rfl rfl) ?_
            refine WL.p rfl rfl rfl (P.assign rfl) ?_
            refine WL.nil_ ?_
            refine End.seq ?_
            refine WC.ret ?_
            refine End.blkR ?_
            refine End.thenR ?_
            refine End.ret1 rfl rfl ?_
            exact fun w' hs' => RetV.of (by rw [validR, show decide (e = e.uses) = true by simpa using hc11, vRk, if_pos (show e.kind = 0 by simpa using hc24), vR0]; simp only [*, Bool.true_and, Bool.false_and]) hs'
        ·
          refine WL.off rfl rfl ?_
          refine WL.off rfl rfl ?_
          refine WL.off rfl rfl ?_
          refine WL.p rfl rfl rfl (P.pickF rfl rfl) ?_
          refine WL.p rfl rfl rfl (P.move rfl) ?_
          refine WL.off rfl rfl ?_
          refine WL.off rfl rfl ?_
          refine WL.off rfl rfl ?_
          refine WL.p rfl rfl rfl (P.pickF rfl rfl) ?_
          refine WL.p rfl rfl rfl (P.assign rfl) ?_
          refine WL.nil_ ?_
          refine End.seq ?_
          refine WC.ret ?_
          refine End.blkR ?_
          refine End.thenR ?_
          refine End.ret1 rfl rfl ?_
          exact fun w' hs' => RetV.of (by rw [validR, show decide (e = e.uses) = true by simpa using hc11, vRk, if_pos (show e.kind = 0 by simpa using hc24), vR0]; simp only [*, Bool.true_and, Bool.false_and]) hs'
      ·
        refine WL.off rfl rfl ?_
        refine WL.off rfl rfl ?_
        refine WL.off rfl rfl ?_
        refine WL.p rfl rfl rfl (P.pickF rfl rfl) ?_
        refine WL.p rfl rfl rfl (P.move rfl) ?_
        refine WL.off rfl rfl ?_
        refine WL.off rfl rfl ?_
        refine WL.off rfl rfl ?_
        refine WL.p rfl rfl rfl (P.pickF rfl rfl) ?_
        refine WL.p rfl rfl rfl (P.move rfl) ?_
        refine WL.off rfl rfl ?_
        refine WL.off rfl rfl ?_
        refine WL.off rfl rfl ?_
        refine WL.p rfl rfl rfl (P.pickF rfl rfl) ?_
        refine WL.p rfl rfl rfl (P.assign rfl) ?_
        refine WL.nil_ ?_
        refine End.seq ?_
        refine WC.ret ?_
        refine End.blkR ?_
        refine End.thenR ?_
        refine End.ret1 rfl rfl ?_
        exact fun w' hs' => RetV.of (by rw [validR, show decide (e = e.uses) = true by simpa using hc11, vRk, if_pos (show e.kind = 0 by simpa using hc24), vR0]; simp only [*, Bool.true_and, Bool.false_and]) hs'
    ·
      refine WC.seq ?_
      refine WC.region ?_
      refine WL.p rfl rfl rfl (P.cmp rfl rfl rfl) ?_
      refine WL.p rfl rfl rfl (P.assign rfl) ?_
      refine WL.nil_ ?_
      refine End.seq ?_
      refine WC.cond rfl (fun hc42 => ?_) (fun hc42 => ?_)
      ·
        refine WC.seq ?_
        refine WC.region ?_
        refine WL.p rfl rfl rfl (P.fieldAddr fa_34_1 rfl) ?_
        refine WL.p rfl rfl rfl (P.loadO 0 Tryz.isAgg9 rfl rfl rfl) ?_
        refine WL.callv (ent_of Tryz.func122 rfl rfl) rfl rfl rfl (fun w hs => refIsGroup_any e.name w) ?_
        refine WL.p rfl rfl rfl (P.move rfl) ?_
        refine WL.split 47 rfl (fun hs47 => ?_) (fun hs47 => ?_)
        ·
          refine WL.p rfl rfl rfl (P.fieldAddr fa_34_5 rfl) ?_
          refine WL.p rfl rfl rfl (P.loadO 0 Tryz.isAgg3 rfl rfl rfl) ?_
          refine WL.p rfl rfl rfl (P.cmp rfl rfl rfl) ?_
          refine WL.p rfl rfl rfl (P.pickT rfl rfl) ?_
          refine WL.p rfl rfl rfl (P.move rfl) ?_
          refine WL.split 52 rfl (fun hs52 => ?_) (fun hs52 => ?_)
          ·
            refine WL.p rfl rfl rfl (P.fieldAddr fa_34_5 rfl) ?_
            refine WL.p rfl rfl rfl (P.loadO 0 Tryz.isAgg3 rfl rfl rfl) ?_
            refine WL.p rfl rfl rfl (P.cmp rfl rfl rfl) ?_
            refine WL.p rfl rfl rfl (P.pickT rfl rfl) ?_
            refine WL.p rfl rfl rfl (P.move rfl) ?_
            refine WL.split 57 rfl (fun hs57 => ?_) (fun hs57 => ?_)
            ·
              refine WL.p rfl rfl rfl (P.fieldAddr fa_34_6 rfl) ?_
              refine WL.p rfl rfl rfl (P.loadO 0 Tryz.isAgg3 rfl rfl rfl) ?_
              refine WL.p rfl rfl rfl (P.cmp rfl rfl rfl) ?_
              refine WL.p rfl rfl rfl (P.pickT rfl rfl) ?_
              refine WL.p rfl rfl rfl (P.move rfl) ?_
              refine WL.split 62 rfl (fun hs62 => ?_) (fun hs62 => ?_)
              ·
                refine WL.p rfl rfl rfl (P.fieldAddr fa_34_6 rfl) ?_
                refine WL.p rfl rfl rfl (P.loadO 0 Tryz.isAgg3 rfl rfl rfl) ?_
                refine WL.p rfl rfl rfl (P.cmp rfl rfl rfl) ?_
                refine WL.p rfl rfl rfl (P.pickT rfl rfl) ?_
                refine WL.p rfl rfl rfl (P.move rfl) ?_
                refine WL.split 67 rfl (fun hs67 => ?_) (fun hs67 => ?_)
                ·
                  refine WL.p rfl rfl rfl (P.fieldAddr fa_34_8 rfl) ?_
                  refine WL.p rfl rfl rfl (P.loadO 0 Tryz.isAgg9 rfl rfl rfl) ?_
                  refine WL.callv (ent_of Tryz.func123 rfl rfl) rfl rfl rfl (fun w hs => refOwner_any e.owner w) ?_
                  refine WL.p rfl rfl rfl (P.pickT rfl rfl) ?_
                  refine WL.p rfl rfl rfl (P.assign rfl) ?_
                  refine WL.nil_ ?_
                  refine End.seq ?_
                  refine WC.ret ?_
                  refine End.blkR ?_
                  refine End.thenR ?_
                  refine End.ret1 rfl rfl ?_
                  exact fun w' hs' => RetV.of (by rw [validR, show decide (e = e.uses) = true by simpa using hc11, vRk, if_neg (show ¬ e.kind = 0 by simpa using hc24), if_pos (show e.kind = 1 by simpa using hc42), vR1]; simp only [*, Bool.true_and, Bool.false_and]) hs'
                ·
                  refine WL.off rfl rfl ?_
                  refine WL.off rfl rfl ?_
                  refine WL.off rfl rfl ?_
                  refine WL.p rfl rfl rfl (P.pickF rfl rfl) ?_
                  refine WL.p rfl rfl rfl (P.assign rfl) ?_
                  refine WL.nil_ ?_
                  refine End.seq ?_
                  refine WC.ret ?_
                  refine End.blkR ?_
                  refine End.thenR ?_
                  refine End.ret1 rfl rfl ?_
                  exact fun w' hs' => RetV.of (by rw [validR, show decide (e = e.uses) = true by simpa using hc11, vRk, if_neg (show ¬ e.kind = 0 by simpa using hc24), if_pos (show e.kind = 1 by simpa using hc42), vR1]; simp only [*, Bool.true_and, Bool.false_and]) hs'
              ·
                refine WL.off rfl rfl ?_
                refine WL.off rfl rfl ?_
                refine WL.off rfl rfl ?_
                refine WL.p rfl rfl rfl (P.pickF rfl rfl) ?_
                refine WL.p rfl rfl rfl (P.move rfl) ?_
                refine WL.off rfl rfl ?_
                refine WL.off rfl rfl ?_
                refine WL.off rfl rfl ?_
                refine WL.p rfl rfl rfl (P.pickF rfl rfl) ?_
                refine WL.p rfl rfl rfl (P.assign rfl) ?_
                refine WL.nil_ ?_
                refine End.seq ?_
                refine WC.ret ?_
                refine End.blkR ?_
                refine End.thenR ?_
                refine End.ret1 rfl rfl ?_
                exact fun w' hs' => RetV.of (by rw [validR, show decide (e = e.uses) = true by simpa using hc11, vRk, if_neg (show ¬ e.kind = 0 by simpa using hc24), if_pos (show e.kind = 1 by simpa using hc42), vR1]; simp only [*, Bool.true_and, Bool.false_and]) hs'
            ·
              refine WL.off rfl rfl ?_
              refine WL.off rfl rfl ?_
              refine WL.off rfl rfl ?_
              refine WL.p rfl rfl rfl (P.pickF rfl rfl) ?_
              refine WL.p rfl rfl rfl (P.move rfl) ?_
              refine WL.off rfl rfl ?_
              refine WL.off rfl rfl ?_
              refine WL.off rfl rfl ?_
              refine WL.p rfl rfl rfl (P.pickF rfl rfl) ?_
              refine WL.p rfl rfl rfl (P.move rfl) ?_
              refine WL.off rfl rfl ?_
              refine WL.off rfl rfl ?_
              refine WL.off rfl rfl ?_
              refine WL.p rfl rfl rfl (P.pickF rfl rfl) ?_
              refine WL.p rfl rfl rfl (P.assign rfl) ?_
              refine WL.nil_ ?_
              refine End.seq ?_
              refine WC.ret ?_
              refine End.blkR ?_
              refine End.thenR ?_
              refine End.ret1 rfl rfl ?_
              exact fun w' hs' => RetV.of (by rw [validR, show decide (e = e.uses) = true by simpa using hc11, vRk, if_neg (show ¬ e.kind = 0 by simpa using hc24), if_pos (show e.kind = 1 by simpa using hc42), vR1]; simp only [*, Bool.true_and, Bool.false_and]) hs'
          ·
            refine WL.off rfl rfl ?_
            refine WL.off rfl rfl ?_
            refine WL.off rfl rfl ?_
            refine WL.p rfl rfl rfl (P.pickF rfl rfl) ?_
            refine WL.p rfl rfl rfl (P.move rfl) ?_
            refine WL.off rfl rfl ?_
            refine WL.off rfl rfl ?_
            refine WL.off rfl rfl ?_
            refine WL.p rfl rfl rfl (P.pickF rfl rfl) ?_
            refine WL.p rfl rfl rfl (P.move rfl) ?_
            refine WL.off rfl rfl ?_
            refine WL.off rfl rfl ?_
            refine WL.off rfl rfl ?_
            refine WL.p rfl rfl rfl (P.pickF rfl rfl) ?_
            refine WL.p rfl rfl rfl (P.move rfl) ?_
            refine WL.off rfl rfl ?_
            refine WL.off rfl rfl ?_
            refine WL.off rfl rfl ?_
            refine WL.p rfl rfl rfl (P.pickF rfl rfl) ?_
            refine WL.p rfl rfl rfl (P.assign rfl) ?_
            refine WL.nil_ ?_
            refine End.seq ?_
            refine WC.ret ?_
            refine End.blkR ?_
            refine End.thenR ?_
            refine End.ret1 rfl rfl ?_
            exact fun w' hs' => RetV.of (by rw [validR, show decide (e = e.uses) = true by simpa using hc11, vRk, if_neg (show ¬ e.kind = 0 by simpa using hc24), if_pos (show e.kind = 1 by simpa using hc42), vR1]; simp only [*, Bool.true_and, Bool.false_and]) hs'
        ·
          refine WL.off rfl rfl ?_
          refine WL.off rfl rfl ?_
          refine WL.off rfl rfl ?_
          refine WL.p rfl rfl rfl (P.pickF rfl rfl) ?_
          refine WL.p rfl rfl rfl (P.move rfl) ?_
          refine WL.off rfl rfl ?_
          refine WL.off rfl rfl ?_
          refine WL.off rfl rfl ?_
          refine WL.p rfl rfl rfl (P.pickF rfl rfl) ?_
          refine WL.p rfl rfl rfl (P.move rfl) ?_
          refine WL.off rfl rfl ?_
          refine WL.off rfl rfl ?_
          refine WL.off rfl rfl ?_
          refine WL.p rfl rfl rfl (P.pickF rfl rfl) ?_
          refine WL.p rfl rfl rfl (P.move rfl) ?_
          refine WL.off rfl rfl ?_
          refine WL.off rfl rfl ?_
          refine WL.off rfl rfl ?_
          refine WL.p rfl rfl rfl (P.pickF rfl rfl) ?_
          refine WL.p rfl rfl rfl (P.move rfl) ?_
          refine WL.off rfl rfl ?_
          refine WL.off rfl rfl ?_
          refine WL.off rfl rfl ?_
          refine WL.p rfl rfl rfl (P.pickF rfl rfl) ?_
          refine WL.p rfl rfl rfl (P.assign rfl) ?_
          refine WL.nil_ ?_
          refine End.seq ?_
          refine WC.ret ?_
          refine End.blkR ?_
          refine End.thenR ?_
          refine End.ret1 rfl rfl ?_
          exact fun w' hs' => RetV.of (by rw [validR, show decide (e = e.uses) = true by simpa using hc11, vRk, if_neg (show ¬ e.kind = 0 by simpa using hc24), if_pos (show e.kind = 1 by simpa using hc42), vR1]; simp only [*, Bool.true_and, Bool.false_and]) hs'
      ·
        refine WC.seq ?_
        refine WC.region ?_
        refine WL.p rfl rfl rfl (P.cmp rfl rfl rfl) ?_
        refine WL.p rfl rfl rfl (P.assign rfl) ?_
        refine WL.nil_ ?_
        refine End.seq ?_
        refine WC.cond rfl (fun hc72 => ?_) (fun hc72 => ?_)
        ·
          refine WC.seq ?_
          refine WC.region ?_
          refine WL.p rfl rfl rfl (P.move rfl) ?_
          refine WL.p rfl rfl rfl (P.move rfl) ?_
          refine WL.split 75 rfl (fun hs75 => ?_) (fun hs75 => ?_)
          ·
            refine WL.p rfl rfl rfl (P.move rfl) ?_
            refine WL.p rfl rfl rfl (P.not_ rfl) ?_
            refine WL.p rfl rfl rfl (P.pickT rfl rfl) ?_
            refine WL.p rfl rfl rfl (P.move rfl) ?_
            refine WL.split 79 rfl (fun hs79 => ?_) (fun hs79 => ?_)
            ·
              refine WL.p rfl rfl rfl (P.fieldAddr fa_34_9 rfl) ?_
              refine WL.p rfl rfl rfl (P.loadO 0 Tryz.isAgg9 rfl rfl rfl) ?_
              refine WL.callv (ent_of Tryz.func117 rfl rfl) rfl rfl rfl (fun w hs => refValid_any e.target w) ?_
              refine WL.p rfl rfl rfl (P.pickT rfl rfl) ?_
              refine WL.p rfl rfl rfl (P.move rfl) ?_
              refine WL.split 84 rfl (fun hs84 => ?_) (fun hs84 => ?_)
              ·
                refine WL.p rfl rfl rfl (P.fieldAddr fa_34_9 rfl) ?_
                refine WL.p rfl rfl rfl (P.loadO 0 Tryz.isAgg9 rfl rfl rfl) ?_
                refine WL.p rfl rfl rfl (P.fieldAddr fa_34_1 rfl) ?_
                refine WL.p rfl rfl rfl (P.loadO 0 Tryz.isAgg9 rfl rfl rfl) ?_
                refine WL.p rfl rfl rfl (P.cmps rfl rfl rfl) ?_
                refine WL.p rfl rfl rfl (P.pickT rfl rfl) ?_
                refine WL.p rfl rfl rfl (P.assign rfl) ?_
                refine WL.nil_ ?_
                refine End.seq ?_
                refine WC.ret ?_
                refine End.blkR ?_
                refine End.thenR ?_
                refine End.ret1 rfl rfl ?_
                exact fun w' hs' => RetV.of (by rw [validR, show decide (e = e.uses) = true by simpa using hc11, vRk, if_neg (show ¬ e.kind = 0 by simpa using hc24), if_neg (show ¬ e.kind = 1 by simpa using hc42), if_pos (show e.kind = 2 by simpa using hc72), vR2]; simp only [*, Bool.true_and, Bool.false_and]) hs'
              ·
                refine WL.off rfl rfl ?_
                refine WL.off rfl rfl ?_
                refine WL.off rfl rfl ?_
                refine WL.off rfl rfl ?_
                refine WL.off rfl rfl ?_
                refine WL.p rfl rfl rfl (P.pickF rfl rfl) ?_
                refine WL.p rfl rfl rfl (P.assign rfl) ?_
                refine WL.nil_ ?_
                refine End.seq ?_
                refine WC.ret ?_
                refine End.blkR ?_
                refine End.thenR ?_
                refine End.ret1 rfl rfl ?_
                exact fun w' hs' => RetV.of (by rw [validR, show decide (e = e.uses) = true by simpa using hc11, vRk, if_neg (show ¬ e.kind = 0 by simpa using hc24), if_neg (show ¬ e.kind = 1 by simpa using hc42), if_pos (show e.kind = 2 by simpa using hc72), vR2]; simp only [*, Bool.true_and, Bool.false_and]) hs'
            ·
              refine WL.off rfl rfl ?_
              refine WL.off rfl rfl ?_
              refine WL.off rfl rfl ?_
              refine WL.p rfl rfl rfl (P.pickF rfl rfl) ?_
              refine WL.p rfl rfl rfl (P.move rfl) ?_
              refine WL.off rfl rfl ?_
              refine WL.off rfl rfl ?_
              refine WL.off rfl rfl ?_
              refine WL.off rfl rfl ?_
              refine WL.off rfl rfl ?_
              refine WL.p rfl rfl rfl (P.pickF rfl rfl) ?_
              refine WL.p rfl rfl rfl (P.assign rfl) ?_
              refine WL.nil_ ?_
              refine End.seq ?_
              refine WC.ret ?_
              refine End.blkR ?_
              refine End.thenR ?_
              refine End.ret1 rfl rfl ?_
              exact fun w' hs' => RetV.of (by rw [validR, show decide (e = e.uses) = true by simpa using hc11, vRk, if_neg (show ¬ e.kind = 0 by simpa using hc24), if_neg (show ¬ e.kind = 1 by simpa using hc42), if_pos (show e.kind = 2 by simpa using hc72), vR2]; simp only [*, Bool.true_and, Bool.false_and]) hs'
          ·
            refine WL.off rfl rfl ?_
            refine WL.off rfl rfl ?_
            refine WL.p rfl rfl rfl (P.pickF rfl rfl) ?_
            refine WL.p rfl rfl rfl (P.move rfl) ?_
            refine WL.off rfl rfl ?_
            refine WL.off rfl rfl ?_
            refine WL.off rfl rfl ?_
            refine WL.p rfl rfl rfl (P.pickF rfl rfl) ?_
            refine WL.p rfl rfl rfl (P.move rfl) ?_
            refine WL.off rfl rfl ?_
            refine WL.off rfl rfl ?_
            refine WL.off rfl rfl ?_
            refine WL.off rfl rfl ?_
            refine WL.off rfl rfl ?_
            refine WL.p rfl rfl rfl (P.pickF rfl rfl) ?_
            refine WL.p rfl rfl rfl (P.assign rfl) ?_
            refine WL.nil_ ?_
            refine End.seq ?_
            refine WC.ret ?_
            refine End.blkR ?_
            refine End.thenR ?_
            refine End.ret1 rfl rfl ?_
            exact fun w' hs' => RetV.of (by rw [validR, show decide (e = e.uses) = true by simpa using hc11, vRk, if_neg (show ¬ e.kind = 0 by simpa using hc24), if_neg (show ¬ e.kind = 1 by simpa using hc42), if_pos (show e.kind = 2 by simpa using hc72), vR2]; simp only [*, Bool.true_and, Bool.false_and]) hs'
        ·
          refine WC.seq ?_
          refine WC.region ?_
          refine WL.p rfl rfl rfl (P.cmp rfl rfl rfl) ?_
          refine WL.p rfl rfl rfl (P.assign rfl) ?_
          refine WL.nil_ ?_
          refine End.seq ?_
          refine WC.cond rfl (fun hc91 => ?_) (fun hc91 => ?_)
          ·
            refine WC.seq ?_
            refine WC.region ?_
            refine WL.p rfl rfl rfl (P.move rfl) ?_
            refine WL.p rfl rfl rfl (P.move rfl) ?_
            refine WL.split 94 rfl (fun hs94 => ?_) (fun hs94 => ?_)
            ·
              refine WL.p rfl rfl rfl (P.fieldAddr fa_34_1 rfl) ?_
              refine WL.p rfl rfl rfl (P.loadO 0 Tryz.isAgg9 rfl rfl rfl) ?_
              refine WL.callx (ent_of Tryz.func124 rfl rfl) rfl rfl rfl (fun w hs => refParts_any e.name w hsz) (fun pp hpp => ?_)
              refine WL.p rfl rfl rfl (P.lenR Tryz.underlying48 rfl) ?_
              refine WL.p rfl rfl rfl (P.cmp rfl rfl rfl) ?_
              refine WL.p rfl rfl rfl (P.pickT rfl rfl) ?_
              refine WL.p rfl rfl rfl (P.move rfl) ?_
              refine WL.split 101 rfl (fun hs101 => ?_) (fun hs101 => ?_)
              ·
                refine WL.p rfl rfl rfl (P.fieldAddr fa_34_10 rfl) ?_
                refine WL.p rfl rfl rfl (P.loadO 1 Tryz.isAgg3 rfl rfl rfl) ?_
                refine WL.p rfl rfl rfl (P.cmp rfl rfl rfl) ?_
                refine WL.p rfl rfl rfl (P.pickT rfl rfl) ?_
                refine WL.p rfl rfl rfl (P.move rfl) ?_
                refine WL.split 106 rfl (fun hs106 => ?_) (fun hs106 => ?_)
                ·
                  refine WL.p rfl rfl rfl (P.fieldAddr fa_34_10 rfl) ?_
                  refine WL.p rfl rfl rfl (P.loadO 1 Tryz.isAgg3 rfl rfl rfl) ?_
                  refine WL.p rfl rfl rfl (P.cmp rfl rfl rfl) ?_
                  refine WL.p rfl rfl rfl (P.pickT rfl rfl) ?_
                  refine WL.p rfl rfl rfl (P.assign rfl) ?_
                  refine WL.nil_ ?_
                  refine End.seq ?_
                  refine WC.ret ?_
                  refine End.blkR ?_
                  refine End.thenR ?_
                  refine End.ret1 rfl rfl ?_
                  exact fun w' hs' => RetV.of (by rw [validR, show decide (e = e.uses) = true by simpa using hc11, vRk, if_neg (show ¬ e.kind = 0 by simpa using hc24), if_neg (show ¬ e.kind = 1 by simpa using hc42), if_neg (show ¬ e.kind = 2 by simpa using hc72), if_pos (show e.kind = 3 by simpa using hc91), vR3]; simp only [*, Bool.true_and, Bool.false_and]) hs'
                ·
                  refine WL.off rfl rfl ?_
                  refine WL.off rfl rfl ?_
                  refine WL.off rfl rfl ?_
                  refine WL.p rfl rfl rfl (P.pickF rfl rfl) ?_
                  refine WL.p rfl rfl rfl (P.assign rfl) ?_
                  refine WL.nil_ ?_
                  refine End.seq ?_
                  refine WC.ret ?_
                  refine End.blkR ?_
                  refine End.thenR ?_
                  refine End.ret1 rfl rfl ?_
                  exact fun w' hs' => RetV.of (by rw [validR, show decide (e = e.uses) = true by simpa using hc11, vRk, if_neg (show ¬ e.kind = 0 by simpa using hc24), if_neg (show ¬ e.kind = 1 by simpa using hc42), if_neg (show ¬ e.kind = 2 by simpa using hc72), if_pos (show e.kind = 3 by simpa using hc91), vR3]; simp only [*, Bool.true_and, Bool.false_and]) hs'
              ·
                refine WL.off rfl rfl ?_
                refine WL.off rfl rfl ?_
                refine WL.off rfl rfl ?_
                refine WL.p rfl rfl rfl (P.pickF rfl rfl) ?_
                refine WL.p rfl rfl rfl (P.move rfl) ?_
                refine WL.off rfl rfl ?_
                refine WL.off rfl rfl ?_
                refine WL.off rfl rfl ?_
                refine WL.p rfl rfl rfl (P.pickF rfl rfl) ?_
                refine WL.p rfl rfl rfl (P.assign rfl) ?_
                refine WL.nil_ ?_
                refine End.seq ?_
                refine WC.ret ?_
                refine End.blkR ?_
                refine End.thenR ?_
                refine End.ret1 rfl rfl ?_
                exact fun w' hs' => RetV.of (by rw [validR, show decide (e = e.uses) = true by simpa using hc11, vRk, if_neg (show ¬ e.kind = 0 by simpa using hc24), if_neg (show ¬ e.kind = 1 by simpa using hc42), if_neg (show ¬ e.kind = 2 by simpa using hc72), if_pos (show e.kind = 3 by simpa using hc91), vR3]; simp only [*, Bool.true_and, Bool.false_and]) hs'
            ·
              refine WL.off rfl rfl ?_
              refine WL.off rfl rfl ?_
              refine WL.off rfl rfl ?_
              refine WL.off rfl rfl ?_
              refine WL.off rfl rfl ?_
              refine WL.p rfl rfl rfl (P.pickF rfl rfl) ?_
              refine WL.p rfl rfl rfl (P.move rfl) ?_
              refine WL.off rfl rfl ?_
              refine WL.off rfl rfl ?_
              refine WL.off rfl rfl ?_
              refine WL.p rfl rfl rfl (P.pickF rfl rfl) ?_
              refine WL.p rfl rfl rfl (P.move rfl) ?_
              refine WL.off rfl rfl ?_
              refine WL.off rfl rfl ?_
              refine WL.off rfl rfl ?_
              refine WL.p rfl rfl rfl (P.pickF rfl rfl) ?_
              refine WL.p rfl rfl rfl (P.assign rfl) ?_
              refine WL.nil_ ?_
              refine End.seq ?_
              refine WC.ret ?_
              refine End.blkR ?_
              refine End.thenR ?_
              refine End.ret1 rfl rfl ?_
              exact fun w' hs' => RetV.of (by rw [validR, show decide (e = e.uses) = true by simpa using hc11, vRk, if_neg (show ¬ e.kind = 0 by simpa using hc24), if_neg (show ¬ e.kind = 1 by simpa using hc42), if_neg (show ¬ e.kind = 2 by simpa using hc72), if_pos (show e.kind = 3 by simpa using hc91), vR3]; simp only [*, Bool.true_and, Bool.false_and]) hs'
          ·
            refine WC.seq ?_
            refine WC.region ?_
            refine WL.p rfl rfl rfl (P.cmp rfl rfl rfl) ?_
            refine WL.p rfl rfl rfl (P.assign rfl) ?_
            refine WL.nil_ ?_
            refine End.seq ?_
            refine WC.cond rfl (fun hc111 => ?_) (fun hc111 => ?_)
            ·
              refine WC.seq ?_
              refine WC.region ?_
              refine WL.p rfl rfl rfl (P.fieldAddr fa_34_1 rfl) ?_
              refine WL.p rfl rfl rfl (P.loadO 0 Tryz.isAgg9 rfl rfl rfl) ?_
              refine WL.callv (ent_of Tryz.func59 rfl rfl) rfl rfl rfl (fun w hs => refValidPattern_any e.name w) ?_
              refine WL.p rfl rfl rfl (P.move rfl) ?_
              refine WL.split 116 rfl (fun hs116 => ?_) (fun hs116 => ?_)
              ·
                refine WL.p rfl rfl rfl (P.fieldAddr fa_34_11 rfl) ?_
                refine WL.p rfl rfl rfl (P.loadO 0 Tryz.isAgg3 rfl rfl rfl) ?_
                refine WL.callv (ent_of Tryz.func125 rfl rfl) rfl rfl rfl (fun w hs => refLevel_any e.level w) ?_
                refine WL.p rfl rfl rfl (P.pickT rfl rfl) ?_
                refine WL.p rfl rfl rfl (P.move rfl) ?_
                refine WL.split 121 rfl (fun hs121 => ?_) (fun hs121 => ?_)
                ·
                  refine WL.p rfl rfl rfl (P.fieldAddr fa_34_8 rfl) ?_
                  refine WL.p rfl rfl rfl (P.loadO 0 Tryz.isAgg9 rfl rfl rfl) ?_
                  refine WL.callv (ent_of Tryz.func123 rfl rfl) rfl rfl rfl (fun w hs => refOwner_any e.owner w) ?_
                  refine WL.p rfl rfl rfl (P.pickT rfl rfl) ?_
                  refine WL.p rfl rfl rfl (P.move rfl) ?_
                  refine WL.split 126 rfl (fun hs126 => ?_) (fun hs126 => ?_)
                  ·
                    refine WL.p rfl rfl rfl (P.fieldAddr fa_34_12 rfl) ?_
                    refine WL.p rfl rfl rfl (P.loadO 0 Tryz.isAgg32 rfl rfl rfl) ?_
                    refine WL.callv (ent_of Tryz.func126 rfl rfl) rfl rfl rfl (fun w hs => grantsR_any A2 c2 e.grants w (hr2.st hs)) ?_
                    refine WL.p rfl rfl rfl (P.pickT rfl rfl) ?_
                    refine WL.p rfl rfl rfl (P.assign rfl) ?_
                    refine WL.nil_ ?_
                    refine End.seq ?_
                    refine WC.ret ?_
                    refine End.blkR ?_
                    refine End.thenR ?_
                    refine End.ret1 rfl rfl ?_
                    exact fun w' hs' => RetV.of (by rw [validR, show decide (e = e.uses) = true by simpa using hc11, vRk, if_neg (show ¬ e.kind = 0 by simpa using hc24), if_neg (show ¬ e.kind = 1 by simpa using hc42), if_neg (show ¬ e.kind = 2 by simpa using hc72), if_neg (show ¬ e.kind = 3 by simpa using hc91), if_pos (show e.kind = 4 by simpa using hc111), vR4]; simp only [*, Bool.true_and, Bool.false_and]) hs'
                  ·
                    refine WL.off rfl rfl ?_
                    refine WL.off rfl rfl ?_
                    refine WL.off rfl rfl ?_
                    refine WL.p rfl rfl rfl (P.pickF rfl rfl) ?_
                    refine WL.p rfl rfl rfl (P.assign rfl) ?_
                    refine WL.nil_ ?_
                    refine End.seq ?_
                    refine WC.ret ?_
                    refine End.blkR ?_
                    refine End.thenR ?_
                    refine End.ret1 rfl rfl ?_
                    exact fun w' hs' => RetV.of (by rw [validR, show decide (e = e.uses) = true by simpa using hc11, vRk, if_neg (show ¬ e.kind = 0 by simpa using hc24), if_neg (show ¬ e.kind = 1 by simpa using hc42), if_neg (show ¬ e.kind = 2 by simpa using hc72), if_neg (show ¬ e.kind = 3 by simpa using hc91), if_pos (show e.kind = 4 by simpa using hc111), vR4]; simp only [*, Bool.true_and, Bool.false_and]) hs'
                ·
                  refine WL.off rfl rfl ?_
                  refine WL.off rfl rfl ?_
                  refine WL.off rfl rfl ?_
                  refine WL.p rfl rfl rfl (P.pickF rfl rfl) ?_
                  refine WL.p rfl rfl rfl (P.move rfl) ?_
                  refine WL.off rfl rfl ?_
                  refine WL.off rfl rfl ?_
                  refine WL.off rfl rfl ?_
                  refine WL.p rfl rfl rfl (P.pickF rfl rfl) ?_
                  refine WL.p rfl rfl rfl (P.assign rfl) ?_
                  refine WL.nil_ ?_
                  refine End.seq ?_
                  refine WC.ret ?_
                  refine End.blkR ?_
                  refine End.thenR ?_
                  refine End.ret1 rfl rfl ?_
                  exact fun w' hs' => RetV.of (by rw [validR, show decide (e = e.uses) = true by simpa using hc11, vRk, if_neg (show ¬ e.kind = 0 by simpa using hc24), if_neg (show ¬ e.kind = 1 by simpa using hc42), if_neg (show ¬ e.kind = 2 by simpa using hc72), if_neg (show ¬ e.kind = 3 by simpa using hc91), if_pos (show e.kind = 4 by simpa using hc111), vR4]; simp only [*, Bool.true_and, Bool.false_and]) hs'
              ·
                refine WL.off rfl rfl ?_
                refine WL.off rfl rfl ?_
                refine WL.off rfl rfl ?_
                refine WL.p rfl rfl rfl (P.pickF rfl rfl) ?_
                refine WL.p rfl rfl rfl (P.move rfl) ?_
                refine WL.off rfl rfl ?_
                refine WL.off rfl rfl ?_
                refine WL.off rfl rfl ?_
                refine WL.p rfl rfl rfl (P.pickF rfl rfl) ?_
                refine WL.p rfl rfl rfl (P.move rfl) ?_
                refine WL.off rfl rfl ?_
                refine WL.off rfl rfl ?_
                refine WL.off rfl rfl ?_
                refine WL.p rfl rfl rfl (P.pickF rfl rfl) ?_
                refine WL.p rfl rfl rfl (P.assign rfl) ?_
                refine WL.nil_ ?_
                refine End.seq ?_
                refine WC.ret ?_
                refine End.blkR ?_
                refine End.thenR ?_
                refine End.ret1 rfl rfl ?_
                exact fun w' hs' => RetV.of (by rw [validR, show decide (e = e.uses) = true by simpa using hc11, vRk, if_neg (show ¬ e.kind = 0 by simpa using hc24), if_neg (show ¬ e.kind = 1 by simpa using hc42), if_neg (show ¬ e.kind = 2 by simpa using hc72), if_neg (show ¬ e.kind = 3 by simpa using hc91), if_pos (show e.kind = 4 by simpa using hc111), vR4]; simp only [*, Bool.true_and, Bool.false_and]) hs'
            ·
              refine WC.skip ?_
              refine End.blkN ?_
              refine End.seq ?_
              refine WC.seq ?_
              refine WC.region ?_
              refine WL.p rfl rfl rfl (P.assign rfl) ?_
              refine WL.nil_ ?_
              refine End.seq ?_
              refine WC.ret ?_
              refine End.ret1 rfl rfl ?_
              exact fun w' hs' => RetV.of (by rw [validR, vRk, if_neg (show ¬ e.kind = 0 by simpa using hc24), if_neg (show ¬ e.kind = 1 by simpa using hc42), if_neg (show ¬ e.kind = 2 by simpa using hc72), if_neg (show ¬ e.kind = 3 by simpa using hc91), if_neg (show ¬ e.kind = 4 by simpa using hc111)]; simp) hs'

end Go.Proofs.YtlkkiimmangplaaGreatDoor

/- Valid entries: the program's and the reference's say the same. -/
namespace Go.Proofs.YtlkkiimmangplaaGreatDoor
open Go.RowKit
set_option linter.unusedVariables false
set_option linter.unusedSimpArgs false
/-! ### Patterns -/
theorem contains_cons (b : UInt8) (l sub : List UInt8) : Lib.contains (b :: l) sub = (sub.isPrefixOf (b :: l) || Lib.contains l sub) := by
  have hge := Lib.index_ge l sub
  unfold Lib.contains
  rw [Lib.index]
  by_cases hp : sub.isPrefixOf (b :: l) = true
  · rw [if_pos hp, hp]; rfl
  · rw [if_neg hp, Bool.eq_false_iff.2 hp, Bool.false_or]
    by_cases hm : Lib.index l sub = -1
    · rw [if_pos (by simpa using hm), hm]
    · rw [if_neg (by simpa using hm)]
      rw [Bool.eq_iff_iff, decide_eq_true_eq, decide_eq_true_eq]
      omega
theorem contains2 : ∀ l : List UInt8, Lib.contains l [42, 42] = true ↔ ∃ k : Nat, l[k]? = some 42 ∧ l[k + 1]? = some 42
  | [] => by
    constructor
    · intro h; exact absurd h (by decide)
    · rintro ⟨k, h, _⟩; cases h
  | b :: l => by
    rw [contains_cons, Bool.or_eq_true, contains2 l]
    constructor
    · rintro (h | ⟨k, h1, h2⟩)
      · refine ⟨0, ?_, ?_⟩
        · simp [List.isPrefixOf] at h; simp [h.1]
        · cases l with
          | nil => simp [List.isPrefixOf] at h
          | cons c r => simp [List.isPrefixOf] at h; simp [h.2]
      · exact ⟨k + 1, by simpa using h1, by simpa using h2⟩
    · rintro ⟨k, h1, h2⟩
      cases k with
      | zero =>
        left
        cases l with
        | nil => simp at h2
        | cons c r =>
          simp at h1 h2
          simp [List.isPrefixOf, h1, h2]
      | succ k => exact .inr ⟨k, by simpa using h1, by simpa using h2⟩
theorem eq42 {c : UInt8} : ((c.toNat : Int) == 42) = decide (c = 42) := u8_is (d := 42) (by decide)
theorem star_up {c : UInt8} (h : isStar c = true) : isDigit (c.toNat : Int) = false ∧ isPlainStar c = true := by
  unfold isStar at h
  unfold isPlainStar
  rw [Bool.or_eq_true] at h
  rcases h with h | h
  · refine ⟨?_, by rw [h]; rfl⟩
    unfold isUpper at h
    unfold isDigit
    simp at h ⊢
    omega
  · refine ⟨?_, by rw [h]; simp⟩
    rw [beq_iff_eq] at h
    rw [h]; decide
theorem okAt_iff (l : List UInt8) (k : Nat) (hk : k < l.length) : okAt true l k = true ↔ isPlainStar (l[k]?.getD 0) = true ∧ ¬ (0 < k ∧ l[k]? = some 42 ∧ l[k - 1]? = some 42) := by
  have e1 : l[k]? = some l[k] := List.getElem?_eq_getElem hk
  unfold okAt byteAt
  rw [Int.toNat_natCast, e1]
  simp only [Option.getD_some, Bool.true_and]
  rw [eq42, Bool.and_eq_true]
  have e2 : isPlainStar l[k] = (isUpper (l[k].toNat : Int) || (isDigit (l[k].toNat : Int) || decide (l[k] = 42))) := by
    unfold isPlainStar
    rw [eq42, Bool.or_assoc]
  rw [← e2]
  refine and_congr_right fun _ => ?_
  by_cases h0 : 0 < k
  · have hk1 : k - 1 < l.length := by omega
    have e3 : ((k : Int) - 1).toNat = k - 1 := by omega
    rw [e3, List.getElem?_eq_getElem hk1]
    simp only [Option.getD_some]
    rw [eq42]
    simp [h0]
    exact Decidable.imp_iff_not_or.symm
  · simp [h0]
theorem patQ_eq (q : ByteArray) : patQ q = partB true q := by
  have hs : q.size = q.data.toList.length := rfl
  unfold patQ partB
  rw [Bool.true_and, toList_beq, show (⟨#[42, 42]⟩ : ByteArray) = stars from rfl]
  congr 1
  unfold qualB
  rw [hs]
  generalize q.data.toList = l
  by_cases h1 : 1 ≤ l.length
  · rw [decide_eq_true h1, Bool.true_and, Bool.true_and, Bool.and_assoc]
    congr 1
    rw [Bool.eq_iff_iff]
    simp only [Bool.and_eq_true, Bool.not_eq_true', List.all_eq_true]
    have e0 : byteAt l 0 = ((l[0]?.getD 0).toNat : Int) := rfl
    constructor
    · rintro ⟨⟨ha, hb⟩, hc⟩
      obtain ⟨hd, hp⟩ := star_up ha
      refine ⟨by rw [e0]; exact hd, fun k hk => ?_⟩
      have hk := List.mem_range.1 hk
      rw [okAt_iff l k hk]
      refine ⟨?_, fun ⟨h2, h3, h4⟩ => ?_⟩
      · cases k with
        | zero => exact hp
        | succ k =>
          rw [List.getElem?_eq_getElem hk]
          refine hb _ ?_
          rw [List.mem_iff_getElem?]
          exact ⟨k, by rw [List.getElem?_drop, Nat.add_comm, List.getElem?_eq_getElem hk]; rfl⟩
      · have : Lib.contains l [42, 42] = true := (contains2 l).2 ⟨k - 1, h4, by rw [show k - 1 + 1 = k by omega]; exact h3⟩
        rw [this] at hc; cases hc
    · rintro ⟨ha, hb⟩
      have h0 := (okAt_iff l 0 (by omega)).1 (hb 0 (List.mem_range.2 (by omega)))
      refine ⟨⟨?_, fun c hc => ?_⟩, ?_⟩
      · have := h0.1
        unfold isPlainStar at this
        unfold isStar
        rw [e0] at ha
        rw [ha] at this
        simpa using this
      · obtain ⟨k, hk⟩ := List.mem_iff_getElem?.1 hc
        rw [List.getElem?_drop] at hk
        have hlt := (List.getElem?_eq_some_iff.1 hk).1
        have := ((okAt_iff l (1 + k) hlt).1 (hb _ (List.mem_range.2 hlt))).1
        rw [hk] at this
        exact this
      · rw [Bool.eq_false_iff]
        intro hc
        obtain ⟨k, h3, h4⟩ := (contains2 l).1 hc
        have hlt := (List.getElem?_eq_some_iff.1 h4).1
        exact ((okAt_iff l (k + 1) hlt).1 (hb _ (List.mem_range.2 hlt))).2 ⟨by omega, h4, h3⟩
  · rw [decide_eq_false h1]; rfl
theorem pat_eq (s : ByteArray) : patB s = validB true s := by
  unfold patB allB validB
  rw [parts_eq]
  have e : decide ((s.size : Int) ≤ 31) = decide (s.size ≤ 31) := by rw [Bool.eq_iff_iff, decide_eq_true_eq, decide_eq_true_eq]; omega
  have e2 : patQ = partB true := by funext q; rw [patQ_eq]
  rw [e, e2]
/-! ### Generations -/
theorem sp_app (b : List UInt8) : ∀ a : List UInt8, sp (a ++ 46 :: b) = sp a ++ sp b
  | [] => by simp [sp]
  | c :: a => by
    rw [List.cons_append, sp, sp, sp_app b a]
    by_cases hc : c = 46
    · rw [if_pos hc, if_pos hc]; rfl
    · rw [if_neg hc, if_neg hc]
      cases hs : sp a with
      | nil => exact absurd hs (sp_ne a)
      | cons h t => rfl
theorem mkB_app (a b : List UInt8) : mkB (a ++ b) = mkB a ++ mkB b := by
  apply eq_of_data
  rw [data_append]
theorem join_sp : ∀ (n : Nat) (l : List UInt8), l.length = n → joinB (spB l) = mkB l
  | 0, l, h => by
    rw [List.length_eq_zero_iff.1 h]; rfl
  | n + 1, l, h => by
    obtain ⟨a, c, rfl⟩ : ∃ a c, l = a ++ [c] := by
      rcases List.eq_nil_or_concat l with rfl | ⟨a, c, rfl⟩
      · cases h
      · exact ⟨a, c, by simp⟩
    have ih := join_sp n a (by simpa using h)
    obtain ⟨ys, y, h1, h2⟩ := sp_snoc a c
    unfold spB at ih ⊢
    rw [h1, List.map_append] at ih
    rw [h2]
    by_cases hc : c = 46
    · rw [if_pos hc, List.map_append, List.map_append]
      show joinB ((List.map mkB ys ++ [mkB y]) ++ [mkB []]) = _
      rw [joinB_snoc (by simp)]
      have e : joinB (List.map mkB ys ++ [mkB y]) = mkB a := ih
      rw [e, mkB_app, hc]
      show mkB a ++ dot ++ bempty = mkB a ++ dot
      rw [app_emp]
    · rw [if_neg hc, List.map_append]
      show joinB (List.map mkB ys ++ [mkB (y ++ [c])]) = _
      cases ys with
      | nil =>
        have e : mkB y = mkB a := ih
        show mkB (y ++ [c]) = _
        rw [mkB_app, e, ← mkB_app]
      | cons z zs =>
        rw [joinB_snoc (by simp), mkB_app, mkB_app]
        have e : joinB (List.map mkB (z :: zs) ++ [mkB y]) = mkB a := ih
        rw [joinB_snoc (by simp)] at e
        rw [← e, ByteArray.append_assoc, ByteArray.append_assoc, ByteArray.append_assoc]
theorem data_bang (s : ByteArray) (i : Nat) (h : i < s.size) : s.data.toList[i]? = some (s.data[i]!) := by
  have h' : i < s.data.size := h
  rw [Array.getElem?_toList, getElem!_pos s.data i h', Array.getElem?_eq_getElem h']
theorem split_cases (s : ByteArray) : (lastP s = -1 ∧ (46 : UInt8) ∉ s.data.toList) ∨ ∃ a b : List UInt8, s.data.toList = a ++ 46 :: b ∧ (46 : UInt8) ∉ b ∧ lastP s = a.length := by
  rcases Lib.lastIndexByte_spec s 46 with ⟨h1, h2⟩ | ⟨i, hi, h1, h2, h3⟩
  · refine .inl ⟨h1, fun hm => ?_⟩
    obtain ⟨j, hj⟩ := List.mem_iff_getElem?.1 hm
    have hlt : j < s.size := (List.getElem?_eq_some_iff.1 hj).1
    rw [data_bang s j hlt] at hj
    have := h2 j hlt
    rw [Option.some.inj hj] at this
    exact this rfl
  · have hd := data_bang s i hi
    have he : s.data[i]! = 46 := by
      apply UInt8.toNat_inj.1
      have : ((s.data[i]!).toNat : Int) = 46 := h2
      have e : (46 : UInt8).toNat = 46 := rfl
      rw [e]; omega
    rw [he] at hd
    have hl : i < s.data.toList.length := hi
    refine .inr ⟨s.data.toList.take i, s.data.toList.drop (i + 1), ?_, fun hm => ?_, ?_⟩
    · conv => lhs; rw [← List.take_append_drop i s.data.toList]
      congr 1
      exact drop_at hd
    · obtain ⟨j, hj⟩ := List.mem_iff_getElem?.1 hm
      rw [List.getElem?_drop] at hj
      have hlt : i + 1 + j < s.size := (List.getElem?_eq_some_iff.1 hj).1
      rw [data_bang s _ hlt] at hj
      have := h3 (i + 1 + j) (by omega) hlt
      rw [Option.some.inj hj] at this
      exact this rfl
    · rw [List.length_take]
      show lastP s = ((min i s.data.toList.length : Nat) : Int)
      rw [Nat.min_eq_left (by omega)]
      exact h1
theorem rgroup_no : rgroupB ⟨#[]⟩ = false := by decide
theorem split_eq (s : ByteArray) : rsplitB s = (splitG s, splitN s, splitV s) := by
  rcases split_cases s with ⟨h1, h2⟩ | ⟨a, b, h1, h2, h3⟩
  · have hV : splitV s = false := by
      unfold splitV
      rw [h1]; rfl
    unfold splitG splitN rsplitB
    rw [hV, spB, sp_dotless _ h2]
    rw [if_pos (.inr rgroup_no)]
    rfl
  · have hsp : spB s.data.toList = spB a ++ [mkB b] := by unfold spB; rw [h1, sp_app, sp_dotless b h2, List.map_append]; rfl
    have hg : (s.extract 0 (lastP s).toNat) = mkB a := by
      apply eq_of_data
      rw [extract_data, h3, Int.toNat_natCast, h1]
      simp [mkB]
    have hb : (s.extract (lastP s + 1).toNat s.size).data.toList = b := by
      have hl : s.data.toList.length = s.size := rfl
      rw [extract_data, ← hl, List.take_length, h3, h1, show ((a.length : Int) + 1).toNat = a.length + 1 by omega]
      simp
    have hV : splitV s = (rgroupB (mkB a) && !(genNum b == 0)) := by
      unfold splitV
      rw [hg, hb, group_eq, decide_eq_false (by omega : ¬ lastP s < 0)]; rfl
    have hlast : ((spB s.data.toList).getLast?.getD ⟨#[]⟩).data.toList = b := by rw [hsp]; simp [mkB]
    have hinit : joinB ((spB s.data.toList).take ((spB s.data.toList).length - 1)) = mkB a := by
      rw [hsp, List.length_append, List.length_singleton, Nat.add_sub_cancel, List.take_left' rfl]
      exact join_sp _ a rfl
    unfold rsplitB splitG splitN
    rw [hlast, hinit, hV, hg, hb]
    by_cases hn : genNum b = 0
    · rw [if_pos (.inl hn), hn]; simp
    · by_cases hr : rgroupB (mkB a) = false
      · rw [if_pos (.inr hr), hr]; rfl
      · rw [if_neg (by rintro (h | h) <;> contradiction)]
        have hr' : rgroupB (mkB a) = true := by simpa using hr
        have hn' : (genNum b == 0) = false := by simpa using hn
        rw [hr', hn']; rfl
theorem sp_count : ∀ l : List UInt8, (sp l).length = l.count 46 + 1
  | [] => rfl
  | c :: l => by
    have ih := sp_count l
    rw [sp]
    by_cases hc : c = 46
    · rw [if_pos hc, hc]; simp [ih]
    · rw [if_neg hc, List.count_cons_of_ne hc, ← ih]
      cases hs : sp l with
      | nil => exact absurd hs (sp_ne l)
      | cons h t => rfl
/-! ### Grants -/
theorem inB_level (n : Int) : inB 0 3 [n] = levelB n := by simp [inB, levelB]
theorem gr_eq (gs : List Gr) : ∀ k, k ≤ gs.length → grsOK (gs.take k) [] = (List.range k).all (grE gs)
  | 0, _ => rfl
  | k + 1, h => by
    obtain ⟨g, hg⟩ := get_of_lt (show k < gs.length by omega)
    rw [grsOK_take hg, gr_eq gs k (by omega), range_snoc, List.nil_append]
    congr 1
    unfold grE
    rw [getD_gr hg, word_eq, inB_level]
    congr 1
    congr 1
    congr 1
    rw [Bool.eq_iff_iff]
    unfold inL
    rw [List.any_eq_true, List.any_eq_true]
    constructor
    · rintro ⟨p, hp, he⟩
      obtain ⟨x, hx, rfl⟩ := List.mem_map.1 hp
      obtain ⟨j, hj⟩ := List.mem_iff_getElem?.1 hx
      rw [List.getElem?_take] at hj
      split at hj
      · rename_i hjk
        refine ⟨j, List.mem_range.2 hjk, ?_⟩
        rw [getD_gr hj]
        have := of_decide_eq_true he
        unfold grKey at this
        unfold sameKey
        rw [toList_beq, (Prod.mk.inj this).1, (Prod.mk.inj this).2]
        simp
      · cases hj
    · rintro ⟨j, hj, he⟩
      have hj := List.mem_range.1 hj
      obtain ⟨x, hx⟩ := get_of_lt (show j < gs.length by omega)
      rw [getD_gr hx] at he
      refine ⟨grKey x, List.mem_map.2 ⟨x, ?_, rfl⟩, ?_⟩
      · rw [List.mem_iff_getElem?]
        exact ⟨j, by rw [List.getElem?_take, if_pos hj]; exact hx⟩
      · unfold sameKey at he
        rw [Bool.and_eq_true, toList_beq, decide_eq_true_eq, beq_iff_eq] at he
        unfold grKey
        rw [he.1, he.2]
        simp
theorem grants_eq (gs : List Gr) : (grsOK gs [] && decide ((gs.length : Int) ≤ 8)) = grantsR gs := by
  have h := gr_eq gs gs.length (Nat.le_refl _)
  rw [List.take_length] at h
  rw [h]; rfl
/-! ### The kinds -/
theorem ok0 (e : E) : ((kinds 0).nm e.name && (kinds 0).ok e) = vR0 e := by
  show (nameB e.name && dataOK e) = vR0 e
  unfold dataOK vR0 setR altR
  rw [name_eq, toList_beq, toList_beq, owner_eqR, owner_eqR]
  cases validB false e.name with
  | false => rfl
  | true =>
    rw [Bool.true_and, Bool.true_and]
    generalize altOK e.alt = p1
    generalize ownerR e.ds.volume = p2
    generalize ownerR e.ds.owner = p3
    unfold inB storedB dsNumsD dayB
    simp only [List.all_cons, List.all_nil, Bool.and_true]
    rw [Bool.eq_iff_iff]
    simp only [Bool.and_eq_true, decide_eq_true_eq]
    constructor
    · rintro ⟨h1, ⟨h2, h3⟩, h4, h5, h6, h7, h8, h9, h10, h11⟩
      refine ⟨⟨?_, ?_⟩, ⟨?_, ?_⟩, ?_⟩ <;> first | assumption | omega | skip
      all_goals (simp_all <;> omega)
    · rintro ⟨⟨h1, h2⟩, ⟨h3, h4⟩, h5⟩
      refine ⟨?_, ⟨?_, ?_⟩, ?_, ?_, ?_, ?_, ?_, ?_, ?_, ?_⟩ <;> first | assumption | omega | skip
      all_goals (simp_all <;> omega)
theorem ok1 (e : E) : ((kinds 1).nm e.name && (kinds 1).ok e) = vR1 e := by
  show (groupB e.name && groupOK e) = vR1 e
  unfold groupOK vR1
  rw [group_eq, owner_eqR]
  have h1 : inB 1 63 [e.limit] = (decide (1 ≤ e.limit) && decide (e.limit ≤ 63)) := by simp [inB]
  have h2 : inB 0 9999 [e.last] = (decide (0 ≤ e.last) && decide (e.last ≤ 9999)) := by simp [inB]
  rw [h1, h2]
  simp only [Bool.and_assoc]
theorem ok2 (e : E) : ((kinds 2).nm e.name && (kinds 2).ok e) = vR2 e := by
  show (aliasN e.name && aliasOK e) = vR2 e
  unfold aliasN aliasOK vR2
  rw [name_eq, name_eq, split_eq]
  simp only [Bool.and_assoc]
theorem ok3 (e : E) : ((kinds 3).nm e.name && (kinds 3).ok e) = vR3 e := by
  show (catN e.name && catOK e) = vR3 e
  unfold catN catOK vR3
  have h1 : inB 1 15 [e.catalog] = (decide (1 ≤ e.catalog) && decide (e.catalog ≤ 15)) := by simp [inB]
  have h2 : decide ((Lib.countByte e.name.data.toList 46 : Int) < 2) = decide (((spB e.name.data.toList).length : Int) ≤ 2) := by
    rw [Bool.eq_iff_iff, decide_eq_true_eq, decide_eq_true_eq, show (spB e.name.data.toList).length = (sp e.name.data.toList).length by simp [spB], sp_count]
    unfold Lib.countByte
    omega
  rw [name_eq, h1, h2]
  simp only [Bool.and_assoc]
theorem ok4 (e : E) : ((kinds 4).nm e.name && (kinds 4).ok e) = vR4 e := by
  show (patB e.name && profOK e) = vR4 e
  unfold profOK vR4
  rw [pat_eq, inB_level, owner_eqR, ← grants_eq]
  cases validB true e.name <;> cases levelB e.level <;> cases ownerR e.owner <;> cases grsOK e.grants [] <;> cases decide ((e.grants.length : Int) ≤ 8) <;> rfl
/-- An entry is valid for the one exactly if it is for the other. -/
theorem valid_eq (e : E) : validE e = validR e := by
  have key : ∀ i : Nat, i < 5 → e.kind = (i : Int) → ∀ v, ((kinds i).nm e.name && (kinds i).ok e) = v → vRk e = v → validE e = validR e := by
    intro i hi hk v h1 h2
    rw [validE_kind hi hk, valid_uses hi hk, validR, h2, ← Bool.and_assoc, h1, Bool.and_comm]
    congr 1
    rw [Bool.eq_iff_iff, decide_eq_true_eq, decide_eq_true_eq]
    exact ⟨fun h => h.symm, fun h => h.symm⟩
  cases hK : isKind e.kind with
  | true =>
    obtain ⟨i, hi, hk⟩ := isKind_yes hK
    rcases (by omega : i = 0 ∨ i = 1 ∨ i = 2 ∨ i = 3 ∨ i = 4) with rfl | rfl | rfl | rfl | rfl
    · exact key 0 hi hk _ (ok0 e) (by unfold vRk; rw [if_pos (by rw [hk]; rfl)])
    · exact key 1 hi hk _ (ok1 e) (by unfold vRk; rw [if_neg (by rw [hk]; decide), if_pos (by rw [hk]; rfl)])
    · exact key 2 hi hk _ (ok2 e) (by unfold vRk; rw [if_neg (by rw [hk]; decide), if_neg (by rw [hk]; decide), if_pos (by rw [hk]; rfl)])
    · exact key 3 hi hk _ (ok3 e) (by unfold vRk; rw [if_neg (by rw [hk]; decide), if_neg (by rw [hk]; decide), if_neg (by rw [hk]; decide), if_pos (by rw [hk]; rfl)])
    · exact key 4 hi hk _ (ok4 e) (by unfold vRk; rw [if_neg (by rw [hk]; decide), if_neg (by rw [hk]; decide), if_neg (by rw [hk]; decide), if_neg (by rw [hk]; decide), if_pos (by rw [hk]; rfl)])
  | false =>
    have hno : ¬ (0 ≤ e.kind ∧ e.kind ≤ 4) := by simpa [isKind] using hK
    have h1 : validE e = false := by unfold validE; rw [hK]; rfl
    have h2 : vRk e = false := by unfold vRk; rw [if_neg (by omega), if_neg (by omega), if_neg (by omega), if_neg (by omega), if_neg (by omega)]
    rw [h1, validR, h2, Bool.and_false]
end Go.Proofs.YtlkkiimmangplaaGreatDoor

/- Numbers, truths and texts, as the reference writes them. -/
namespace Go.Proofs.YtlkkiimmangplaaGreatDoor
open Go.RowKit
set_option linter.unusedVariables false
set_option linter.unusedSimpArgs false

section
variable {w0 : World} {n : Nat} {ops : Array Oper} {Q : Exit → Act → World → Prop} {o : Oper} {rest : List Oper} {ρ : Env} {H : List It}
variable {d : Nat} {ty t t' : TypeId} {pos : String} {af : Array Edge} {g : Option (Nat × Bool)} {x y z : Operand} {v u : Value}
theorem P.remK {i : IntKind} {p q : Int} (hx : ev ρ x = some (.int i p)) (hy : ev ρ y = some (.int i q)) (hp : 0 ≤ p) (hq : 0 < q) : Pure w0 n ρ H ⟨some d, .binOp .rem t x y t', ty, pos, af, g⟩ (.int i (p % q)) := fun a w hf _ => by
  have h1 : ¬ q = 0 := by omega
  have h2 : p.tmod q = p % q := Int.tmod_eq_emod_of_nonneg hp
  simp [execOp, hf.eval hx, hf.eval hy, eqGuard, binOp, Op.intDiv, h1, h2]
theorem P.quoU {p q : Int} (hx : ev ρ x = some (.int .u64 p)) (hy : ev ρ y = some (.int .u64 q)) (hp : 0 ≤ p) (hp' : p < 18446744073709551616) (hq : 0 < q) : Pure w0 n ρ H ⟨some d, .binOp .quo t x y t', ty, pos, af, g⟩ (.int .u64 (p / q)) := fun a w hf _ => by
  have h1 : ¬ q = 0 := by omega
  have h2 : p.tdiv q = p / q := Int.tdiv_eq_ediv_of_nonneg hp
  have h3 : p / q ≤ p := Int.ediv_le_self q hp
  have h4 : 0 ≤ p / q := Int.ediv_nonneg hp (by omega)
  have h5 : IntKind.u64.wrap (p / q) = p / q := wrap_u64 h4 (by omega)
  simp [execOp, hf.eval hx, hf.eval hy, eqGuard, binOp, Op.intDiv, h1, h2, h5]
end
theorem wrapU8 {p : Int} (h0 : 0 ≤ p) (h1 : p < 256) : IntKind.u8.wrap p = p := by
  have e : IntKind.u8.wrap p = p % 256 := rfl
  rw [e]; omega
theorem strOfNums_app (a b : List Int) : strOfNums (a ++ b) = strOfNums a ++ strOfNums b := by
  apply eq_of_data
  rw [data_append, strOfNums_data, strOfNums_data, strOfNums_data, List.map_append]

set_option maxRecDepth 100000 in
theorem refNum_step (f : Nat) (n : Int) (w : World) (hf : f ≤ 8) (hn : 0 ≤ n ∧ n < 18446744073709551616) (ih : 128 ≤ n → ∀ w, Calls Tryz.prog 248 #[.int .u64 (n / 128)] w (RetV w (.string (strOfNums (encF f (n / 128)))))) :
    Calls Tryz.prog 248 #[.int .u64 n] w (RetV w (.string (strOfNums (encF (f + 1) n)))) := by
  have hlen := encF_len f (n / 128)
  refine enter Tryz.func248 rfl Tryz.ntmps248 rfl ?_
  refine WC.seq ?_
  refine WC.region ?_
  refine WL.p rfl rfl rfl (P.assign rfl) ?_
  refine WL.nil_ ?_
  refine End.seq ?_
  refine WC.seq ?_
  refine WC.seq ?_
  refine WC.region ?_
  refine WL.p rfl rfl rfl (P.move rfl) ?_
  refine WL.p rfl rfl rfl (P.cmp rfl rfl rfl) ?_
  refine WL.nil_ ?_
  refine End.seq ?_
  refine WC.cond rfl (fun hc4 => ?_) (fun hc4 => ?_)
  ·
    have hsm := of_decide_eq_true hc4
    refine WC.seq ?_
    refine WC.region ?_
    refine WL.p rfl rfl rfl (P.move rfl) ?_
    refine WL.p rfl rfl rfl (P.conv (by kernel_rfl) Tryz.underlying5 rfl (wrapU8 (by omega) (by omega))) ?_
    refine WL.row Tryz.underlying47 Tryz.sizeOf5 Tryz.zeroValue5 rfl rfl rfl rfl rfl rfl rfl rfl rfl (fun b7 => ?_)
    refine WL.p rfl rfl rfl (P.bytesOwn 0 (xs := [n]) Tryz.underlying47 Tryz.underlying5 Tryz.underlying9 rfl rfl rfl (fun i hi => by match i, hi with | 0, _ => rfl)) ?_
    refine WL.p rfl rfl rfl (P.assign rfl) ?_
    refine WL.nil_ ?_
    refine End.seq ?_
    refine WC.ret ?_
    refine End.thenR ?_
    refine End.ret1 rfl rfl ?_
    exact fun w' hs' => RetV.of (by rw [encF_small hsm]) hs'
  ·
    have hbig : 128 ≤ n := by have := of_decide_eq_false hc4; omega
    refine WC.skip ?_
    refine End.seq ?_
    refine WC.seq ?_
    refine WC.nil1 ?_
    apply WC.draws2 (al := [4]) (vs := [_, _, _, _, fun s => .slice (some ⟨(s 4).1, 0, none⟩) 1 1, _, _, _, _, _, _]) (Hs := fun v HH b s => (bnew (b 4) (It.blk (s 4).1 5 #[.int .u8 (n % 128 + 128)]) HH 0)) (by kernel_rfl) (by kernel_rfl) (by kernel_rfl)
    case steps =>
      refine Stps2.cons (Stp.p (fun b s hd => ⟨_, ⟨rfl, P.move rfl⟩, rfl, rfl⟩)) ?_
      refine Stps2.cons (Stp.p (fun b s hd => ⟨_, ⟨rfl, P.remK rfl rfl (by omega) (by omega)⟩, rfl, rfl⟩)) ?_
      refine Stps2.cons (Stp.p (fun b s hd => ⟨_, ⟨rfl, P.ari rfl rfl rfl⟩, rfl, rfl⟩)) ?_
      refine Stps2.cons (Stp.p (fun b s hd => ⟨_, ⟨rfl, P.conv (by kernel_rfl) Tryz.underlying5 rfl (show IntKind.u8.wrap (IntKind.u64.wrap (n % 128 + 128)) = n % 128 + 128 by rw [wrap_u64 (by omega) (by omega)]; exact wrapU8 (by omega) (by omega))⟩, rfl, rfl⟩)) ?_
      refine Stps2.cons (Stp.row 0 rfl (fun b s => ⟨rfl, _, _, rfl, fun w => by refine run_rowL Tryz.underlying47 Tryz.sizeOf5 Tryz.zeroValue5 ?_ ?_ ?_ ?_ ?_ ?_ w <;> rfl, fun q => ⟨rfl, _, rfl, fun hb => rfl⟩⟩)) ?_
      refine Stps2.cons (Stp.on [4] (by kernel_rfl) (Stp.p (fun b s' hd => ⟨_, ⟨rfl, P.bytesOwn 0 (xs := [n % 128 + 128]) Tryz.underlying47 Tryz.underlying5 Tryz.underlying9 rfl rfl rfl (fun i hi => by match i, hi with | 0, _ => rfl)⟩, rfl, rfl⟩))) ?_
      refine Stps2.cons (Stp.p (fun b s hd => ⟨_, ⟨rfl, P.move rfl⟩, rfl, rfl⟩)) ?_
      refine Stps2.cons (Stp.p (fun b s hd => ⟨_, ⟨rfl, P.quoU rfl rfl (by omega) (by omega) (by omega)⟩, rfl, rfl⟩)) ?_
      refine Stps2.cons (Stp.callv (ent_of Tryz.func248 rfl rfl) (fun b s hd => ⟨_, _, rfl, rfl, fun w hs => ih hbig w, rfl, rfl⟩)) ?_
      refine Stps2.cons (Stp.p (fun b s hd => ⟨_, ⟨rfl, P.cat rfl rfl (by rw [strOfNums_size, strOfNums_size]; simp; omega)⟩, rfl, rfl⟩)) ?_
      refine Stps2.cons (Stp.p (fun b s hd => ⟨_, ⟨rfl, P.assign rfl⟩, rfl, rfl⟩)) ?_
      exact Stps2.nil
    case h0 => exact fun s => rfl
    case agree => exact AgrAll.cons (AgrL.no (fun s x => rfl) (AgrL.no (fun s x => rfl) (AgrL.no (fun s x => rfl) (AgrL.no (fun s x => rfl) (AgrL.yes (by kernel_rfl) (AgrL.yes (by kernel_rfl) (AgrL.no (fun s x => rfl) (AgrL.no (fun s x => rfl) (AgrL.no (fun s x => rfl) (AgrL.yes (by kernel_rfl) (AgrL.yes (by kernel_rfl) (AgrL.nil)))))))))))) (AgrAll.nil)
    intro s3
    refine End.shapeD (by kernel_rfl) (new := [(2, _), (9, _), (10, _), (11, _), (12, _), (13, _), (14, _), (15, _), (16, _), (17, _), (18, _)]) (H' := [_]) (Env.sub_cons rfl (Env.sub_cons rfl (Env.sub_cons rfl (Env.sub_cons rfl (Env.sub_cons rfl (Env.sub_cons rfl (Env.sub_cons rfl (Env.sub_cons rfl (Env.sub_cons rfl (Env.sub_cons rfl (Env.sub_cons rfl (Env.sub_nil)))))))))))) rfl ?_
    refine End.seq ?_
    refine WC.ret ?_
    refine End.ret1 rfl rfl ?_
    exact fun w' hs' => RetV.of (by rw [encF_big hbig, ← strOfNums_app]; rfl) hs'

theorem refNum_any : ∀ (f : Nat) (n : Int) (w : World), f ≤ 9 → 0 ≤ n → n < 18446744073709551616 → n < 128 ^ (f + 1) → Calls Tryz.prog 248 #[.int .u64 n] w (RetV w (.string (strOfNums (encF f n))))
  | 0, n, w, hf, h0, h1, h2 => by
    have h := refNum_step 0 n w (by decide) ⟨h0, h1⟩ (fun h => absurd h (by omega))
    rw [encF_small (by omega)] at h
    rw [encF_small (by omega)]
    exact h
  | f + 1, n, w, hf, h0, h1, h2 => refNum_step f n w (by omega) ⟨h0, h1⟩ (fun hb w => refNum_any f (n / 128) w (by omega) (by omega) (by omega) (by rw [Int.pow_succ] at h2; omega))
theorem refNum9 (n : Int) (w : World) (h0 : 0 ≤ n) (h1 : n < 18446744073709551616) : Calls Tryz.prog 248 #[.int .u64 n] w (RetV w (.string (nB n))) := refNum_any 9 n w (by decide) h0 h1 (by omega)
theorem tB_t : (⟨#[1]⟩ : ByteArray) = tB true := by decide
theorem tB_f : (⟨#[0]⟩ : ByteArray) = tB false := by decide
theorem nCat_snoc {l : List Int} {k : Nat} {x : Int} (h : l[k]? = some x) : nCat (l.take (k + 1)) = nCat (l.take k) ++ nB x := by
  rw [take_snoc h]
  induction l.take k with
  | nil => show nB x ++ bempty = bempty ++ nB x; rw [app_emp, emp_app]
  | cons y r ih => show nB y ++ nCat (r ++ [x]) = (nB y ++ nCat r) ++ nB x; rw [ih, ByteArray.append_assoc]
theorem nB_le10 (x : Int) : (nB x).size ≤ 10 := by rw [strOfNums_size]; exact encF_len 9 x
theorem nCat_le10 : ∀ l : List Int, (nCat l).size ≤ 10 * l.length
  | [] => by decide
  | x :: r => by
    have h1 := nB_le10 x
    have h2 := nCat_le10 r
    show (nB x ++ nCat r).size ≤ _
    rw [size_append, List.length_cons]; omega

set_option maxRecDepth 100000 in
theorem refBool_any (b : Bool) (w : World) :
    Calls Tryz.prog 226 #[.bool b] w (RetV w (.string (tB b))) := by
  refine enter Tryz.func226 rfl Tryz.ntmps226 rfl ?_
  refine WC.seq ?_
  refine WC.region ?_
  refine WL.p rfl rfl rfl (P.assign rfl) ?_
  refine WL.nil_ ?_
  refine End.seq ?_
  refine WC.seq ?_
  refine WC.seq ?_
  refine WC.region ?_
  refine WL.p rfl rfl rfl (P.move rfl) ?_
  refine WL.nil_ ?_
  refine End.seq ?_
  refine WC.cond rfl (fun hc3 => ?_) (fun hc3 => ?_)
  ·
    refine WC.seq ?_
    refine WC.region ?_
    refine WL.p rfl rfl rfl (P.assign rfl) ?_
    refine WL.nil_ ?_
    refine End.seq ?_
    refine WC.ret ?_
    refine End.thenR ?_
    refine End.ret1 rfl rfl ?_
    exact fun w' hs' => RetV.of (by rw [hc3, ← tB_t]) hs'
  ·
    refine WC.skip ?_
    refine End.seq ?_
    refine WC.seq ?_
    refine WC.region ?_
    refine WL.p rfl rfl rfl (P.assign rfl) ?_
    refine WL.nil_ ?_
    refine End.seq ?_
    refine WC.ret ?_
    refine End.ret1 rfl rfl ?_
    exact fun w' hs' => RetV.of (by rw [hc3, ← tB_f]) hs'

set_option maxRecDepth 100000 in
theorem refText_any (s : ByteArray) (w : World) (hs : s.size < 4294967296) :
    Calls Tryz.prog 171 #[.string s] w (RetV w (.string (encText s))) := by
  have hn := nB_le10 (s.size : Int)
  refine enter Tryz.func171 rfl Tryz.ntmps171 rfl ?_
  refine WC.seq ?_
  refine WC.region ?_
  refine WL.p rfl rfl rfl (P.assign rfl) ?_
  refine WL.nil_ ?_
  refine End.seq ?_
  refine WC.seq ?_
  refine WC.region ?_
  refine WL.p rfl rfl rfl (P.move rfl) ?_
  refine WL.p rfl rfl rfl (P.lenS Tryz.underlying9 rfl) ?_
  refine WL.p rfl rfl rfl (P.conv (by kernel_rfl) Tryz.underlying255 rfl (wrap_u64 (by omega) (by omega))) ?_
  refine WL.callv (ent_of Tryz.func248 rfl rfl) rfl rfl rfl (fun w hs => refNum9 s.size w (by omega) (by omega)) ?_
  refine WL.p rfl rfl rfl (P.move rfl) ?_
  refine WL.p rfl rfl rfl (P.cat rfl rfl (by omega)) ?_
  refine WL.p rfl rfl rfl (P.assign rfl) ?_
  refine WL.nil_ ?_
  refine End.seq ?_
  refine WC.ret ?_
  refine End.ret1 rfl rfl ?_
  exact fun w' hs' => RetV.of rfl hs'

set_option maxRecDepth 100000 in
theorem refNums_any (A : Option Addr) (c : Nat) (l : List Int) (w : World) (hr : Sl encI 1 w A l) (hl : ∀ x ∈ l, 0 ≤ x ∧ x < 9223372036854775808) (hn : l.length ≤ 1000) :
    Calls Tryz.prog 225 #[.slice A l.length c] w (RetV w (.string (nCat l))) := by
  refine enter Tryz.func225 rfl Tryz.ntmps225 rfl ?_
  refine WC.seq ?_
  refine WC.region ?_
  refine WL.p rfl rfl rfl (P.assign rfl) ?_
  refine WL.nil_ ?_
  refine End.seq ?_
  refine WC.seq ?_
  refine WC.region ?_
  refine WL.p rfl rfl rfl (P.assign rfl) ?_
  refine WL.nil_ ?_
  refine End.seq ?_
  refine WC.seq ?_
  refine WC.seq ?_
  refine WC.region ?_
  refine WL.p rfl rfl rfl (P.assign rfl) ?_
  refine WL.nil_ ?_
  refine End.seq ?_
  refine WC.block ?_
  refine WC.loopD (σ := Nat) (fun k => [(4, .int .i64 (k : Nat)), (3, .string (nCat (l.take k)))]) (fun k => []) (fun k => k ≤ l.length) (fun k => l.length - k) 0 (Nat.zero_le _) (Env.sub_cons rfl (Env.sub_cons rfl (Env.sub_nil))) [] rfl rfl ?_
  rintro k hk
  refine WC.seq ?_
  refine WC.seq ?_
  refine WC.region ?_
  refine WL.p rfl rfl rfl (P.move rfl) ?_
  refine WL.p rfl rfl rfl (P.move rfl) ?_
  refine WL.p rfl rfl rfl (P.lenR Tryz.underlying22 rfl) ?_
  refine WL.p rfl rfl rfl (P.cmp rfl rfl rfl) ?_
  refine WL.nil_ ?_
  refine End.seq ?_
  refine WC.cond rfl (fun hc8 => ?_) (fun hc8 => ?_)
  ·
    have hkl : k < l.length := by have := of_decide_eq_true hc8; omega
    obtain ⟨b, off, rfl, hcx⟩ := hr.at_ (by omega)
    obtain ⟨x, hx⟩ := get_of_lt hkl
    have hxb := hl x (List.mem_of_getElem? hx)
    have hz1 := nCat_le10 (l.take k)
    have hz2 := nB_le10 x
    have hz3 : (l.take k).length ≤ l.length := by simp; omega
    refine WC.skip ?_
    refine End.seq ?_
    refine WC.seq ?_
    refine WC.block ?_
    refine WC.region ?_
    refine WL.p rfl rfl rfl (P.move rfl) ?_
    refine WL.p rfl rfl rfl (P.move rfl) ?_
    refine WL.p rfl rfl rfl (P.move rfl) ?_
    refine WL.p rfl rfl rfl (P.elemAddr Tryz.underlying22 Tryz.sizeOf3 rfl rfl (by omega) (by omega)) ?_
    refine WL.p rfl rfl rfl (P.loadB Tryz.isAgg3 rfl (hcx k x hx 0 _ rfl)) ?_
    refine WL.p rfl rfl rfl (P.conv (by kernel_rfl) Tryz.underlying255 rfl (wrap_u64 (by omega) (by omega))) ?_
    refine WL.callv (ent_of Tryz.func248 rfl rfl) rfl rfl rfl (fun w hs => refNum9 x w (by omega) (by omega)) ?_
    refine WL.p rfl rfl rfl (P.cat rfl rfl (by omega)) ?_
    refine WL.p rfl rfl rfl (P.assign rfl) ?_
    refine WL.nil_ ?_
    refine End.blkN ?_
    refine End.seq ?_
    refine WC.region ?_
    refine WL.p rfl rfl rfl (P.move rfl) ?_
    refine WL.p rfl rfl rfl (P.ari64 rfl rfl rfl (by omega)) ?_
    refine WL.p rfl rfl rfl (P.assign rfl) ?_
    refine WL.nil_ ?_
    refine End.againD (k + 1) ?_ ?_ rfl (Env.sub_cons rfl (Env.sub_cons (by rw [nCat_snoc hx]; rfl) Env.sub_nil)) rfl [] rfl rfl
    · show k + 1 ≤ l.length; omega
    · show l.length - (k + 1) < l.length - k; omega
  ·
    have ek : k = l.length := by have := of_decide_eq_false hc8; omega
    refine WC.exit ?_
    refine End.thenX ?_
    refine End.thenX ?_
    refine End.blkX ?_
    refine End.seq ?_
    refine WC.seq ?_
    refine WC.region ?_
    refine WL.p rfl rfl rfl (P.move rfl) ?_
    refine WL.p rfl rfl rfl (P.assign rfl) ?_
    refine WL.nil_ ?_
    refine End.seq ?_
    refine WC.ret ?_
    refine End.ret1 rfl rfl ?_
    exact fun w' hs' => RetV.of (by rw [ek, List.take_length]) hs'

end Go.Proofs.YtlkkiimmangplaaGreatDoor

/- Keys, as the reference writes them. -/
namespace Go.Proofs.YtlkkiimmangplaaGreatDoor
open Go.RowKit
set_option linter.unusedVariables false
set_option linter.unusedSimpArgs false

theorem letter_cut {k : Int} (h : 0 ≤ k ∧ k ≤ 4) : (⟨#[68, 71, 65, 67, 80]⟩ : ByteArray).extract k.toNat (k + 1).toNat = strOfNums [(kindAt k).L] := by
  rcases (by omega : k = 0 ∨ k = 1 ∨ k = 2 ∨ k = 3 ∨ k = 4) with rfl | rfl | rfl | rfl | rfl <;> decide
theorem blanks_snoc (n : Nat) : blanks n ++ ⟨#[32]⟩ = blanks (n + 1) := by
  apply eq_of_data
  rw [data_append, blanks_data, blanks_data, List.replicate_succ', ]
theorem blanks_0 : blanks 0 = bempty := by decide
theorem keyE_in {k : Int} {s : ByteArray} (h : 0 ≤ k ∧ k ≤ 4) (hs : s.size ≤ 31) : keyE k s = strOfNums [(kindAt k).L] ++ s ++ blanks (31 - s.size) := by
  unfold keyE KF.key
  rw [if_pos (by unfold isKind; rw [decide_eq_true h.1, decide_eq_true h.2]; rfl), if_neg (by omega)]
theorem keyE_out {k : Int} {s : ByteArray} (h : k < 0 ∨ 4 < k ∨ 31 < s.size) : keyE k s = ⟨#[]⟩ := by
  unfold keyE KF.key isKind
  split
  · rename_i hk
    rw [Bool.and_eq_true, decide_eq_true_eq, decide_eq_true_eq] at hk
    rw [if_pos (by omega)]
  · rfl

set_option maxRecDepth 100000 in
theorem refKey_any (k : Int) (s : ByteArray) (w : World) :
    Calls Tryz.prog 50 #[.int .i64 k, .string s] w (RetV w (.string (keyE k s))) := by
  refine enter Tryz.func50 rfl Tryz.ntmps50 rfl ?_
  refine WC.seq ?_
  refine WC.region ?_
  refine WL.p rfl rfl rfl (P.assign rfl) ?_
  refine WL.nil_ ?_
  refine End.seq ?_
  refine WC.seq ?_
  refine WC.seq ?_
  refine WC.region ?_
  refine WL.p rfl rfl rfl (P.move rfl) ?_
  refine WL.p rfl rfl rfl (P.cmp rfl rfl rfl) ?_
  refine WL.p rfl rfl rfl (P.move rfl) ?_
  refine WL.split 8 rfl (fun hs8 => ?_) (fun hs8 => ?_)
  ·
    refine WL.off rfl rfl ?_
    refine WL.off rfl rfl ?_
    refine WL.p rfl rfl rfl (P.pickT rfl rfl) ?_
    refine WL.p rfl rfl rfl (P.move rfl) ?_
    refine WL.off rfl rfl ?_
    refine WL.off rfl rfl ?_
    refine WL.off rfl rfl ?_
    refine WL.p rfl rfl rfl (P.pickT rfl rfl) ?_
    refine WL.nil_ ?_
    refine End.seq ?_
    refine WC.condT rfl ?_
    refine WC.seq ?_
    refine WC.region ?_
    refine WL.p rfl rfl rfl (P.assign rfl) ?_
    refine WL.nil_ ?_
    refine End.seq ?_
    refine WC.ret ?_
    refine End.thenR ?_
    refine End.ret1 rfl rfl ?_
    exact fun w' hs' => RetV.of (by rw [keyE_out (.inl (of_decide_eq_true hs8))]) hs'
  ·
    refine WL.p rfl rfl rfl (P.move rfl) ?_
    refine WL.p rfl rfl rfl (P.cmp rfl rfl rfl) ?_
    refine WL.p rfl rfl rfl (P.pickF rfl rfl) ?_
    refine WL.p rfl rfl rfl (P.move rfl) ?_
    refine WL.split 12 rfl (fun hs12 => ?_) (fun hs12 => ?_)
    ·
      refine WL.off rfl rfl ?_
      refine WL.off rfl rfl ?_
      refine WL.off rfl rfl ?_
      refine WL.p rfl rfl rfl (P.pickT rfl rfl) ?_
      refine WL.nil_ ?_
      refine End.seq ?_
      refine WC.condT rfl ?_
      refine WC.seq ?_
      refine WC.region ?_
      refine WL.p rfl rfl rfl (P.assign rfl) ?_
      refine WL.nil_ ?_
      refine End.seq ?_
      refine WC.ret ?_
      refine End.thenR ?_
      refine End.ret1 rfl rfl ?_
      exact fun w' hs' => RetV.of (by rw [keyE_out (.inr (.inl (of_decide_eq_true hs12)))]) hs'
    ·
      refine WL.p rfl rfl rfl (P.move rfl) ?_
      refine WL.p rfl rfl rfl (P.lenS Tryz.underlying9 rfl) ?_
      refine WL.p rfl rfl rfl (P.cmp rfl rfl rfl) ?_
      refine WL.p rfl rfl rfl (P.pickF rfl rfl) ?_
      refine WL.nil_ ?_
      refine End.seq ?_
      refine WC.cond rfl (fun hc16 => ?_) (fun hc16 => ?_)
      ·
        refine WC.seq ?_
        refine WC.region ?_
        refine WL.p rfl rfl rfl (P.assign rfl) ?_
        refine WL.nil_ ?_
        refine End.seq ?_
        refine WC.ret ?_
        refine End.thenR ?_
        refine End.ret1 rfl rfl ?_
        exact fun w' hs' => RetV.of (by rw [keyE_out (.inr (.inr (by have := of_decide_eq_true hc16; omega)))]) hs'
      ·
        have h1 := of_decide_eq_false hs8
        have h2 := of_decide_eq_false hs12
        have h3 := of_decide_eq_false hc16
        have hk : 0 ≤ k ∧ k ≤ 4 := by omega
        have hlc := letter_cut hk
        have hz : (strOfNums [(kindAt k).L] ++ s).size = 1 + s.size := by rw [size_append, strOfNums_size]; rfl
        refine WC.skip ?_
        refine End.seq ?_
        refine WC.seq ?_
        refine WC.region ?_
        refine WL.p rfl rfl rfl (P.move rfl) ?_
        refine WL.p rfl rfl rfl (P.move rfl) ?_
        refine WL.p rfl rfl rfl (P.ari64 rfl rfl rfl (by omega)) ?_
        refine WL.p rfl rfl rfl (P.subLH Tryz.underlying9 rfl rfl rfl (by omega) (by omega) (by show k + 1 ≤ 5; omega)) ?_
        refine WL.p rfl rfl rfl (P.move rfl) ?_
        refine WL.p rfl rfl rfl (P.cat rfl rfl (by rw [hlc, strOfNums_size]; show 1 + s.size ≤ _; omega)) ?_
        refine WL.p rfl rfl rfl (P.assign rfl) ?_
        refine WL.nil_ ?_
        refine End.seq ?_
        refine WC.seq ?_
        refine WC.block ?_
        refine WC.loopD (σ := Nat) (fun m => [(5, .string (strOfNums [(kindAt k).L] ++ s ++ blanks m))]) (fun m => []) (fun m => 1 + s.size + m ≤ 32) (fun m => 32 - m) 0 (by omega) (Env.sub_cons (by rw [blanks_0, app_emp, ← hlc]; rfl) Env.sub_nil) [] rfl rfl ?_
        rintro m hm
        refine WC.seq ?_
        refine WC.seq ?_
        refine WC.region ?_
        refine WL.p rfl rfl rfl (P.move rfl) ?_
        refine WL.p rfl rfl rfl (P.lenS Tryz.underlying9 rfl) ?_
        refine WL.p rfl rfl rfl (P.cmp rfl rfl rfl) ?_
        refine WL.nil_ ?_
        refine End.seq ?_
        refine WC.cond rfl (fun hc25 => ?_) (fun hc25 => ?_)
        ·
          have hlt := of_decide_eq_true hc25
          have hbz := blanks_size m
          refine WC.skip ?_
          refine End.seq ?_
          refine WC.block ?_
          refine WC.region ?_
          refine WL.p rfl rfl rfl (P.move rfl) ?_
          refine WL.p rfl rfl rfl (P.cat rfl rfl (by show _ + 1 ≤ _; rw [size_append]; omega)) ?_
          refine WL.p rfl rfl rfl (P.assign rfl) ?_
          refine WL.nil_ ?_
          refine End.blkN ?_
          refine End.againD (m + 1) ?_ ?_ rfl (Env.sub_cons (by rw [← blanks_snoc, ← ByteArray.append_assoc]; rfl) Env.sub_nil) rfl [] rfl rfl
          · show 1 + s.size + (m + 1) ≤ 32; rw [size_append] at hlt; omega
          · show 32 - (m + 1) < 32 - m; omega
        ·
          have hge := of_decide_eq_false hc25
          have hbz := blanks_size m
          have em : m = 31 - s.size := by rw [size_append] at hge; omega
          refine WC.exit ?_
          refine End.thenX ?_
          refine End.thenX ?_
          refine End.blkX ?_
          refine End.seq ?_
          refine WC.seq ?_
          refine WC.region ?_
          refine WL.p rfl rfl rfl (P.move rfl) ?_
          refine WL.p rfl rfl rfl (P.assign rfl) ?_
          refine WL.nil_ ?_
          refine End.seq ?_
          refine WC.ret ?_
          refine End.ret1 rfl rfl ?_
          exact fun w' hs' => RetV.of (by rw [keyE_in hk (by omega), em]) hs'

end Go.Proofs.YtlkkiimmangplaaGreatDoor

/- The fields, as the reference writes them. -/
namespace Go.Proofs.YtlkkiimmangplaaGreatDoor
open Go.RowKit
set_option linter.unusedVariables false
set_option linter.unusedSimpArgs false

theorem nCat1 (x : Int) : nCat [x] = nB x := app_emp _
theorem nCat2 (x y : Int) : nCat [x, y] = nB x ++ nB y := by show nB x ++ (nB y ++ bempty) = _; rw [app_emp]
theorem gCat_snoc {l : List Gr} {k : Nat} {g : Gr} (h : l[k]? = some g) : gCat (l.take (k + 1)) = gCat (l.take k) ++ gB g := by
  rw [take_snoc h]
  induction l.take k with
  | nil => show gB g ++ bempty = bempty ++ gB g; rw [app_emp, emp_app]
  | cons y r ih => show gB y ++ gCat (r ++ [g]) = (gB y ++ gCat r) ++ gB g; rw [ih, ByteArray.append_assoc]
theorem out1 (e : E) : (kinds 1).out bempty e = nCat [e.limit, e.last] ++ tB e.empty ++ encText e.owner := by
  show grpOut bempty e.limit e.last e.empty e.owner = _
  unfold grpOut
  rw [emp_app, nCat2]
theorem out2 (e : E) : (kinds 2).out bempty e = encText e.target := emp_app _
theorem out3 (e : E) : (kinds 3).out bempty e = nCat [e.catalog] := by rw [nCat1]; exact emp_app _
theorem out4 (e : E) : (kinds 4).out bempty e = nCat [e.level] ++ encText e.owner ++ nCat [(e.grants.length : Int)] ++ gCat e.grants := by
  show profOut bempty e.level e.owner e.grants = _
  unfold profOut
  rw [gsOut_cat, emp_app, nCat1, nCat1]
theorem out0 (e : E) : (kinds 0).out bempty e = nCat (dsNumsD e.ds) ++ tB e.ds.unique ++ nCat [e.ds.cls] ++ encText e.ds.volume ++ encText e.ds.owner ++ nCat [e.ds.created, e.ds.expires] ++ tB e.ds.archived ++ nCat [(e.alt.length : Int)] ++ nCat e.alt ++ nCat [e.used] := by
  show dsOut bempty e = _
  unfold dsOut dsOut2 dsOut1
  rw [numsOut_cat, numsOut_cat, numsOut_cat, emp_app, nCat1, nCat1, nCat1, dsNums_D]
theorem gB_le {g : Gr} (h : g.who.size ≤ 31) : (gB g).size ≤ 60 := by
  have h1 := encText_size g.who
  have h2 := nB_le10 g.level
  have h3 := tB_size g.group
  unfold gB
  rw [size_append, size_append]
  omega
theorem gCat_le2 : ∀ l : List Gr, (∀ g ∈ l, g.who.size ≤ 31) → (gCat l).size ≤ 60 * l.length
  | [], _ => by decide
  | g :: r, h => by
    have h1 := gB_le (h g List.mem_cons_self)
    have h2 := gCat_le2 r (fun x hx => h x (List.mem_cons_of_mem _ hx))
    show (gB g ++ gCat r).size ≤ _
    rw [size_append, List.length_cons]; omega
theorem one_num {x : Int} (h : 0 ≤ x ∧ x < 9223372036854775808) : ∀ y ∈ [x], 0 ≤ y ∧ y < 9223372036854775808 := fun y hy => by rw [List.mem_singleton.1 hy]; exact h
theorem two_num {x z : Int} (h : 0 ≤ x ∧ x < 9223372036854775808) (h2 : 0 ≤ z ∧ z < 9223372036854775808) : ∀ y ∈ [x, z], 0 ≤ y ∧ y < 9223372036854775808 := fun y hy => by
  rcases List.mem_cons.1 hy with rfl | hy
  · exact h
  · rw [List.mem_singleton.1 hy]; exact h2

set_option maxRecDepth 100000 in
theorem refBody1_any (e : E) (va vg : Value) (w : World) (hk : e.kind = 1) (hok : groupOK e = true) (ha : EntAt w e va vg) :
    Calls Tryz.prog 141 #[.agg (e.cells va vg)] w (RetV w (.string ((kinds 1).out bempty e))) := by
  have ha0 := ha
  obtain ⟨⟨A1, c1, rfl, hc1, hr1⟩, ⟨A2, c2, rfl, hc2, hr2⟩⟩ := ha
  obtain ⟨hb1, hb2, hb3⟩ := groupOK_own hok
  have z1 := nB_le10 e.limit
  have z2 := nB_le10 e.last
  have z3 := tB_size e.empty
  have z4 := encText_size e.owner
  refine enter Tryz.func141 rfl Tryz.ntmps141 rfl ?_
  refine WC.seq ?_
  refine WC.region ?_
  refine WL.box rfl rfl rfl (fun b1 => ?_)
  refine WL.p rfl rfl rfl (P.assign rfl) ?_
  refine WL.nil_ ?_
  refine End.seq ?_
  refine WC.seq ?_
  refine WC.region ?_
  refine WL.p rfl rfl rfl (P.fieldAddr fa_34_2 rfl) ?_
  refine WL.p rfl rfl rfl (P.loadA 0 (vs := e.ds.cells) Tryz.isAgg31 Tryz.sizeOf31 rfl rfl rfl (E.ds_get e _ _)) ?_
  refine WL.alloc Tryz.zeroValue31 rfl rfl (fun b3 => ?_)
  refine WL.storeW 0 Tryz.sizeOf31 rfl rfl rfl rfl rfl rfl rfl ?_
  refine WL.nil_ ?_
  refine End.seq ?_
  refine WC.seq ?_
  refine WC.seq ?_
  refine WC.region ?_
  refine WL.p rfl rfl rfl (P.fieldAddr fa_34_0 rfl) ?_
  refine WL.p rfl rfl rfl (P.loadO 1 Tryz.isAgg3 rfl rfl rfl) ?_
  refine WL.nil_ ?_
  refine End.seq ?_
  refine WC.block ?_
  refine WC.seq ?_
  refine WC.region ?_
  refine WL.p rfl rfl rfl (P.cmp rfl rfl rfl) ?_
  refine WL.p rfl rfl rfl (P.assign rfl) ?_
  refine WL.nil_ ?_
  refine End.seq ?_
  refine WC.cond rfl (fun hc11 => ?_) (fun hc11 => ?_)
  ·
    exact absurd (show e.kind = 0 by simpa using hc11) (by omega)
  ·
    refine WC.seq ?_
    refine WC.region ?_
    refine WL.p rfl rfl rfl (P.cmp rfl rfl rfl) ?_
    refine WL.p rfl rfl rfl (P.assign rfl) ?_
    refine WL.nil_ ?_
    refine End.seq ?_
    refine WC.cond rfl (fun hc60 => ?_) (fun hc60 => ?_)
    ·
      refine WC.seq ?_
      refine WC.nil1 ?_
      apply WC.draws2 (al := [4]) (vs := [_, _, _, _, fun s => .slice (some ⟨(s 4).1, 0, none⟩) 2 2, _, _, _, _, _, _, _, _, _, _]) (Hs := fun v HH b s => (bnew (b 4) (It.blk (s 4).1 3 #[.int .i64 e.limit, .int .i64 e.last]) HH 0)) (by kernel_rfl) (by kernel_rfl) (by kernel_rfl)
      case steps =>
        refine Stps2.cons (Stp.p (fun b s hd => ⟨_, ⟨rfl, P.fieldAddr fa_34_5 rfl⟩, rfl, rfl⟩)) ?_
        refine Stps2.cons (Stp.p (fun b s hd => ⟨_, ⟨rfl, P.loadO 2 Tryz.isAgg3 rfl rfl rfl⟩, rfl, rfl⟩)) ?_
        refine Stps2.cons (Stp.p (fun b s hd => ⟨_, ⟨rfl, P.fieldAddr fa_34_6 rfl⟩, rfl, rfl⟩)) ?_
        refine Stps2.cons (Stp.p (fun b s hd => ⟨_, ⟨rfl, P.loadO 2 Tryz.isAgg3 rfl rfl rfl⟩, rfl, rfl⟩)) ?_
        refine Stps2.cons (Stp.row 0 rfl (fun b s => ⟨rfl, _, _, rfl, fun w => by refine run_rowL Tryz.underlying22 Tryz.sizeOf3 Tryz.zeroValue3 ?_ ?_ ?_ ?_ ?_ ?_ w <;> rfl, fun q => ⟨rfl, _, rfl, fun hb => rfl⟩⟩)) ?_
        refine Stps2.cons (Stp.on [4] (by kernel_rfl) (Stp.callv (ent_of Tryz.func225 rfl rfl) (fun b s hd => ⟨_, _, rfl, rfl, fun w hs => refNums_any _ _ [e.limit, e.last] w (slI_row hs (j := 0) rfl rfl (by simp)) (two_num (by omega) (by omega)) (by simp), rfl, rfl⟩))) ?_
        refine Stps2.cons (Stp.p (fun b s hd => ⟨_, ⟨rfl, P.fieldAddr fa_34_7 rfl⟩, rfl, rfl⟩)) ?_
        refine Stps2.cons (Stp.p (fun b s hd => ⟨_, ⟨rfl, P.loadO 2 Tryz.isAgg4 rfl rfl rfl⟩, rfl, rfl⟩)) ?_
        refine Stps2.cons (Stp.callv (ent_of Tryz.func226 rfl rfl) (fun b s hd => ⟨_, _, rfl, rfl, fun w hs => refBool_any e.empty w, rfl, rfl⟩)) ?_
        refine Stps2.cons (Stp.p (fun b s hd => ⟨_, ⟨rfl, P.cat rfl rfl (by simp only [size_append, nCat1, nCat2]; omega)⟩, rfl, rfl⟩)) ?_
        refine Stps2.cons (Stp.p (fun b s hd => ⟨_, ⟨rfl, P.fieldAddr fa_34_8 rfl⟩, rfl, rfl⟩)) ?_
        refine Stps2.cons (Stp.p (fun b s hd => ⟨_, ⟨rfl, P.loadO 2 Tryz.isAgg9 rfl rfl rfl⟩, rfl, rfl⟩)) ?_
        refine Stps2.cons (Stp.callv (ent_of Tryz.func171 rfl rfl) (fun b s hd => ⟨_, _, rfl, rfl, fun w hs => refText_any e.owner w (by omega), rfl, rfl⟩)) ?_
        refine Stps2.cons (Stp.p (fun b s hd => ⟨_, ⟨rfl, P.cat rfl rfl (by simp only [size_append, nCat1, nCat2]; omega)⟩, rfl, rfl⟩)) ?_
        refine Stps2.cons (Stp.p (fun b s hd => ⟨_, ⟨rfl, P.assign rfl⟩, rfl, rfl⟩)) ?_
        exact Stps2.nil
      case h0 => exact fun s => rfl
      case agree => exact AgrAll.cons (AgrL.no (fun s x => rfl) (AgrL.no (fun s x => rfl) (AgrL.no (fun s x => rfl) (AgrL.no (fun s x => rfl) (AgrL.yes (by kernel_rfl) (AgrL.yes (by kernel_rfl) (AgrL.no (fun s x => rfl) (AgrL.no (fun s x => rfl) (AgrL.yes (by kernel_rfl) (AgrL.yes (by kernel_rfl) (AgrL.no (fun s x => rfl) (AgrL.no (fun s x => rfl) (AgrL.yes (by kernel_rfl) (AgrL.yes (by kernel_rfl) (AgrL.yes (by kernel_rfl) (AgrL.nil)))))))))))))))) (AgrAll.nil)
      intro s7
      refine End.shapeD (by kernel_rfl) (new := [(2, _), (62, _), (63, _), (64, _), (65, _), (66, _), (67, _), (68, _), (69, _), (70, _), (71, _), (72, _), (73, _), (74, _), (75, _)]) (H' := [_, _, _]) (Env.sub_cons rfl (Env.sub_cons rfl (Env.sub_cons rfl (Env.sub_cons rfl (Env.sub_cons rfl (Env.sub_cons rfl (Env.sub_cons rfl (Env.sub_cons rfl (Env.sub_cons rfl (Env.sub_cons rfl (Env.sub_cons rfl (Env.sub_cons rfl (Env.sub_cons rfl (Env.sub_cons rfl (Env.sub_cons rfl (Env.sub_nil)))))))))))))))) rfl ?_
      refine End.seq ?_
      refine WC.ret ?_
      refine End.blkR ?_
      refine End.thenR ?_
      refine End.ret1 rfl rfl ?_
      exact fun w' hs' => RetV.of (by rw [out1]; first | done | rfl) hs'
    ·
      exact absurd hk (by simpa using hc60)

set_option maxRecDepth 100000 in
theorem refBody2_any (e : E) (va vg : Value) (w : World) (hk : e.kind = 2) (hok : aliasOK e = true) (ha : EntAt w e va vg) :
    Calls Tryz.prog 141 #[.agg (e.cells va vg)] w (RetV w (.string ((kinds 2).out bempty e))) := by
  have ha0 := ha
  obtain ⟨⟨A1, c1, rfl, hc1, hr1⟩, ⟨A2, c2, rfl, hc2, hr2⟩⟩ := ha
  have hl := aliasOK_lim hok
  refine enter Tryz.func141 rfl Tryz.ntmps141 rfl ?_
  refine WC.seq ?_
  refine WC.region ?_
  refine WL.box rfl rfl rfl (fun b1 => ?_)
  refine WL.p rfl rfl rfl (P.assign rfl) ?_
  refine WL.nil_ ?_
  refine End.seq ?_
  refine WC.seq ?_
  refine WC.region ?_
  refine WL.p rfl rfl rfl (P.fieldAddr fa_34_2 rfl) ?_
  refine WL.p rfl rfl rfl (P.loadA 0 (vs := e.ds.cells) Tryz.isAgg31 Tryz.sizeOf31 rfl rfl rfl (E.ds_get e _ _)) ?_
  refine WL.alloc Tryz.zeroValue31 rfl rfl (fun b3 => ?_)
  refine WL.storeW 0 Tryz.sizeOf31 rfl rfl rfl rfl rfl rfl rfl ?_
  refine WL.nil_ ?_
  refine End.seq ?_
  refine WC.seq ?_
  refine WC.seq ?_
  refine WC.region ?_
  refine WL.p rfl rfl rfl (P.fieldAddr fa_34_0 rfl) ?_
  refine WL.p rfl rfl rfl (P.loadO 1 Tryz.isAgg3 rfl rfl rfl) ?_
  refine WL.nil_ ?_
  refine End.seq ?_
  refine WC.block ?_
  refine WC.seq ?_
  refine WC.region ?_
  refine WL.p rfl rfl rfl (P.cmp rfl rfl rfl) ?_
  refine WL.p rfl rfl rfl (P.assign rfl) ?_
  refine WL.nil_ ?_
  refine End.seq ?_
  refine WC.cond rfl (fun hc11 => ?_) (fun hc11 => ?_)
  ·
    exact absurd (show e.kind = 0 by simpa using hc11) (by omega)
  ·
    refine WC.seq ?_
    refine WC.region ?_
    refine WL.p rfl rfl rfl (P.cmp rfl rfl rfl) ?_
    refine WL.p rfl rfl rfl (P.assign rfl) ?_
    refine WL.nil_ ?_
    refine End.seq ?_
    refine WC.cond rfl (fun hc60 => ?_) (fun hc60 => ?_)
    ·
      exact absurd (show e.kind = 1 by simpa using hc60) (by omega)
    ·
      refine WC.seq ?_
      refine WC.region ?_
      refine WL.p rfl rfl rfl (P.cmp rfl rfl rfl) ?_
      refine WL.p rfl rfl rfl (P.assign rfl) ?_
      refine WL.nil_ ?_
      refine End.seq ?_
      refine WC.cond rfl (fun hc76 => ?_) (fun hc76 => ?_)
      ·
        refine WC.seq ?_
        refine WC.region ?_
        refine WL.p rfl rfl rfl (P.fieldAddr fa_34_9 rfl) ?_
        refine WL.p rfl rfl rfl (P.loadO 1 Tryz.isAgg9 rfl rfl rfl) ?_
        refine WL.callv (ent_of Tryz.func171 rfl rfl) rfl rfl rfl (fun w hs => refText_any e.target w (by omega)) ?_
        refine WL.p rfl rfl rfl (P.assign rfl) ?_
        refine WL.nil_ ?_
        refine End.seq ?_
        refine WC.ret ?_
        refine End.blkR ?_
        refine End.thenR ?_
        refine End.ret1 rfl rfl ?_
        exact fun w' hs' => RetV.of (by rw [out2]; first | done | rfl) hs'
      ·
        exact absurd hk (by simpa using hc76)

set_option maxRecDepth 100000 in
theorem refBody3_any (e : E) (va vg : Value) (w : World) (hk : e.kind = 3) (hok : catOK e = true) (ha : EntAt w e va vg) :
    Calls Tryz.prog 141 #[.agg (e.cells va vg)] w (RetV w (.string ((kinds 3).out bempty e))) := by
  have ha0 := ha
  obtain ⟨⟨A1, c1, rfl, hc1, hr1⟩, ⟨A2, c2, rfl, hc2, hr2⟩⟩ := ha
  have hl := inB_one (show inB 1 15 [e.catalog] = true from hok)
  refine enter Tryz.func141 rfl Tryz.ntmps141 rfl ?_
  refine WC.seq ?_
  refine WC.region ?_
  refine WL.box rfl rfl rfl (fun b1 => ?_)
  refine WL.p rfl rfl rfl (P.assign rfl) ?_
  refine WL.nil_ ?_
  refine End.seq ?_
  refine WC.seq ?_
  refine WC.region ?_
  refine WL.p rfl rfl rfl (P.fieldAddr fa_34_2 rfl) ?_
  refine WL.p rfl rfl rfl (P.loadA 0 (vs := e.ds.cells) Tryz.isAgg31 Tryz.sizeOf31 rfl rfl rfl (E.ds_get e _ _)) ?_
  refine WL.alloc Tryz.zeroValue31 rfl rfl (fun b3 => ?_)
  refine WL.storeW 0 Tryz.sizeOf31 rfl rfl rfl rfl rfl rfl rfl ?_
  refine WL.nil_ ?_
  refine End.seq ?_
  refine WC.seq ?_
  refine WC.seq ?_
  refine WC.region ?_
  refine WL.p rfl rfl rfl (P.fieldAddr fa_34_0 rfl) ?_
  refine WL.p rfl rfl rfl (P.loadO 1 Tryz.isAgg3 rfl rfl rfl) ?_
  refine WL.nil_ ?_
  refine End.seq ?_
  refine WC.block ?_
  refine WC.seq ?_
  refine WC.region ?_
  refine WL.p rfl rfl rfl (P.cmp rfl rfl rfl) ?_
  refine WL.p rfl rfl rfl (P.assign rfl) ?_
  refine WL.nil_ ?_
  refine End.seq ?_
  refine WC.cond rfl (fun hc11 => ?_) (fun hc11 => ?_)
  ·
    exact absurd (show e.kind = 0 by simpa using hc11) (by omega)
  ·
    refine WC.seq ?_
    refine WC.region ?_
    refine WL.p rfl rfl rfl (P.cmp rfl rfl rfl) ?_
    refine WL.p rfl rfl rfl (P.assign rfl) ?_
    refine WL.nil_ ?_
    refine End.seq ?_
    refine WC.cond rfl (fun hc60 => ?_) (fun hc60 => ?_)
    ·
      exact absurd (show e.kind = 1 by simpa using hc60) (by omega)
    ·
      refine WC.seq ?_
      refine WC.region ?_
      refine WL.p rfl rfl rfl (P.cmp rfl rfl rfl) ?_
      refine WL.p rfl rfl rfl (P.assign rfl) ?_
      refine WL.nil_ ?_
      refine End.seq ?_
      refine WC.cond rfl (fun hc76 => ?_) (fun hc76 => ?_)
      ·
        exact absurd (show e.kind = 2 by simpa using hc76) (by omega)
      ·
        refine WC.seq ?_
        refine WC.region ?_
        refine WL.p rfl rfl rfl (P.cmp rfl rfl rfl) ?_
        refine WL.p rfl rfl rfl (P.assign rfl) ?_
        refine WL.nil_ ?_
        refine End.seq ?_
        refine WC.cond rfl (fun hc81 => ?_) (fun hc81 => ?_)
        ·
          refine WC.seq ?_
          refine WC.region ?_
          refine WL.p rfl rfl rfl (P.fieldAddr fa_34_10 rfl) ?_
          refine WL.p rfl rfl rfl (P.loadO 1 Tryz.isAgg3 rfl rfl rfl) ?_
          refine WL.row Tryz.underlying22 Tryz.sizeOf3 Tryz.zeroValue3 rfl rfl rfl rfl rfl rfl rfl rfl rfl (fun b85 => ?_)
          refine WL.callv (ent_of Tryz.func225 rfl rfl) rfl rfl rfl (fun w hs => refNums_any _ _ [e.catalog] w (slI_row hs (j := 0) rfl rfl (by simp)) (one_num (by omega)) (by simp)) ?_
          refine WL.p rfl rfl rfl (P.assign rfl) ?_
          refine WL.nil_ ?_
          refine End.seq ?_
          refine WC.ret ?_
          refine End.blkR ?_
          refine End.thenR ?_
          refine End.ret1 rfl rfl ?_
          exact fun w' hs' => RetV.of (by rw [out3]; first | done | rfl) hs'
        ·
          exact absurd hk (by simpa using hc81)

set_option maxRecDepth 100000 in
theorem refBody4_any (e : E) (va vg : Value) (w : World) (hk : e.kind = 4) (hok : profOK e = true) (ha : EntAt w e va vg) :
    Calls Tryz.prog 141 #[.agg (e.cells va vg)] w (RetV w (.string ((kinds 4).out bempty e))) := by
  have ha0 := ha
  obtain ⟨⟨A1, c1, rfl, hc1, hr1⟩, ⟨A2, c2, rfl, hc2, hr2⟩⟩ := ha
  obtain ⟨hb1, hb2, hb3, hb4⟩ := profOK_lim hok
  have z1 := nB_le10 e.level
  have z2 := nB_le10 (e.grants.length : Int)
  have z4 := encText_size e.owner
  refine enter Tryz.func141 rfl Tryz.ntmps141 rfl ?_
  refine WC.seq ?_
  refine WC.region ?_
  refine WL.box rfl rfl rfl (fun b1 => ?_)
  refine WL.p rfl rfl rfl (P.assign rfl) ?_
  refine WL.nil_ ?_
  refine End.seq ?_
  refine WC.seq ?_
  refine WC.region ?_
  refine WL.p rfl rfl rfl (P.fieldAddr fa_34_2 rfl) ?_
  refine WL.p rfl rfl rfl (P.loadA 0 (vs := e.ds.cells) Tryz.isAgg31 Tryz.sizeOf31 rfl rfl rfl (E.ds_get e _ _)) ?_
  refine WL.alloc Tryz.zeroValue31 rfl rfl (fun b3 => ?_)
  refine WL.storeW 0 Tryz.sizeOf31 rfl rfl rfl rfl rfl rfl rfl ?_
  refine WL.nil_ ?_
  refine End.seq ?_
  refine WC.seq ?_
  refine WC.seq ?_
  refine WC.region ?_
  refine WL.p rfl rfl rfl (P.fieldAddr fa_34_0 rfl) ?_
  refine WL.p rfl rfl rfl (P.loadO 1 Tryz.isAgg3 rfl rfl rfl) ?_
  refine WL.nil_ ?_
  refine End.seq ?_
  refine WC.block ?_
  refine WC.seq ?_
  refine WC.region ?_
  refine WL.p rfl rfl rfl (P.cmp rfl rfl rfl) ?_
  refine WL.p rfl rfl rfl (P.assign rfl) ?_
  refine WL.nil_ ?_
  refine End.seq ?_
  refine WC.cond rfl (fun hc11 => ?_) (fun hc11 => ?_)
  ·
    exact absurd (show e.kind = 0 by simpa using hc11) (by omega)
  ·
    refine WC.seq ?_
    refine WC.region ?_
    refine WL.p rfl rfl rfl (P.cmp rfl rfl rfl) ?_
    refine WL.p rfl rfl rfl (P.assign rfl) ?_
    refine WL.nil_ ?_
    refine End.seq ?_
    refine WC.cond rfl (fun hc60 => ?_) (fun hc60 => ?_)
    ·
      exact absurd (show e.kind = 1 by simpa using hc60) (by omega)
    ·
      refine WC.seq ?_
      refine WC.region ?_
      refine WL.p rfl rfl rfl (P.cmp rfl rfl rfl) ?_
      refine WL.p rfl rfl rfl (P.assign rfl) ?_
      refine WL.nil_ ?_
      refine End.seq ?_
      refine WC.cond rfl (fun hc76 => ?_) (fun hc76 => ?_)
      ·
        exact absurd (show e.kind = 2 by simpa using hc76) (by omega)
      ·
        refine WC.seq ?_
        refine WC.region ?_
        refine WL.p rfl rfl rfl (P.cmp rfl rfl rfl) ?_
        refine WL.p rfl rfl rfl (P.assign rfl) ?_
        refine WL.nil_ ?_
        refine End.seq ?_
        refine WC.cond rfl (fun hc81 => ?_) (fun hc81 => ?_)
        ·
          exact absurd (show e.kind = 3 by simpa using hc81) (by omega)
        ·
          refine WC.skip ?_
          refine End.blkN ?_
          refine End.seq ?_
          refine WC.seq ?_
          refine WC.nil1 ?_
          refine WC.nil1 ?_
          apply WC.draws (al := [2, 11]) (vs := [_, _, fun s => .slice (some ⟨(s 2).1, 0, none⟩) 1 1, _, _, _, _, _, _, _, _, fun s => .slice (some ⟨(s 11).1, 0, none⟩) 1 1, _, _, _]) (Hs := fun v HH b s => (bnew (b 11) (It.blk (s 11).1 3 #[.int .i64 (e.grants.length : Int)]) (bnew (b 2) (It.blk (s 2).1 3 #[.int .i64 e.level]) HH 0) 1)) (by kernel_rfl) (by kernel_rfl) (by kernel_rfl)
          case steps =>
            refine Stps.cons (Stp.p (fun b s hd => ⟨_, ⟨rfl, P.fieldAddr fa_34_11 rfl⟩, rfl, rfl⟩)) ?_
            refine Stps.cons (Stp.p (fun b s hd => ⟨_, ⟨rfl, P.loadO 3 Tryz.isAgg3 rfl rfl rfl⟩, rfl, rfl⟩)) ?_
            refine Stps.cons (Stp.row 0 rfl (fun b s => ⟨rfl, _, _, rfl, fun w => by refine run_rowL Tryz.underlying22 Tryz.sizeOf3 Tryz.zeroValue3 ?_ ?_ ?_ ?_ ?_ ?_ w <;> rfl, fun q => ⟨rfl, _, rfl, fun hb => rfl⟩⟩)) ?_
            refine Stps.cons (Stp.on [2] (by kernel_rfl) (Stp.callv (ent_of Tryz.func225 rfl rfl) (fun b s hd => ⟨_, _, rfl, rfl, fun w hs => refNums_any _ _ [e.level] w (slI_row hs (j := 0) rfl rfl (by simp)) (one_num (by omega)) (by simp), rfl, rfl⟩))) ?_
            refine Stps.cons (Stp.p (fun b s hd => ⟨_, ⟨rfl, P.fieldAddr fa_34_8 rfl⟩, rfl, rfl⟩)) ?_
            refine Stps.cons (Stp.p (fun b s hd => ⟨_, ⟨rfl, P.loadO 3 Tryz.isAgg9 rfl rfl rfl⟩, rfl, rfl⟩)) ?_
            refine Stps.cons (Stp.callv (ent_of Tryz.func171 rfl rfl) (fun b s hd => ⟨_, _, rfl, rfl, fun w hs => refText_any e.owner w (by omega), rfl, rfl⟩)) ?_
            refine Stps.cons (Stp.p (fun b s hd => ⟨_, ⟨rfl, P.cat rfl rfl (by simp only [size_append, nCat1, nCat2]; omega)⟩, rfl, rfl⟩)) ?_
            refine Stps.cons (Stp.p (fun b s hd => ⟨_, ⟨rfl, P.fieldAddr fa_34_12 rfl⟩, rfl, rfl⟩)) ?_
            refine Stps.cons (Stp.p (fun b s hd => ⟨_, ⟨rfl, P.loadO 3 Tryz.isAgg32 rfl rfl rfl⟩, rfl, rfl⟩)) ?_
            refine Stps.cons (Stp.p (fun b s hd => ⟨_, ⟨rfl, P.lenR Tryz.underlying32 rfl⟩, rfl, rfl⟩)) ?_
            refine Stps.cons (Stp.row 1 rfl (fun b s => ⟨rfl, _, _, rfl, fun w => by refine run_rowL Tryz.underlying22 Tryz.sizeOf3 Tryz.zeroValue3 ?_ ?_ ?_ ?_ ?_ ?_ w <;> rfl, fun q => ⟨rfl, _, rfl, fun hb => rfl⟩⟩)) ?_
            refine Stps.cons (Stp.on [11] (by kernel_rfl) (Stp.callv (ent_of Tryz.func225 rfl rfl) (fun b s hd => ⟨_, _, rfl, rfl, fun w hs => refNums_any _ _ [(e.grants.length : Int)] w (slI_row hs (j := 1) rfl rfl (by simp)) (one_num (by omega)) (by simp), rfl, rfl⟩))) ?_
            refine Stps.cons (Stp.p (fun b s hd => ⟨_, ⟨rfl, P.cat rfl rfl (by simp only [size_append, nCat1, nCat2]; omega)⟩, rfl, rfl⟩)) ?_
            refine Stps.cons (Stp.p (fun b s hd => ⟨_, ⟨rfl, P.assign rfl⟩, rfl, rfl⟩)) ?_
            exact Stps.nil
          case h0 => exact fun s => rfl
          case agree => exact AgrAll.cons (AgrL.no (fun s x => rfl) (AgrL.no (fun s x => rfl) (AgrL.yes (by kernel_rfl) (AgrL.yes (by kernel_rfl) (AgrL.no (fun s x => rfl) (AgrL.no (fun s x => rfl) (AgrL.yes (by kernel_rfl) (AgrL.yes (by kernel_rfl) (AgrL.no (fun s x => rfl) (AgrL.no (fun s x => rfl) (AgrL.no (fun s x => rfl) (AgrL.no (fun s x => rfl) (AgrL.yes (by kernel_rfl) (AgrL.yes (by kernel_rfl) (AgrL.yes (by kernel_rfl) (AgrL.nil)))))))))))))))) (AgrAll.cons (AgrL.no (fun s x => rfl) (AgrL.no (fun s x => rfl) (AgrL.no (fun s x => rfl) (AgrL.no (fun s x => rfl) (AgrL.no (fun s x => rfl) (AgrL.no (fun s x => rfl) (AgrL.no (fun s x => rfl) (AgrL.no (fun s x => rfl) (AgrL.no (fun s x => rfl) (AgrL.no (fun s x => rfl) (AgrL.no (fun s x => rfl) (AgrL.yes (by kernel_rfl) (AgrL.yes (by kernel_rfl) (AgrL.yes (by kernel_rfl) (AgrL.yes (by kernel_rfl) (AgrL.nil)))))))))))))))) (AgrAll.nil))
          intro s12
          refine End.shapeC (by kernel_rfl) (new := [(5, _), (87, _), (88, _), (89, _), (90, _), (91, _), (92, _), (93, _), (94, _), (95, _), (96, _), (97, _), (98, _), (99, _), (100, _)]) (H' := [_, _, _, _]) (Env.sub_cons rfl (Env.sub_cons rfl (Env.sub_cons rfl (Env.sub_cons rfl (Env.sub_cons rfl (Env.sub_cons rfl (Env.sub_cons rfl (Env.sub_cons rfl (Env.sub_cons rfl (Env.sub_cons rfl (Env.sub_cons rfl (Env.sub_cons rfl (Env.sub_cons rfl (Env.sub_cons rfl (Env.sub_cons rfl (Env.sub_nil)))))))))))))))) rfl ?_
          refine End.seq ?_
          refine WC.seq ?_
          refine WC.seq ?_
          refine WC.region ?_
          refine WL.p rfl rfl rfl (P.assign rfl) ?_
          refine WL.nil_ ?_
          refine End.seq ?_
          refine WC.block ?_
          refine WC.loopD (σ := Nat) (fun k => [(6, .int .i64 (k : Nat)), (5, .string (nCat [e.level] ++ encText e.owner ++ nCat [(e.grants.length : Int)] ++ gCat (e.grants.take k)))]) (fun k => [.blk b3 31 e.ds.cells, .blk b1 34 (e.cells (.slice A1 e.alt.length c1) (.slice A2 e.grants.length c2))]) (fun k => k ≤ e.grants.length) (fun k => e.grants.length - k) 0 (Nat.zero_le _) (Env.sub_cons rfl (Env.sub_cons (by show _ = some (Value.string (nCat [e.level] ++ encText e.owner ++ nCat [(e.grants.length : Int)] ++ bempty)); rw [app_emp]; rfl) Env.sub_nil)) [2, 3] rfl rfl ?_
          rintro k hk
          refine WC.seq ?_
          refine WC.seq ?_
          refine WC.region ?_
          refine WL.p rfl rfl rfl (P.move rfl) ?_
          refine WL.p rfl rfl rfl (P.fieldAddr fa_34_12 rfl) ?_
          refine WL.p rfl rfl rfl (P.loadO 1 Tryz.isAgg32 rfl rfl rfl) ?_
          refine WL.p rfl rfl rfl (P.lenR Tryz.underlying32 rfl) ?_
          refine WL.p rfl rfl rfl (P.cmp rfl rfl rfl) ?_
          refine WL.nil_ ?_
          refine End.seq ?_
          refine WC.cond rfl (fun hc105 => ?_) (fun hc105 => ?_)
          ·
            have hkl : k < e.grants.length := by have := of_decide_eq_true hc105; omega
            obtain ⟨b, off, rfl, hcx⟩ := hr2.at_ (by omega)
            obtain ⟨g, hx⟩ := get_of_lt (xs := e.grants) (k := k) hkl
            have hgb := hb4 g (List.mem_of_getElem? hx)
            have y1 := gCat_le2 (e.grants.take k) (fun g hg => (hb4 g (List.mem_of_mem_take hg)).1)
            have y2 : (e.grants.take k).length ≤ 8 := by rw [List.length_take]; omega
            have y3 := encText_size g.who
            have y4 := tB_size g.group
            have y5 := nB_le10 g.level
            refine WC.skip ?_
            refine End.seq ?_
            refine WC.seq ?_
            refine WC.block ?_
            refine WC.nil1 ?_
            apply WC.draws2 (al := [23]) (vs := [_, _, _, _, _, _, _, _, _, _, _, _, _, _, _, _, _, _, _, _, _, _, _, fun s => .slice (some ⟨(s 23).1, 0, none⟩) 1 1, _, _, _]) (Hs := fun v HH b s => (bnew (b 23) (It.blk (s 23).1 3 #[.int .i64 g.level]) HH 0)) (by kernel_rfl) (by kernel_rfl) (by kernel_rfl)
            case steps =>
              refine Stps2.cons (Stp.p (fun b s hd => ⟨_, ⟨rfl, P.move rfl⟩, rfl, rfl⟩)) ?_
              refine Stps2.cons (Stp.p (fun b s hd => ⟨_, ⟨rfl, P.fieldAddr fa_34_12 rfl⟩, rfl, rfl⟩)) ?_
              refine Stps2.cons (Stp.p (fun b s hd => ⟨_, ⟨rfl, P.loadO 2 Tryz.isAgg32 rfl rfl rfl⟩, rfl, rfl⟩)) ?_
              refine Stps2.cons (Stp.p (fun b s hd => ⟨_, ⟨rfl, P.move rfl⟩, rfl, rfl⟩)) ?_
              refine Stps2.cons (Stp.p (fun b s hd => ⟨_, ⟨rfl, P.elemAddr Tryz.underlying32 Tryz.sizeOf51 rfl rfl (by omega) (by omega)⟩, rfl, rfl⟩)) ?_
              refine Stps2.cons (Stp.p (fun b s hd => ⟨_, ⟨rfl, P.fieldAddr fa_51_0 rfl⟩, rfl, rfl⟩)) ?_
              refine Stps2.cons (Stp.p (fun b s hd => ⟨_, ⟨rfl, P.loadB Tryz.isAgg9 rfl (hcx k g hx 0 _ rfl)⟩, rfl, rfl⟩)) ?_
              refine Stps2.cons (Stp.callv (ent_of Tryz.func171 rfl rfl) (fun b s hd => ⟨_, _, rfl, rfl, fun w hs => refText_any g.who w (by omega), rfl, rfl⟩)) ?_
              refine Stps2.cons (Stp.p (fun b s hd => ⟨_, ⟨rfl, P.cat rfl rfl (by simp only [size_append, nCat1, nCat2]; omega)⟩, rfl, rfl⟩)) ?_
              refine Stps2.cons (Stp.p (fun b s hd => ⟨_, ⟨rfl, P.fieldAddr fa_34_12 rfl⟩, rfl, rfl⟩)) ?_
              refine Stps2.cons (Stp.p (fun b s hd => ⟨_, ⟨rfl, P.loadO 2 Tryz.isAgg32 rfl rfl rfl⟩, rfl, rfl⟩)) ?_
              refine Stps2.cons (Stp.p (fun b s hd => ⟨_, ⟨rfl, P.move rfl⟩, rfl, rfl⟩)) ?_
              refine Stps2.cons (Stp.p (fun b s hd => ⟨_, ⟨rfl, P.elemAddr Tryz.underlying32 Tryz.sizeOf51 rfl rfl (by omega) (by omega)⟩, rfl, rfl⟩)) ?_
              refine Stps2.cons (Stp.p (fun b s hd => ⟨_, ⟨rfl, P.fieldAddr fa_51_1 rfl⟩, rfl, rfl⟩)) ?_
              refine Stps2.cons (Stp.p (fun b s hd => ⟨_, ⟨rfl, P.loadB Tryz.isAgg4 rfl (hcx k g hx 1 _ rfl)⟩, rfl, rfl⟩)) ?_
              refine Stps2.cons (Stp.callv (ent_of Tryz.func226 rfl rfl) (fun b s hd => ⟨_, _, rfl, rfl, fun w hs => refBool_any g.group w, rfl, rfl⟩)) ?_
              refine Stps2.cons (Stp.p (fun b s hd => ⟨_, ⟨rfl, P.cat rfl rfl (by simp only [size_append, nCat1, nCat2]; omega)⟩, rfl, rfl⟩)) ?_
              refine Stps2.cons (Stp.p (fun b s hd => ⟨_, ⟨rfl, P.fieldAddr fa_34_12 rfl⟩, rfl, rfl⟩)) ?_
              refine Stps2.cons (Stp.p (fun b s hd => ⟨_, ⟨rfl, P.loadO 2 Tryz.isAgg32 rfl rfl rfl⟩, rfl, rfl⟩)) ?_
              refine Stps2.cons (Stp.p (fun b s hd => ⟨_, ⟨rfl, P.move rfl⟩, rfl, rfl⟩)) ?_
              refine Stps2.cons (Stp.p (fun b s hd => ⟨_, ⟨rfl, P.elemAddr Tryz.underlying32 Tryz.sizeOf51 rfl rfl (by omega) (by omega)⟩, rfl, rfl⟩)) ?_
              refine Stps2.cons (Stp.p (fun b s hd => ⟨_, ⟨rfl, P.fieldAddr fa_51_2 rfl⟩, rfl, rfl⟩)) ?_
              refine Stps2.cons (Stp.p (fun b s hd => ⟨_, ⟨rfl, P.loadB Tryz.isAgg3 rfl (hcx k g hx 2 _ rfl)⟩, rfl, rfl⟩)) ?_
              refine Stps2.cons (Stp.row 0 rfl (fun b s => ⟨rfl, _, _, rfl, fun w => by refine run_rowL Tryz.underlying22 Tryz.sizeOf3 Tryz.zeroValue3 ?_ ?_ ?_ ?_ ?_ ?_ w <;> rfl, fun q => ⟨rfl, _, rfl, fun hb => rfl⟩⟩)) ?_
              refine Stps2.cons (Stp.on [23] (by kernel_rfl) (Stp.callv (ent_of Tryz.func225 rfl rfl) (fun b s hd => ⟨_, _, rfl, rfl, fun w hs => refNums_any _ _ [g.level] w (slI_row hs (j := 0) rfl rfl (by simp)) (one_num (by omega)) (by simp), rfl, rfl⟩))) ?_
              refine Stps2.cons (Stp.p (fun b s hd => ⟨_, ⟨rfl, P.cat rfl rfl (by simp only [size_append, nCat1, nCat2]; omega)⟩, rfl, rfl⟩)) ?_
              refine Stps2.cons (Stp.p (fun b s hd => ⟨_, ⟨rfl, P.assign rfl⟩, rfl, rfl⟩)) ?_
              exact Stps2.nil
            case h0 => exact fun s => rfl
            case agree => exact AgrAll.cons (AgrL.no (fun s x => rfl) (AgrL.no (fun s x => rfl) (AgrL.no (fun s x => rfl) (AgrL.no (fun s x => rfl) (AgrL.no (fun s x => rfl) (AgrL.no (fun s x => rfl) (AgrL.no (fun s x => rfl) (AgrL.no (fun s x => rfl) (AgrL.no (fun s x => rfl) (AgrL.no (fun s x => rfl) (AgrL.no (fun s x => rfl) (AgrL.no (fun s x => rfl) (AgrL.no (fun s x => rfl) (AgrL.no (fun s x => rfl) (AgrL.no (fun s x => rfl) (AgrL.no (fun s x => rfl) (AgrL.no (fun s x => rfl) (AgrL.no (fun s x => rfl) (AgrL.no (fun s x => rfl) (AgrL.no (fun s x => rfl) (AgrL.no (fun s x => rfl) (AgrL.no (fun s x => rfl) (AgrL.no (fun s x => rfl) (AgrL.yes (by kernel_rfl) (AgrL.yes (by kernel_rfl) (AgrL.yes (by kernel_rfl) (AgrL.yes (by kernel_rfl) (AgrL.nil)))))))))))))))))))))))))))) (AgrAll.nil)
            intro s16
            refine End.shapeD (by kernel_rfl) (new := [(5, _), (108, _), (109, _), (110, _), (111, _), (112, _), (113, _), (114, _), (115, _), (116, _), (117, _), (118, _), (119, _), (120, _), (121, _), (122, _), (123, _), (124, _), (125, _), (126, _), (127, _), (128, _), (129, _), (130, _), (131, _), (132, _), (133, _)]) (H' := [_, _, _]) (Env.sub_cons rfl (Env.sub_cons rfl (Env.sub_cons rfl (Env.sub_cons rfl (Env.sub_cons rfl (Env.sub_cons rfl (Env.sub_cons rfl (Env.sub_cons rfl (Env.sub_cons rfl (Env.sub_cons rfl (Env.sub_cons rfl (Env.sub_cons rfl (Env.sub_cons rfl (Env.sub_cons rfl (Env.sub_cons rfl (Env.sub_cons rfl (Env.sub_cons rfl (Env.sub_cons rfl (Env.sub_cons rfl (Env.sub_cons rfl (Env.sub_cons rfl (Env.sub_cons rfl (Env.sub_cons rfl (Env.sub_cons rfl (Env.sub_cons rfl (Env.sub_cons rfl (Env.sub_cons rfl (Env.sub_nil)))))))))))))))))))))))))))) rfl ?_
            refine End.blkN ?_
            refine End.seq ?_
            refine WC.region ?_
            refine WL.p rfl rfl rfl (P.move rfl) ?_
            refine WL.p rfl rfl rfl (P.ari64 rfl rfl rfl (by omega)) ?_
            refine WL.p rfl rfl rfl (P.assign rfl) ?_
            refine WL.nil_ ?_
            refine End.againD (k + 1) ?_ ?_ rfl (Env.sub_cons rfl (Env.sub_cons (by rw [gCat_snoc hx, gB, ← nCat1]; simp only [← ByteArray.append_assoc]; rfl) Env.sub_nil)) rfl [1, 2] rfl rfl
            · show k + 1 ≤ e.grants.length; omega
            · show e.grants.length - (k + 1) < e.grants.length - k; omega
          ·
            have ek : k = e.grants.length := by have := of_decide_eq_false hc105; omega
            refine WC.exit ?_
            refine End.thenX ?_
            refine End.thenX ?_
            refine End.blkX ?_
            refine End.seq ?_
            refine WC.seq ?_
            refine WC.region ?_
            refine WL.p rfl rfl rfl (P.move rfl) ?_
            refine WL.p rfl rfl rfl (P.assign rfl) ?_
            refine WL.nil_ ?_
            refine End.seq ?_
            refine WC.ret ?_
            refine End.ret1 rfl rfl ?_
            exact fun w' hs' => RetV.of (by rw [out4, ek, List.take_length]; first | done | rfl) hs'

end Go.Proofs.YtlkkiimmangplaaGreatDoor

/- The record, as the reference writes it; the law on records. -/
namespace Go.Proofs.YtlkkiimmangplaaGreatDoor
open Go.RowKit
set_option linter.unusedVariables false
set_option linter.unusedSimpArgs false

set_option maxHeartbeats 1000000 in
set_option maxRecDepth 100000 in
theorem refBody0_any (e : E) (va vg : Value) (w : World) (hk : e.kind = 0) (hok : dataOK e = true) (ha : EntAt w e va vg) :
    Calls Tryz.prog 141 #[.agg (e.cells va vg)] w (RetV w (.string ((kinds 0).out bempty e))) := by
  have ha0 := ha
  obtain ⟨⟨A1, c1, rfl, hc1, hr1⟩, ⟨A2, c2, rfl, hc2, hr2⟩⟩ := ha
  obtain ⟨hb1, hb2, hb3, hb4, hb5, hb6, hb7⟩ := dataOK_lim hok
  have hc1' := hb6 e.ds.created (by simp)
  have hc2' := hb6 e.ds.expires (by simp)
  have hc3' := hb6 e.used (by simp)
  have z1 := nCat_le10 (dsNumsD e.ds)
  have z1' : (dsNumsD e.ds).length = 14 := rfl
  have z2 := nB_le10 e.ds.cls
  have z3 := tB_size e.ds.unique
  have z4 := encText_size e.ds.volume
  have z5 := encText_size e.ds.owner
  have z6 := nB_le10 e.ds.created
  have z7 := nB_le10 e.ds.expires
  have z8 := tB_size e.ds.archived
  have z9 := nB_le10 (e.alt.length : Int)
  have z10 := nCat_le10 e.alt
  have z11 := nB_le10 e.used
  have hn14 : ∀ x ∈ dsNumsD e.ds, 0 ≤ x ∧ x < 9223372036854775808 := fun x hx => by have := hb2 x hx; omega
  have hna : ∀ x ∈ e.alt, 0 ≤ x ∧ x < 9223372036854775808 := fun x hx => by have := hb1 x hx; omega
  refine enter Tryz.func141 rfl Tryz.ntmps141 rfl ?_
  refine WC.seq ?_
  refine WC.region ?_
  refine WL.box rfl rfl rfl (fun b1 => ?_)
  refine WL.p rfl rfl rfl (P.assign rfl) ?_
  refine WL.nil_ ?_
  refine End.seq ?_
  refine WC.seq ?_
  refine WC.region ?_
  refine WL.p rfl rfl rfl (P.fieldAddr fa_34_2 rfl) ?_
  refine WL.p rfl rfl rfl (P.loadA 0 (vs := e.ds.cells) Tryz.isAgg31 Tryz.sizeOf31 rfl rfl rfl (E.ds_get e _ _)) ?_
  refine WL.alloc Tryz.zeroValue31 rfl rfl (fun b3 => ?_)
  refine WL.storeW 0 Tryz.sizeOf31 rfl rfl rfl rfl rfl rfl rfl ?_
  refine WL.nil_ ?_
  refine End.seq ?_
  refine WC.seq ?_
  refine WC.seq ?_
  refine WC.region ?_
  refine WL.p rfl rfl rfl (P.fieldAddr fa_34_0 rfl) ?_
  refine WL.p rfl rfl rfl (P.loadO 1 Tryz.isAgg3 rfl rfl rfl) ?_
  refine WL.nil_ ?_
  refine End.seq ?_
  refine WC.block ?_
  refine WC.seq ?_
  refine WC.region ?_
  refine WL.p rfl rfl rfl (P.cmp rfl rfl rfl) ?_
  refine WL.p rfl rfl rfl (P.assign rfl) ?_
  refine WL.nil_ ?_
  refine End.seq ?_
  refine WC.cond rfl (fun hc11 => ?_) (fun hc11 => ?_)
  ·
    refine WC.seq ?_
    refine WC.nil1 ?_
    refine WC.nil1 ?_
    refine WC.nil1 ?_
    apply WC.draws (al := [1, 9, 24]) (vs := [_, fun s => .slice (some ⟨(s 1).1, 0, none⟩) 14 14, _, _, _, _, _, _, _, fun s => .slice (some ⟨(s 9).1, 0, none⟩) 1 1, _, _, _, _, _, _, _, _, _, _, _, _, _, _, fun s => .slice (some ⟨(s 24).1, 0, none⟩) 2 2, _, _, _, _, _, _, _]) (Hs := fun v HH b s => (bnew (b 24) (It.blk (s 24).1 3 #[.int .i64 e.ds.created, .int .i64 e.ds.expires]) (bnew (b 9) (It.blk (s 9).1 3 #[.int .i64 e.ds.cls]) (bnew (b 1) (It.blk (s 1).1 3 ((dsNumsD e.ds).map (Value.int .i64)).toArray) HH 0) 1) 2)) (by kernel_rfl) (by kernel_rfl) (by kernel_rfl)
    case steps =>
      refine Stps.cons (Stp.p (fun b s hd => ⟨_, ⟨rfl, P.loadW 3 Tryz.isAgg31 Tryz.sizeOf31 rfl rfl rfl⟩, rfl, rfl⟩)) ?_
      refine Stps.cons (Stp.callx 0 (ent_of Tryz.func216 rfl rfl) rfl (fun b s hb hd => ⟨_, _, _, _, rfl, rfl, fun w hs => refNumbers_any e.ds w, fun q => rfl, ⟨_, rfl⟩, fun q => rfl⟩)) ?_
      refine Stps.cons (Stp.on [1] (by kernel_rfl) (Stp.callv (ent_of Tryz.func225 rfl rfl) (fun b s hd => ⟨_, _, rfl, rfl, fun w hs => refNums_any _ _ (dsNumsD e.ds) w (slI_row hs (j := 0) rfl rfl (by omega)) hn14 (by omega), rfl, rfl⟩))) ?_
      refine Stps.cons (Stp.p (fun b s hd => ⟨_, ⟨rfl, P.fieldAddr fa_31_14 rfl⟩, rfl, rfl⟩)) ?_
      refine Stps.cons (Stp.p (fun b s hd => ⟨_, ⟨rfl, P.loadO 3 Tryz.isAgg4 rfl rfl rfl⟩, rfl, rfl⟩)) ?_
      refine Stps.cons (Stp.callv (ent_of Tryz.func226 rfl rfl) (fun b s hd => ⟨_, _, rfl, rfl, fun w hs => refBool_any e.ds.unique w, rfl, rfl⟩)) ?_
      refine Stps.cons (Stp.p (fun b s hd => ⟨_, ⟨rfl, P.cat rfl rfl (by omega)⟩, rfl, rfl⟩)) ?_
      refine Stps.cons (Stp.p (fun b s hd => ⟨_, ⟨rfl, P.fieldAddr fa_31_15 rfl⟩, rfl, rfl⟩)) ?_
      refine Stps.cons (Stp.p (fun b s hd => ⟨_, ⟨rfl, P.loadO 3 Tryz.isAgg3 rfl rfl rfl⟩, rfl, rfl⟩)) ?_
      refine Stps.cons (Stp.row 1 rfl (fun b s => ⟨rfl, _, _, rfl, fun w => by refine run_rowL Tryz.underlying22 Tryz.sizeOf3 Tryz.zeroValue3 ?_ ?_ ?_ ?_ ?_ ?_ w <;> rfl, fun q => ⟨rfl, _, rfl, fun hb => rfl⟩⟩)) ?_
      refine Stps.cons (Stp.on [9] (by kernel_rfl) (Stp.callv (ent_of Tryz.func225 rfl rfl) (fun b s hd => ⟨_, _, rfl, rfl, fun w hs => refNums_any _ _ [e.ds.cls] w (slI_row hs (j := 1) rfl rfl (by simp)) (one_num (by omega)) (by simp), rfl, rfl⟩))) ?_
      refine Stps.cons (Stp.p (fun b s hd => ⟨_, ⟨rfl, P.cat rfl rfl (by simp only [size_append, nCat1, nCat2]; omega)⟩, rfl, rfl⟩)) ?_
      refine Stps.cons (Stp.p (fun b s hd => ⟨_, ⟨rfl, P.fieldAddr fa_31_16 rfl⟩, rfl, rfl⟩)) ?_
      refine Stps.cons (Stp.p (fun b s hd => ⟨_, ⟨rfl, P.loadO 3 Tryz.isAgg9 rfl rfl rfl⟩, rfl, rfl⟩)) ?_
      refine Stps.cons (Stp.callv (ent_of Tryz.func171 rfl rfl) (fun b s hd => ⟨_, _, rfl, rfl, fun w hs => refText_any e.ds.volume w (by omega), rfl, rfl⟩)) ?_
      refine Stps.cons (Stp.p (fun b s hd => ⟨_, ⟨rfl, P.cat rfl rfl (by simp only [size_append, nCat1, nCat2]; omega)⟩, rfl, rfl⟩)) ?_
      refine Stps.cons (Stp.p (fun b s hd => ⟨_, ⟨rfl, P.fieldAddr fa_31_17 rfl⟩, rfl, rfl⟩)) ?_
      refine Stps.cons (Stp.p (fun b s hd => ⟨_, ⟨rfl, P.loadO 3 Tryz.isAgg9 rfl rfl rfl⟩, rfl, rfl⟩)) ?_
      refine Stps.cons (Stp.callv (ent_of Tryz.func171 rfl rfl) (fun b s hd => ⟨_, _, rfl, rfl, fun w hs => refText_any e.ds.owner w (by omega), rfl, rfl⟩)) ?_
      refine Stps.cons (Stp.p (fun b s hd => ⟨_, ⟨rfl, P.cat rfl rfl (by simp only [size_append, nCat1, nCat2]; omega)⟩, rfl, rfl⟩)) ?_
      refine Stps.cons (Stp.p (fun b s hd => ⟨_, ⟨rfl, P.fieldAddr fa_31_18 rfl⟩, rfl, rfl⟩)) ?_
      refine Stps.cons (Stp.p (fun b s hd => ⟨_, ⟨rfl, P.loadO 3 Tryz.isAgg3 rfl rfl rfl⟩, rfl, rfl⟩)) ?_
      refine Stps.cons (Stp.p (fun b s hd => ⟨_, ⟨rfl, P.fieldAddr fa_31_19 rfl⟩, rfl, rfl⟩)) ?_
      refine Stps.cons (Stp.p (fun b s hd => ⟨_, ⟨rfl, P.loadO 3 Tryz.isAgg3 rfl rfl rfl⟩, rfl, rfl⟩)) ?_
      refine Stps.cons (Stp.row 2 rfl (fun b s => ⟨rfl, _, _, rfl, fun w => by refine run_rowL Tryz.underlying22 Tryz.sizeOf3 Tryz.zeroValue3 ?_ ?_ ?_ ?_ ?_ ?_ w <;> rfl, fun q => ⟨rfl, _, rfl, fun hb => rfl⟩⟩)) ?_
      refine Stps.cons (Stp.on [24] (by kernel_rfl) (Stp.callv (ent_of Tryz.func225 rfl rfl) (fun b s hd => ⟨_, _, rfl, rfl, fun w hs => refNums_any _ _ [e.ds.created, e.ds.expires] w (slI_row hs (j := 2) rfl rfl (by simp)) (two_num (by omega) (by omega)) (by simp), rfl, rfl⟩))) ?_
      refine Stps.cons (Stp.p (fun b s hd => ⟨_, ⟨rfl, P.cat rfl rfl (by simp only [size_append, nCat1, nCat2]; omega)⟩, rfl, rfl⟩)) ?_
      refine Stps.cons (Stp.p (fun b s hd => ⟨_, ⟨rfl, P.fieldAddr fa_31_20 rfl⟩, rfl, rfl⟩)) ?_
      refine Stps.cons (Stp.p (fun b s hd => ⟨_, ⟨rfl, P.loadO 3 Tryz.isAgg4 rfl rfl rfl⟩, rfl, rfl⟩)) ?_
      refine Stps.cons (Stp.callv (ent_of Tryz.func226 rfl rfl) (fun b s hd => ⟨_, _, rfl, rfl, fun w hs => refBool_any e.ds.archived w, rfl, rfl⟩)) ?_
      refine Stps.cons (Stp.p (fun b s hd => ⟨_, ⟨rfl, P.cat rfl rfl (by simp only [size_append, nCat1, nCat2]; omega)⟩, rfl, rfl⟩)) ?_
      refine Stps.cons (Stp.p (fun b s hd => ⟨_, ⟨rfl, P.assign rfl⟩, rfl, rfl⟩)) ?_
      exact Stps.nil
    case h0 => exact fun s => rfl
    case agree => exact AgrAll.cons (AgrL.no (fun s x => rfl) (AgrL.yes (by kernel_rfl) (AgrL.yes (by kernel_rfl) (AgrL.no (fun s x => rfl) (AgrL.no (fun s x => rfl) (AgrL.yes (by kernel_rfl) (AgrL.yes (by kernel_rfl) (AgrL.no (fun s x => rfl) (AgrL.no (fun s x => rfl) (AgrL.no (fun s x => rfl) (AgrL.yes (by kernel_rfl) (AgrL.yes (by kernel_rfl) (AgrL.no (fun s x => rfl) (AgrL.no (fun s x => rfl) (AgrL.yes (by kernel_rfl) (AgrL.yes (by kernel_rfl) (AgrL.no (fun s x => rfl) (AgrL.no (fun s x => rfl) (AgrL.yes (by kernel_rfl) (AgrL.yes (by kernel_rfl) (AgrL.no (fun s x => rfl) (AgrL.no (fun s x => rfl) (AgrL.no (fun s x => rfl) (AgrL.no (fun s x => rfl) (AgrL.no (fun s x => rfl) (AgrL.yes (by kernel_rfl) (AgrL.yes (by kernel_rfl) (AgrL.no (fun s x => rfl) (AgrL.no (fun s x => rfl) (AgrL.yes (by kernel_rfl) (AgrL.yes (by kernel_rfl) (AgrL.yes (by kernel_rfl) (AgrL.nil))))))))))))))))))))))))))))))))) (AgrAll.cons (AgrL.no (fun s x => rfl) (AgrL.no (fun s x => rfl) (AgrL.no (fun s x => rfl) (AgrL.no (fun s x => rfl) (AgrL.no (fun s x => rfl) (AgrL.no (fun s x => rfl) (AgrL.no (fun s x => rfl) (AgrL.no (fun s x => rfl) (AgrL.no (fun s x => rfl) (AgrL.yes (by kernel_rfl) (AgrL.yes (by kernel_rfl) (AgrL.yes (by kernel_rfl) (AgrL.no (fun s x => rfl) (AgrL.no (fun s x => rfl) (AgrL.yes (by kernel_rfl) (AgrL.yes (by kernel_rfl) (AgrL.no (fun s x => rfl) (AgrL.no (fun s x => rfl) (AgrL.yes (by kernel_rfl) (AgrL.yes (by kernel_rfl) (AgrL.no (fun s x => rfl) (AgrL.no (fun s x => rfl) (AgrL.no (fun s x => rfl) (AgrL.no (fun s x => rfl) (AgrL.no (fun s x => rfl) (AgrL.yes (by kernel_rfl) (AgrL.yes (by kernel_rfl) (AgrL.no (fun s x => rfl) (AgrL.no (fun s x => rfl) (AgrL.yes (by kernel_rfl) (AgrL.yes (by kernel_rfl) (AgrL.yes (by kernel_rfl) (AgrL.nil))))))))))))))))))))))))))))))))) (AgrAll.cons (AgrL.no (fun s x => rfl) (AgrL.no (fun s x => rfl) (AgrL.no (fun s x => rfl) (AgrL.no (fun s x => rfl) (AgrL.no (fun s x => rfl) (AgrL.no (fun s x => rfl) (AgrL.no (fun s x => rfl) (AgrL.no (fun s x => rfl) (AgrL.no (fun s x => rfl) (AgrL.no (fun s x => rfl) (AgrL.no (fun s x => rfl) (AgrL.no (fun s x => rfl) (AgrL.no (fun s x => rfl) (AgrL.no (fun s x => rfl) (AgrL.no (fun s x => rfl) (AgrL.no (fun s x => rfl) (AgrL.no (fun s x => rfl) (AgrL.no (fun s x => rfl) (AgrL.no (fun s x => rfl) (AgrL.no (fun s x => rfl) (AgrL.no (fun s x => rfl) (AgrL.no (fun s x => rfl) (AgrL.no (fun s x => rfl) (AgrL.no (fun s x => rfl) (AgrL.yes (by kernel_rfl) (AgrL.yes (by kernel_rfl) (AgrL.yes (by kernel_rfl) (AgrL.no (fun s x => rfl) (AgrL.no (fun s x => rfl) (AgrL.yes (by kernel_rfl) (AgrL.yes (by kernel_rfl) (AgrL.yes (by kernel_rfl) (AgrL.nil))))))))))))))))))))))))))))))))) (AgrAll.nil)))
    intro s4
    refine End.shapeC (by kernel_rfl) (new := [(4, _), (13, _), (14, _), (15, _), (16, _), (17, _), (18, _), (19, _), (20, _), (21, _), (22, _), (23, _), (24, _), (25, _), (26, _), (27, _), (28, _), (29, _), (30, _), (31, _), (32, _), (33, _), (34, _), (35, _), (36, _), (37, _), (38, _), (39, _), (40, _), (41, _), (42, _), (43, _)]) (H' := [_, _, _, _, _]) (Env.sub_cons rfl (Env.sub_cons rfl (Env.sub_cons rfl (Env.sub_cons rfl (Env.sub_cons rfl (Env.sub_cons rfl (Env.sub_cons rfl (Env.sub_cons rfl (Env.sub_cons rfl (Env.sub_cons rfl (Env.sub_cons rfl (Env.sub_cons rfl (Env.sub_cons rfl (Env.sub_cons rfl (Env.sub_cons rfl (Env.sub_cons rfl (Env.sub_cons rfl (Env.sub_cons rfl (Env.sub_cons rfl (Env.sub_cons rfl (Env.sub_cons rfl (Env.sub_cons rfl (Env.sub_cons rfl (Env.sub_cons rfl (Env.sub_cons rfl (Env.sub_cons rfl (Env.sub_cons rfl (Env.sub_cons rfl (Env.sub_cons rfl (Env.sub_cons rfl (Env.sub_cons rfl (Env.sub_cons rfl (Env.sub_nil))))))))))))))))))))))))))))))))) rfl ?_
    refine End.seq ?_
    refine WC.seq ?_
    refine WC.nil1 ?_
    refine WC.nil1 ?_
    apply WC.draws2 (al := [4, 13]) (vs := [_, _, _, _, fun s => .slice (some ⟨(s 4).1, 0, none⟩) 1 1, _, _, _, _, _, _, _, _, fun s => .slice (some ⟨(s 13).1, 0, none⟩) 1 1, _, _, _]) (Hs := fun v HH b s => (bnew (b 13) (It.blk (s 13).1 3 #[.int .i64 e.used]) (bnew (b 4) (It.blk (s 4).1 3 #[.int .i64 (e.alt.length : Int)]) HH 0) 1)) (by kernel_rfl) (by kernel_rfl) (by kernel_rfl)
    case steps =>
      refine Stps2.cons (Stp.p (fun b s hd => ⟨_, ⟨rfl, P.move rfl⟩, rfl, rfl⟩)) ?_
      refine Stps2.cons (Stp.p (fun b s hd => ⟨_, ⟨rfl, P.fieldAddr fa_34_3 rfl⟩, rfl, rfl⟩)) ?_
      refine Stps2.cons (Stp.p (fun b s hd => ⟨_, ⟨rfl, P.loadO 6 Tryz.isAgg22 rfl rfl rfl⟩, rfl, rfl⟩)) ?_
      refine Stps2.cons (Stp.p (fun b s hd => ⟨_, ⟨rfl, P.lenR Tryz.underlying22 rfl⟩, rfl, rfl⟩)) ?_
      refine Stps2.cons (Stp.row 0 rfl (fun b s => ⟨rfl, _, _, rfl, fun w => by refine run_rowL Tryz.underlying22 Tryz.sizeOf3 Tryz.zeroValue3 ?_ ?_ ?_ ?_ ?_ ?_ w <;> rfl, fun q => ⟨rfl, _, rfl, fun hb => rfl⟩⟩)) ?_
      refine Stps2.cons (Stp.on [4] (by kernel_rfl) (Stp.callv (ent_of Tryz.func225 rfl rfl) (fun b s hd => ⟨_, _, rfl, rfl, fun w hs => refNums_any _ _ [(e.alt.length : Int)] w (slI_row hs (j := 0) rfl rfl (by simp)) (one_num (by omega)) (by simp), rfl, rfl⟩))) ?_
      refine Stps2.cons (Stp.p (fun b s hd => ⟨_, ⟨rfl, P.cat rfl rfl (by simp only [size_append, nCat1, nCat2]; omega)⟩, rfl, rfl⟩)) ?_
      refine Stps2.cons (Stp.p (fun b s hd => ⟨_, ⟨rfl, P.fieldAddr fa_34_3 rfl⟩, rfl, rfl⟩)) ?_
      refine Stps2.cons (Stp.p (fun b s hd => ⟨_, ⟨rfl, P.loadO 6 Tryz.isAgg22 rfl rfl rfl⟩, rfl, rfl⟩)) ?_
      refine Stps2.cons (Stp.callv (ent_of Tryz.func225 rfl rfl) (fun b s hd => ⟨_, _, rfl, rfl, fun w hs => refNums_any A1 c1 e.alt w (hr1.st hs) hna (by omega), rfl, rfl⟩)) ?_
      refine Stps2.cons (Stp.p (fun b s hd => ⟨_, ⟨rfl, P.cat rfl rfl (by simp only [size_append, nCat1, nCat2]; omega)⟩, rfl, rfl⟩)) ?_
      refine Stps2.cons (Stp.p (fun b s hd => ⟨_, ⟨rfl, P.fieldAddr fa_34_4 rfl⟩, rfl, rfl⟩)) ?_
      refine Stps2.cons (Stp.p (fun b s hd => ⟨_, ⟨rfl, P.loadO 6 Tryz.isAgg3 rfl rfl rfl⟩, rfl, rfl⟩)) ?_
      refine Stps2.cons (Stp.row 1 rfl (fun b s => ⟨rfl, _, _, rfl, fun w => by refine run_rowL Tryz.underlying22 Tryz.sizeOf3 Tryz.zeroValue3 ?_ ?_ ?_ ?_ ?_ ?_ w <;> rfl, fun q => ⟨rfl, _, rfl, fun hb => rfl⟩⟩)) ?_
      refine Stps2.cons (Stp.on [13] (by kernel_rfl) (Stp.callv (ent_of Tryz.func225 rfl rfl) (fun b s hd => ⟨_, _, rfl, rfl, fun w hs => refNums_any _ _ [e.used] w (slI_row hs (j := 1) rfl rfl (by simp)) (one_num (by omega)) (by simp), rfl, rfl⟩))) ?_
      refine Stps2.cons (Stp.p (fun b s hd => ⟨_, ⟨rfl, P.cat rfl rfl (by simp only [size_append, nCat1, nCat2]; omega)⟩, rfl, rfl⟩)) ?_
      refine Stps2.cons (Stp.p (fun b s hd => ⟨_, ⟨rfl, P.assign rfl⟩, rfl, rfl⟩)) ?_
      exact Stps2.nil
    case h0 => exact fun s => rfl
    case agree => exact AgrAll.cons (AgrL.no (fun s x => rfl) (AgrL.no (fun s x => rfl) (AgrL.no (fun s x => rfl) (AgrL.no (fun s x => rfl) (AgrL.yes (by kernel_rfl) (AgrL.yes (by kernel_rfl) (AgrL.yes (by kernel_rfl) (AgrL.no (fun s x => rfl) (AgrL.no (fun s x => rfl) (AgrL.yes (by kernel_rfl) (AgrL.yes (by kernel_rfl) (AgrL.no (fun s x => rfl) (AgrL.no (fun s x => rfl) (AgrL.no (fun s x => rfl) (AgrL.yes (by kernel_rfl) (AgrL.yes (by kernel_rfl) (AgrL.yes (by kernel_rfl) (AgrL.nil)))))))))))))))))) (AgrAll.cons (AgrL.no (fun s x => rfl) (AgrL.no (fun s x => rfl) (AgrL.no (fun s x => rfl) (AgrL.no (fun s x => rfl) (AgrL.no (fun s x => rfl) (AgrL.no (fun s x => rfl) (AgrL.no (fun s x => rfl) (AgrL.no (fun s x => rfl) (AgrL.no (fun s x => rfl) (AgrL.no (fun s x => rfl) (AgrL.no (fun s x => rfl) (AgrL.no (fun s x => rfl) (AgrL.no (fun s x => rfl) (AgrL.yes (by kernel_rfl) (AgrL.yes (by kernel_rfl) (AgrL.yes (by kernel_rfl) (AgrL.yes (by kernel_rfl) (AgrL.nil)))))))))))))))))) (AgrAll.nil))
    intro s5
    refine End.shapeD (by kernel_rfl) (new := [(2, _), (44, _), (45, _), (46, _), (47, _), (48, _), (49, _), (50, _), (51, _), (52, _), (53, _), (54, _), (55, _), (56, _), (57, _), (58, _), (59, _)]) (H' := [_, _, _, _, _, _, _]) (Env.sub_cons rfl (Env.sub_cons rfl (Env.sub_cons rfl (Env.sub_cons rfl (Env.sub_cons rfl (Env.sub_cons rfl (Env.sub_cons rfl (Env.sub_cons rfl (Env.sub_cons rfl (Env.sub_cons rfl (Env.sub_cons rfl (Env.sub_cons rfl (Env.sub_cons rfl (Env.sub_cons rfl (Env.sub_cons rfl (Env.sub_cons rfl (Env.sub_cons rfl (Env.sub_nil)))))))))))))))))) rfl ?_
    refine End.seq ?_
    refine WC.ret ?_
    refine End.blkR ?_
    refine End.thenR ?_
    refine End.ret1 rfl rfl ?_
    exact fun w' hs' => RetV.of (by rw [out0]; first | done | rfl) hs'
  ·
    exact absurd hk (by simpa using hc11)

theorem refBody_any {e : E} {va vg : Value} {i : Nat} (hi : i < 5) (w : World) (hk : e.kind = (i : Int)) (hok : (kinds i).ok e = true) (ha : EntAt w e va vg) : Calls Tryz.prog 141 #[.agg (e.cells va vg)] w (RetV w (.string ((kinds i).out bempty e))) := by
  rcases (by omega : i = 0 ∨ i = 1 ∨ i = 2 ∨ i = 3 ∨ i = 4) with rfl | rfl | rfl | rfl | rfl
  · exact refBody0_any e va vg w hk hok ha
  · exact refBody1_any e va vg w hk hok ha
  · exact refBody2_any e va vg w hk hok ha
  · exact refBody3_any e va vg w hk hok ha
  · exact refBody4_any e va vg w hk hok ha
theorem recE_parts {e : E} {i : Nat} (hi : i < 5) (hk : e.kind = (i : Int)) (hv : validE e = true) : recE e = keyE e.kind e.name ++ (kinds i).out bempty e := by
  rw [recE_kind hi hk hv, keyE_kind hi hk]; rfl
theorem keyE_le (k : Int) (s : ByteArray) : (keyE k s).size ≤ 32 := by
  unfold keyE
  split
  · exact KF.key_size _ _
  · decide

set_option maxRecDepth 100000 in
theorem refEncode_any (e : E) (va vg : Value) (w : World) (ha : EntAt w e va vg) (hsz : e.name.size < 4294967281) :
    Calls Tryz.prog 55 #[.agg (e.cells va vg)] w (RetV w (.tuple #[.string (recE e), .int .i64 (if validE e = true then 0 else 1)])) := by
  have ha0 := ha
  obtain ⟨⟨A1, c1, rfl, hc1, hr1⟩, ⟨A2, c2, rfl, hc2, hr2⟩⟩ := ha
  refine enter Tryz.func55 rfl Tryz.ntmps55 rfl ?_
  refine WC.seq ?_
  refine WC.region ?_
  refine WL.box rfl rfl rfl (fun b1 => ?_)
  refine WL.p rfl rfl rfl (P.assign rfl) ?_
  refine WL.p rfl rfl rfl (P.assign rfl) ?_
  refine WL.nil_ ?_
  refine End.seq ?_
  refine WC.seq ?_
  refine WC.seq ?_
  refine WC.region ?_
  refine WL.p rfl rfl rfl (P.loadW 0 Tryz.isAgg34 Tryz.sizeOf34 rfl rfl rfl) ?_
  refine WL.callv (ent_of Tryz.func48 rfl rfl) rfl rfl rfl (fun w hs => refValidE_any e _ _ w (ha0.st hs) hsz) ?_
  refine WL.p rfl rfl rfl (P.not_ rfl) ?_
  refine WL.nil_ ?_
  refine End.seq ?_
  refine WC.cond rfl (fun hc6 => ?_) (fun hc6 => ?_)
  ·
    have hv : validE e = false := by rw [valid_eq]; simpa using hc6
    refine WC.seq ?_
    refine WC.region ?_
    refine WL.p rfl rfl rfl (P.assign rfl) ?_
    refine WL.p rfl rfl rfl (P.assign rfl) ?_
    refine WL.nil_ ?_
    refine End.seq ?_
    refine WC.ret ?_
    refine End.thenR ?_
    refine End.ret2 rfl rfl rfl ?_
    exact fun w' hs' => RetV.of (by rw [recE_no hv, hv]; first | done | rfl) hs'
  ·
    have hv : validE e = true := by rw [valid_eq]; simpa using hc6
    obtain ⟨i, hi, hk, hvi⟩ := validE_ex hv
    have hol := out_le hi (valid_parts hi hk hvi).2.1
    have hkl := keyE_le e.kind e.name
    refine WC.skip ?_
    refine End.seq ?_
    refine WC.seq ?_
    refine WC.quiet (by kernel_rfl) ?_
    refine WQ.p rfl rfl rfl (P.fieldAddr fa_34_0 rfl) ?_
    refine WQ.p rfl rfl rfl (P.loadO 0 Tryz.isAgg3 rfl rfl rfl) ?_
    refine WQ.p rfl rfl rfl (P.fieldAddr fa_34_1 rfl) ?_
    refine WQ.p rfl rfl rfl (P.loadO 0 Tryz.isAgg9 rfl rfl rfl) ?_
    refine WQ.callv (ent_of Tryz.func50 rfl rfl) rfl rfl rfl (fun w hs => refKey_any e.kind e.name w) ?_
    refine WQ.p rfl rfl rfl (P.loadW 0 Tryz.isAgg34 Tryz.sizeOf34 rfl rfl rfl) ?_
    refine WQ.callv (ent_of Tryz.func141 rfl rfl) rfl rfl rfl (fun w hs => refBody_any hi w hk (valid_parts hi hk hvi).2.1 (ha0.st hs)) ?_
    refine WQ.p rfl rfl rfl (P.cat rfl rfl (by omega)) ?_
    refine WQ.p rfl rfl rfl (P.assign rfl) ?_
    refine WQ.p rfl rfl rfl (P.assign rfl) ?_
    refine WQ.nil_ ?_
    refine End.seq ?_
    refine WC.ret ?_
    refine End.ret2 rfl rfl rfl ?_
    exact fun w' hs' => RetV.of (by rw [recE_parts hi hk hv, if_pos hv]; first | done | rfl) hs'

set_option maxRecDepth 100000 in
theorem records33_law (e : E) (va vg : Value) (w : World) (hg : Good w) (ha : EntAt w e va vg) (hb : Eb e) :
    Calls Tryz.prog 12 #[.agg (e.cells va vg)] w (RetV w (.bool true)) := by
  have ha0 := ha
  obtain ⟨⟨A1, c1, rfl, hc1, hr1⟩, ⟨A2, c2, rfl, hc2, hr2⟩⟩ := ha
  refine enter Tryz.func12 rfl Tryz.ntmps12 rfl ?_
  refine WC.seq ?_
  refine WC.region ?_
  refine WL.box rfl rfl rfl (fun b1 => ?_)
  refine WL.p rfl rfl rfl (P.assign rfl) ?_
  refine WL.nil_ ?_
  refine End.seq ?_
  refine WC.seq ?_
  refine WC.seq ?_
  refine WC.region ?_
  refine WL.callv (ent_of Tryz.func45 rfl rfl) rfl rfl rfl (fun w hs => awake33_any w (hg.st hs)) ?_
  refine WL.p rfl rfl rfl (P.not_ rfl) ?_
  refine WL.nil_ ?_
  refine End.seq ?_
  refine WC.condF rfl ?_
  refine WC.skip ?_
  refine End.seq ?_
  refine WC.seq ?_
  refine WC.seq ?_
  refine WC.region ?_
  refine WL.p rfl rfl rfl (P.loadW 0 Tryz.isAgg34 Tryz.sizeOf34 rfl rfl rfl) ?_
  refine WL.callv (ent_of Tryz.func46 rfl rfl) rfl rfl rfl (fun w hs => few33_any e _ _ w (ha0.st hs) (by have := hb.owner; omega) (by have := hb.target; omega) (by have := hb.ds.volume; omega) (by have := hb.ds.owner; omega)) ?_
  refine WL.p rfl rfl rfl (P.not_ rfl) ?_
  refine WL.nil_ ?_
  refine End.seq ?_
  refine WC.cond rfl (fun hc11 => ?_) (fun hc11 => ?_)
  ·
    refine WC.seq ?_
    refine WC.region ?_
    refine WL.p rfl rfl rfl (P.assign rfl) ?_
    refine WL.nil_ ?_
    refine End.seq ?_
    refine WC.ret ?_
    refine End.thenR ?_
    refine End.ret1 rfl rfl ?_
    exact fun w' hs' => RetV.of rfl hs'
  ·
    have hl := few_lim (show few33 e = true by simpa using hc11)
    refine WC.skip ?_
    refine End.seq ?_
    refine WC.seq ?_
    refine WC.region ?_
    refine WL.p rfl rfl rfl (P.loadW 0 Tryz.isAgg34 Tryz.sizeOf34 rfl rfl rfl) ?_
    refine WL.callv (ent_of Tryz.func54 rfl rfl) rfl rfl rfl (fun w hs => encodeE_any e _ _ w (hg.st hs) (ha0.st hs) (by omega)) ?_
    refine WL.p rfl rfl rfl (P.move rfl) ?_
    refine WL.p rfl rfl rfl (P.extract rfl rfl) ?_
    refine WL.p rfl rfl rfl (P.extract rfl rfl) ?_
    refine WL.p rfl rfl rfl (P.assign rfl) ?_
    refine WL.p rfl rfl rfl (P.assign rfl) ?_
    refine WL.nil_ ?_
    refine End.seq ?_
    refine WC.seq ?_
    refine WC.region ?_
    refine WL.p rfl rfl rfl (P.loadW 0 Tryz.isAgg34 Tryz.sizeOf34 rfl rfl rfl) ?_
    refine WL.callv (ent_of Tryz.func55 rfl rfl) rfl rfl rfl (fun w hs => refEncode_any e _ _ w (ha0.st hs) (by omega)) ?_
    refine WL.p rfl rfl rfl (P.move rfl) ?_
    refine WL.p rfl rfl rfl (P.extract rfl rfl) ?_
    refine WL.p rfl rfl rfl (P.extract rfl rfl) ?_
    refine WL.p rfl rfl rfl (P.assign rfl) ?_
    refine WL.p rfl rfl rfl (P.assign rfl) ?_
    refine WL.nil_ ?_
    refine End.seq ?_
    refine WC.seq ?_
    refine WC.region ?_
    refine WL.p rfl rfl rfl (P.move rfl) ?_
    refine WL.p rfl rfl rfl (P.move rfl) ?_
    refine WL.p rfl rfl rfl (P.cmps rfl rfl (cmpS_eq rfl)) ?_
    refine WL.p rfl rfl rfl (P.move rfl) ?_
    refine WL.p rfl rfl rfl (P.move rfl) ?_
    refine WL.p rfl rfl rfl (P.move rfl) ?_
    refine WL.p rfl rfl rfl (P.cmp rfl rfl rfl) ?_
    refine WL.p rfl rfl rfl (P.pickT rfl rfl) ?_
    refine WL.p rfl rfl rfl (P.assign rfl) ?_
    refine WL.nil_ ?_
    refine End.seq ?_
    refine WC.ret ?_
    refine End.ret1 rfl rfl ?_
    exact fun w' hs' => RetV.of (by simp) hs'

end Go.Proofs.YtlkkiimmangplaaGreatDoor

/- The library's table of decimal powers, out of the rows' laid variables. -/
namespace Go.Proofs.YtlkkiimmangplaaGreatDoor
open Go.RowKit
set_option linter.unusedVariables false
abbrev laidL : List (String × DataW Unit) := [("math/bits.deBruijn32tab", Rows.laid_math_bits_deBruijn32tab), ("math/bits.deBruijn64tab", Rows.laid_math_bits_deBruijn64tab), ("internal/strconv.uint64pow10", Rows.laid_internal_strconv_uint64pow10), ("unicode/utf8.acceptRanges", Rows.laid_unicode_utf8_acceptRanges), ("unicode/utf8.first", Rows.laid_unicode_utf8_first)]
theorem pow10_at : Tryz.prog.globalNamed "internal/strconv.uint64pow10" = some 1 := by kernel_rfl
theorem pow10_type : (Tryz.prog.globals[1]?).map (·.type) = some 323 := by kernel_rfl
theorem pow10_u : Tryz.prog.underlying 323 = some (.array 20 255) := by kernel_rfl
theorem pow10_e : Tryz.prog.underlying 255 = some (.int .u64) := by kernel_rfl
theorem tab_of_laid {W : World} (h : laidMetH Tryz.prog laidL W) : Lib.TabBelow Tryz.prog W.heap.size W "internal/strconv.uint64pow10" .u64 Lib.pow10Tab := by
  rw [MakeChecks.laidMetH_plain _ _ _ (by kernel_rfl)] at h
  refine Lib.tabBelow_of_tabIs ?_
  obtain ⟨ps, ⟨_, _, _, _, _, _, _, _, _, _, ⟨_, _, _, _, _, _, _, _, _, _, ⟨g, t, cs, fuel, p, q, hg, ht, hvar, hd, _, _⟩, _⟩, _⟩, _⟩ := h
  obtain rfl := Option.some.inj (pow10_at.symm.trans hg)
  obtain rfl := Option.some.inj (pow10_type.symm.trans ht)
  unfold Lib.TabIs
  have hd2 : DataW.trod (fun _ => ()) Tryz.prog W 0 (fun _ => true) false fuel 323 cs.toList = some (Lib.tabData .u64 Lib.pow10Tab, p) := hd
  rw [hvar, ← Lib.cells_of_tab pow10_u pow10_e (by kernel_rfl) (by kernel_rfl) hd2]
theorem good_of {W : World} (hsh : W.ShapedOpen Tryz.prog) (h : laidMetH Tryz.prog laidL W) : Good W := ⟨hsh, tab_of_laid h⟩
end Go.Proofs.YtlkkiimmangplaaGreatDoor

/- The closed facts of the program that all rows ask. -/
namespace Go.Proofs.YtlkkiimmangplaaGreatDoor
open Go
set_option linter.unusedVariables false
set_option linter.unusedSimpArgs false

open Go.ChangeShapes Go.WideShapes
set_option maxRecDepth 100000

theorem words_of {l : List (List Char)} {h s c : List Char} (hl : l.take 3 = [h, s, c]) : ∃ r, l = h :: s :: c :: r := by
  match l, hl with
  | a :: b :: d :: r, hl =>
    simp only [List.take_succ_cons, List.take_zero, List.cons.injEq, and_true] at hl
    obtain ⟨rfl, rfl, rfl⟩ := hl
    exact ⟨r, rfl⟩
  | [], hl => cases hl
  | [_], hl => cases hl
  | [_, _], hl => cases hl
theorem behind_of {l : List (List Char)} {h s c : List Char} (hl : l.take 3 = [h, s, c]) (hs : ((h == "harness".toList || h == "ownmain".toList) && isSumSigns s) = true) : ∃ r, behindMainWord l = c :: r := by
  obtain ⟨r, rfl⟩ := words_of hl
  refine ⟨r, ?_⟩
  simp only [behindMainWord]
  rw [if_pos hs]
theorem main_of {P : Program} {s c : List Char} {h : List Char} (hl : (wordsSigns P.initOrder.toList).take 3 = [h, s, c]) (hs : isSumSigns s = true) (hh : (h == "harness".toList) = true) : P.mainIs = some (true, s) := by
  obtain ⟨r, hr⟩ := words_of hl
  unfold Program.mainIs
  rw [hr]
  simp only [hs, hh]
  rfl
theorem may_of {P : Program} {r : List (List Char)} {c : List Char} (h : behindMainWord (wordsSigns P.initOrder.toList) = c :: r) (hs : stripLifts liftWords (c :: r) = ([], c :: r)) (hc : (some c == some "cut".toList) = true) (h1 : P.laysLater = false) (h2 : P.bearsReflect = false) (h3 : P.doorFits [] = true) : P.mayEnter = true := by
  unfold Program.mayEnter
  rw [h]
  simp only [hs, h1, h2, h3, List.head?_cons, hc]
  simp
theorem head_of {P : Program} {r : List (List Char)} {c : List Char} (h : behindMainWord (wordsSigns P.initOrder.toList) = c :: r) (hs : stripLifts liftWords (c :: r) = ([], c :: r)) : P.headLifts = [] := by
  unfold Program.headLifts
  rw [h]
  simp only [hs]
  simp
theorem final_of {P : Program} {r : List (List Char)} {c : List Char} (h : behindMainWord (wordsSigns P.initOrder.toList) = c :: r) (hh : P.headLifts = []) (hc : (some c == some "carried".toList) = false) : P.liftsFinal = false := by
  unfold Program.liftsFinal
  rw [h, hh]
  simp only [List.head?_cons, hc]
  simp
theorem make_of {P : Program} {r : List (List Char)} {c : List Char} (h : behindMainWord (wordsSigns P.initOrder.toList) = c :: r) (h1 : (c == "gc".toList) = false) (h2 : (c == "spec".toList) = false) (h3 : (c == "cut".toList) = true) : P.make = some .cut := by
  unfold Program.make
  rw [h]
  simp only [h1, h2, h3]
  rfl
theorem strip_cut (r : List (List Char)) : stripLifts liftWords ("cut".toList :: r) = ([], "cut".toList :: r) := by rfl
theorem jw3 : (wordsSigns Tryz.prog.initOrder.toList).take 3 = ["harness".toList, "1f55a028107fcf6cc6d30742e76c2172639d12f8ca8a28f69385b22ba6fbaccc".toList, "cut".toList] := by kernel_rfl
theorem jlays : Tryz.prog.laysLater = false := by kernel_rfl
theorem jrefl : Tryz.prog.bearsReflect = false := by kernel_rfl
theorem jdoor : Tryz.prog.doorFits [] = true := by kernel_rfl
theorem jsum : (("harness".toList == "harness".toList || "harness".toList == "ownmain".toList) && isSumSigns "1f55a028107fcf6cc6d30742e76c2172639d12f8ca8a28f69385b22ba6fbaccc".toList) = true := by kernel_rfl
theorem jsum1 : isSumSigns "1f55a028107fcf6cc6d30742e76c2172639d12f8ca8a28f69385b22ba6fbaccc".toList = true := by kernel_rfl
theorem jb : ∃ r, behindMainWord (wordsSigns Tryz.prog.initOrder.toList) = "cut".toList :: r := behind_of jw3 jsum
theorem jmain : Tryz.prog.mainIs = some (true, "1f55a028107fcf6cc6d30742e76c2172639d12f8ca8a28f69385b22ba6fbaccc".toList) := main_of jw3 jsum1 (by kernel_rfl)
theorem jf_25 : Tryz.prog.mayEnter = true := by
  obtain ⟨r, hr⟩ := jb
  exact may_of hr (strip_cut r) (by kernel_rfl) jlays jrefl jdoor
theorem jheadLifts : Tryz.prog.headLifts = [] := by
  obtain ⟨r, hr⟩ := jb
  exact head_of hr (strip_cut r)
theorem jf_26 : ((Rows.generationNumbersRow.lifted == Tryz.prog.liftsFinal)) = true := by
  obtain ⟨r, hr⟩ := jb
  rw [final_of hr jheadLifts (by kernel_rfl)]; rfl
theorem jf_27 : ((Tryz.prog.make == some Rows.generationNumbersRow.make)) = true := by
  obtain ⟨r, hr⟩ := jb
  rw [make_of hr (by kernel_rfl) (by kernel_rfl) (by kernel_rfl)]; rfl
theorem jlooks : false = Tryz.prog.looks [] := by kernel_rfl

theorem jf_1 : (laidOutB Tryz.prog) = true := by kernel_rfl

theorem jf_2 : (mapsRowed Tryz.prog) = true := by kernel_rfl

theorem jf_6 : ((Tryz.prog.stops == [])) = true := by kernel_rfl

theorem jf_8 : ((Tryz.prog.stopKnobs == [])) = true := by kernel_rfl

theorem jf_22 : ((Rows.generationNumbersRow.plainKeys == Tryz.prog.plainKeys)) = true := by kernel_rfl

theorem jf_24 : (Tryz.prog.stopsHeard) = true := by kernel_rfl

end Go.Proofs.YtlkkiimmangplaaGreatDoor
