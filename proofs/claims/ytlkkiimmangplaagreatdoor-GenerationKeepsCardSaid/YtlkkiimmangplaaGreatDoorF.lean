/- A small frame for walks: slots as a list, own memory as a list of blocks, and one step for each kind of operation. -/
import Derived.Test.YtlkkiimmangplaaGreatDoorProg
import Derived.WalkKit
import Derived.WalkLawsBesides
import Derived.Lib.Hide
import Derived.Deep.LoopGhost
namespace Go.Proofs.YtlkkiimmangplaaGreatDoor
open Go.RowKit

/-! ### Slots -/
abbrev Env := List (Nat × Value)
def Env.find : Env → Nat → Option Value
  | [], _ => none
  | (k, v) :: r, i => bif Nat.beq k i then some v else Env.find r i

structure Fits (n : Nat) (ρ : Env) (a : Act) : Prop where
  defers : a.defers = []
  size : a.tmps.size = n
  at_ : ∀ i v, Env.find ρ i = some v → a.tmps[i]? = some v

def ev (ρ : Env) : Operand → Option Value
  | .tmp t => Env.find ρ t
  | .const v => some v
  | .global g => some (.pointer (some ⟨g, 0, none⟩))
  | .func f => some (.func (.func f) #[] #[])

theorem Fits.eval {n : Nat} {ρ : Env} {a : Act} (h : Fits n ρ a) {x : Operand} {v : Value} (hx : ev ρ x = some v) : a.eval x = v := by
  cases x with
  | tmp t =>
    have := h.at_ t v hx
    simp [Act.eval, this]
  | const c => simpa [ev, Act.eval] using hx
  | global g => simpa [ev, Act.eval] using hx
  | func f => simpa [ev, Act.eval] using hx

theorem Fits.put {n d : Nat} {ρ : Env} {a : Act} {v : Value} (h : Fits n ρ a) (hd : Nat.blt d n = true) : Fits n ((d, v) :: ρ) (a.put (some d) v) := by
  have hd' : d < n := by simpa [Nat.blt, Nat.succ_le_iff] using hd
  refine ⟨h.defers, by simp [Act.put, h.size], fun i u hi => ?_⟩
  simp only [Act.put]
  unfold Env.find at hi
  by_cases he : d = i
  · subst he
    simp at hi
    subst hi
    simp [h.size, hd']
  · have hb : Nat.beq d i = false := by
      cases hq : Nat.beq d i with
      | false => rfl
      | true => exact absurd (Nat.eq_of_beq_eq_true hq) he
    rw [hb] at hi
    simp only [cond_false] at hi
    rw [Array.getElem?_setIfInBounds_ne (by omega)]
    exact h.at_ i u hi

theorem Fits.none_ {n : Nat} {ρ : Env} {a : Act} {v : Value} (h : Fits n ρ a) : Fits n ρ (a.put none v) := h

def dput (d : Option Nat) (v : Value) (ρ : Env) : Env := match d with | some d => (d, v) :: ρ | none => ρ
def dlt (d : Option Nat) (n : Nat) : Bool := match d with | some d => Nat.blt d n | none => true
theorem Fits.dput {n : Nat} {d : Option Nat} {ρ : Env} {a : Act} {v : Value} (h : Fits n ρ a) (hd : dlt d n = true) : Fits n (dput d v ρ) (a.put d v) := by
  cases d with
  | none => exact h
  | some d => exact h.put hd

/-- Fewer slots are told, or in another order. -/
def Env.sub (ρ' ρ : Env) : Prop := ∀ i v, Env.find ρ' i = some v → Env.find ρ i = some v
theorem Fits.sub {n : Nat} {ρ ρ' : Env} {a : Act} (h : Fits n ρ a) (hs : Env.sub ρ' ρ) : Fits n ρ' a := ⟨h.defers, h.size, fun i v hi => h.at_ i v (hs i v hi)⟩
theorem Env.sub_nil {ρ : Env} : Env.sub [] ρ := fun i v h => by simp [Env.find] at h
theorem Env.sub_cons {ρ ρ' : Env} {k : Nat} {v : Value} (h : Env.find ρ k = some v) (hs : Env.sub ρ' ρ) : Env.sub ((k, v) :: ρ') ρ := fun i u hi => by
  unfold Env.find at hi
  cases hq : Nat.beq k i with
  | true =>
    rw [hq] at hi
    simp at hi
    subst hi
    rw [← Nat.eq_of_beq_eq_true hq]
    exact h
  | false =>
    rw [hq] at hi
    exact hs i u hi

/-! ### Own memory -/
inductive It
  | blk (g : Nat) (t : TypeId) (cs : Array Value)
  | row (e : TypeId) (sz : Nat) (v : Value) (n : Nat) (xs : List Value)
  | map (g : Nat) (es : Array MapEntry) (clock : Nat)
  | nil

def It.key : It → Option Nat
  | .blk g _ _ => some g
  | .row _ _ v _ _ => v.ownBlock
  | .map g _ _ => some g
  | .nil => none

def It.ok (B : Nat) (w : World) : It → Prop
  | .blk g t cs => B ≤ g ∧ w.heap[g]? = some (.cells cs t (0, 0))
  | .row e sz v n xs => w.ownsRow B e sz v n xs
  | .map g es c => B ≤ g ∧ w.heap[g]? = some (.map es c)
  | .nil => True

theorem lt_of_heap {w : World} {g : Nat} {o : Obj} (h : w.heap[g]? = some o) : g < w.heap.size := (Array.getElem?_eq_some_iff.1 h).1

theorem It.base {B : Nat} {w : World} {i : It} (h : It.ok B w i) {k : Nat} (hk : i.key = some k) : B ≤ k ∧ k < w.heap.size := by
  cases i with
  | nil => cases hk
  | blk g t cs => simp [It.key] at hk; subst hk; exact ⟨h.1, lt_of_heap h.2⟩
  | map g es c => simp [It.key] at hk; subst hk; exact ⟨h.1, lt_of_heap h.2⟩
  | row e sz v n xs =>
    rcases h.2 with ⟨rfl, _⟩ | ⟨g, cap, cur, rfl, hb, hh, _⟩
    · simp [It.key, Value.ownBlock] at hk
    · simp [It.key, Value.ownBlock] at hk
      subst hk
      exact ⟨hb, lt_of_heap hh⟩

theorem It.keep {B : Nat} {w w' : World} {i : It} (h : It.ok B w i) (hk : ∀ k, i.key = some k → w'.heap[k]? = w.heap[k]?) : It.ok B w' i := by
  cases i with
  | nil => trivial
  | blk g t cs => exact ⟨h.1, (hk g rfl).trans h.2⟩
  | map g es c => exact ⟨h.1, (hk g rfl).trans h.2⟩
  | row e sz v n xs =>
    refine ⟨h.1, ?_⟩
    rcases h.2 with h2 | ⟨g, cap, cur, rfl, hb, hh, r⟩
    · exact .inl h2
    · exact .inr ⟨g, cap, cur, rfl, hb, (hk g rfl).trans hh, r⟩

theorem It.lower {B B' : Nat} {w : World} {i : It} (h : It.ok B w i) (hB : B' ≤ B) : It.ok B' w i := by
  cases i with
  | nil => trivial
  | blk g t cs => exact ⟨Nat.le_trans hB h.1, h.2⟩
  | map g es c => exact ⟨Nat.le_trans hB h.1, h.2⟩
  | row e sz v n xs =>
    refine ⟨h.1, ?_⟩
    rcases h.2 with h2 | ⟨g, cap, cur, rfl, hb, r⟩
    · exact .inl h2
    · exact .inr ⟨g, cap, cur, rfl, Nat.le_trans hB hb, r⟩

/-- Own blocks, each another one; what lay there before is as it was. -/
structure St (w0 : World) (H : List It) (w : World) : Prop where
  below : Below w0.heap.size w0 w
  ok : ∀ (i : Nat) (x : It), H[i]? = some x → It.ok w0.heap.size w x
  apart : ∀ (i j : Nat) (x y : It), H[i]? = some x → H[j]? = some y → i ≠ j → ∀ k, x.key = some k → y.key ≠ some k

theorem St.refl (w : World) : St w [] w := ⟨Below.refl _ _, fun _ _ h => by simp at h, fun _ _ _ _ h => by simp at h⟩

theorem St.size {w0 w : World} {H : List It} (h : St w0 H w) : w0.heap.size ≤ w.heap.size := h.below.size

/-- Behind a call (or any step) that leaves all that there was, and lays H'. -/
theorem St.call {w0 w w' : World} {H H' : List It} (h : St w0 H w) (k : St w H' w') : St w0 (H' ++ H) w' := by
  have hk : ∀ (i : Nat) (x : It), (H' ++ H)[i]? = some x → (i < H'.length ∧ H'[i]? = some x) ∨ (H'.length ≤ i ∧ H[i - H'.length]? = some x) := fun i x hx => by
    rcases Nat.lt_or_ge i H'.length with hi | hi
    · rw [List.getElem?_append_left hi] at hx; exact .inl ⟨hi, hx⟩
    · rw [List.getElem?_append_right hi] at hx; exact .inr ⟨hi, hx⟩
  refine ⟨h.below.trans (k.below.mono h.size), ?_, ?_⟩
  · intro i x hx
    rcases hk i x hx with ⟨_, hx⟩ | ⟨_, hx⟩
    · exact It.lower (k.ok i x hx) h.size
    · exact It.keep (h.ok _ x hx) fun b hb => k.below.block b (It.base (h.ok _ x hx) hb).2
  · intro i j x y hx hy hij b hb hb'
    rcases hk i x hx with ⟨h1, hx⟩ | ⟨h1, hx⟩ <;> rcases hk j y hy with ⟨h2, hy⟩ | ⟨h2, hy⟩
    · exact k.apart i j x y hx hy hij b hb hb'
    · have := (It.base (k.ok _ x hx) hb).1
      have := (It.base (h.ok _ y hy) hb').2
      omega
    · have := (It.base (h.ok _ x hx) hb).2
      have := (It.base (k.ok _ y hy) hb').1
      omega
    · exact h.apart _ _ x y hx hy (by omega) b hb hb'

theorem St.drew {w0 w : World} {H : List It} (h : St w0 H w) : St w0 H w.drew :=
  ⟨h.below.drew, fun i x hi => It.keep (h.ok i x hi) fun _ _ => rfl, h.apart⟩

theorem St.new (w : World) (t : TypeId) (cs : Array Value) : St w [.blk w.heap.size t cs] (w.alloc (.cells cs t)) :=
  ⟨(Below.refl _ _).alloc (Nat.le_refl _) _, fun i x hi => by
    cases i with
    | zero => simp at hi; subst hi; exact ⟨Nat.le_refl _, heap_alloc_new w _⟩
    | succ i => simp at hi, fun i j x y hx hy hij => by
    cases i <;> cases j <;> simp_all⟩

theorem St.alloc {w0 w : World} {H : List It} (h : St w0 H w) (t : TypeId) (cs : Array Value) : St w0 (.blk w.heap.size t cs :: H) (w.alloc (.cells cs t)) :=
  h.call (St.new w t cs)

/-- The items with these numbers (each once). -/
def sel (H : List It) (l : List Nat) : List It := l.map fun i => H.getD i .nil
def selOk (H : List It) (l : List Nat) : Bool := l.all (fun i => Nat.blt i H.length) && decide l.Nodup

theorem St.sel {w0 w : World} {H : List It} (h : St w0 H w) (l : List Nat) (hl : selOk H l = true) : St w0 (sel H l) w := by
  simp only [selOk, Bool.and_eq_true, decide_eq_true_eq, List.all_eq_true] at hl
  obtain ⟨h1, h2⟩ := hl
  have hg : ∀ (i : Nat) (x : It), (Go.Proofs.YtlkkiimmangplaaGreatDoor.sel H l)[i]? = some x → ∃ (hi : i < l.length), H[l[i]]? = some x := by
    intro i x hx
    have hi : i < l.length := by
      rcases Nat.lt_or_ge i l.length with h' | h'
      · exact h'
      · rw [List.getElem?_eq_none (by simpa [Go.Proofs.YtlkkiimmangplaaGreatDoor.sel] using h')] at hx; cases hx
    refine ⟨hi, ?_⟩
    have hlt : l[i] < H.length := by
      have := h1 l[i] (List.getElem_mem hi)
      simpa [Nat.blt, Nat.succ_le_iff] using this
    simp only [Go.Proofs.YtlkkiimmangplaaGreatDoor.sel, List.getElem?_map, List.getElem?_eq_getElem hi, Option.map_some, List.getD_eq_getElem?_getD, List.getElem?_eq_getElem hlt, Option.getD_some] at hx
    rw [List.getElem?_eq_getElem hlt]
    exact hx
  refine ⟨h.below, fun i x hx => ?_, fun i j x y hx hy hij k hk hk' => ?_⟩
  · obtain ⟨_, hx⟩ := hg i x hx
    exact h.ok _ x hx
  · obtain ⟨hi, hx⟩ := hg i x hx
    obtain ⟨hj, hy⟩ := hg j y hy
    exact h.apart _ _ x y hx hy (fun e => hij ((List.getElem_inj h2).1 e)) k hk hk'

/-- An item takes the place of another one in the same block, behind a step that turned no other block. -/
theorem St.swap {w0 w w' : World} {H : List It} (h : St w0 H w) (i : Nat) {x x' : It} (hi : H[i]? = some x) (hkey : ∀ k, x'.key = some k → x.key = some k ∨ w.heap.size ≤ k) (hok : It.ok w0.heap.size w' x')
    (hb : Below w0.heap.size w0 w') (hkeep : ∀ k, k < w.heap.size → x.key ≠ some k → w'.heap[k]? = w.heap[k]?) : St w0 (H.set i x') w' := by
  have hlen : i < H.length := (List.getElem?_eq_some_iff.1 hi).1
  refine ⟨hb, fun j y hy => ?_, fun j l y z hy hz hjl k hk hk' => ?_⟩
  · by_cases hji : i = j
    · subst hji
      rw [List.getElem?_set_self hlen] at hy
      injection hy with hy
      subst hy
      exact hok
    · rw [List.getElem?_set_ne hji] at hy
      exact It.keep (h.ok j y hy) fun k hk => hkeep k (It.base (h.ok j y hy) hk).2 (fun e => h.apart i j x y hi hy hji k e hk)
  · by_cases hji : i = j
    · subst hji
      rw [List.getElem?_set_self hlen] at hy
      injection hy with hy
      subst hy
      rw [List.getElem?_set_ne hjl] at hz
      rcases hkey k hk with e | e
      · exact h.apart i l x z hi hz hjl k e hk'
      · have := (It.base (h.ok l z hz) hk').2
        omega
    · rw [List.getElem?_set_ne hji] at hy
      by_cases hli : i = l
      · subst hli
        rw [List.getElem?_set_self hlen] at hz
        injection hz with hz
        subst hz
        rcases hkey k hk' with e | e
        · exact h.apart j i y x hy hi hjl k hk e
        · have := (It.base (h.ok j y hy) hk).2
          omega
      · rw [List.getElem?_set_ne hli] at hz
        exact h.apart j l y z hy hz hjl k hk hk'

end Go.Proofs.YtlkkiimmangplaaGreatDoor
